/-
  Part of the proof that FlatFlattens answers true: texts put together (wip/bundle.py).
-/
import Derived.Test.YtiijbmaamblidaaGreatDoorCFlatFlattens3
import Derived.Sort.OwnSorted
import Derived.Shelf.GgSortFunc.Insertion
import Derived.Shelf.SlGeneric
import Derived.Shelf.SlSortCmp.NoneTotal
import Derived.Shelf.SlicesG.Cmp
import Derived.Ground.SlsfProg
import Derived.Ground.SlgcProg
import Derived.Test.YtiijbmaamblidaaGreatDoorProg
import Derived.Sort.KeysCollected
import Derived.Maps.RangeWalk
namespace Go.Proofs.YtiijbmaamblidaaGreatDoor
open Go.RowKit Go.Maps Go.Proofs.YtiijbmaamblidaaGreatDoor.Print Go.Proofs.YtiijbmaamblidaaGreatDoorW.PrintWords Go.Proofs.YtiijbmaamblidaaGreatDoorW.PrintLast Go.Proofs.YtiijbmaamblidaaGreatDoorW.PrintMore
set_option linter.unusedVariables false
set_option linter.unusedSimpArgs false
theorem good_full {m : Mem} (h : goodM m = true) : m.f0.toList ≠ [] := by
 intro e
 have h1 := (goodM_clean h).1
 unfold cleanOk at h1
 simp only [Bool.and_eq_true, decide_eq_true_iff] at h1
 obtain ⟨h2, h3⟩ := h1
 rw [e] at h3
 unfold cleanF at h2 h3
 split at h2
 ·cases h2
 ·rename_i c1
  rw [if_neg c1] at h3
  split at h2
  ·cases h2
  ·rename_i c2
   rw [if_neg c2] at h3
   split at h2
   ·cases h2
   ·rename_i c3
    rw [if_neg c3] at h3
    split at h2
    ·cases h2
    ·rename_i c4
     rw [if_neg c4] at h3
     apply c4
     rw [← h3]
     rfl
theorem rcell'' {W w1 : World} {row : Option Nat} (hg : W.grownBy w1 row) {g o : Nat} (hlt : g < W.heap.size) (hne : some g ≠ row) : w1.cell? ⟨g, o, none⟩ = W.cell? ⟨g, o, none⟩ := World.cell?_of_block (a := ⟨g, o, none⟩) (hg.block g hlt hne)
theorem rfroz'' {W w1 : World} {row : Option Nat} (hg : W.grownBy w1 row) {g o : Nat} (hlt : g < W.heap.size) (hne : some g ≠ row) : w1.frozen? ⟨g, o, none⟩ = W.frozen? ⟨g, o, none⟩ := World.frozen?_of_block (a := ⟨g, o, none⟩) (hg.block g hlt hne)
theorem FoldBad_calls (x : Mem) (A : Option Addr) (c : Nat) (W : World) (hT : Tabs W) (hz : MemZ x) (hx : Kd.C (Kd.int .u8) W A x.f4.length x.f4) (hc : x.f4.length ≤ c) :
  Calls Tryz.prog 28 #[.agg (memCells x (.slice A x.f4.length c))] W fun e W' => e = .returned (.bool (!goodM x)) ∧ Below W.heap.size W W' := by
 obtain ⟨kg, hkg⟩ := Ev.rounds (member_Good_eq x hz)
 generalize goodM x = g at hkg
 have HK := Aside0.mk hkg
 have HTA := Aside0.mk (fun o => Tabs.below hT (below_alloc (Below.refl _ _) o))
 have HX := Aside0.mk (fun o => Kd.C_alloc hx o)
 clear hkg hT hx hz
 unfold memCells
 go_enter Tryz.func28, Tryz.ntmps28
 go_wp2_with (go_at_call 29; (with_reducible refine (member_Good.calls kg x.f0 x.f1 x.f2 x.f3.f0 x.f3.f1 x.f3.f2 x.f3.f3 A c x.f4 g _ ⟨HTA.out _⟩ (HX.out _) hc HK.out).mono ?_); rintro e w5 ⟨rfl, hb5⟩)
 go_ret
 exact ⟨rfl, ((Below.refl _ _).alloc (Nat.le_refl _) _).trans (hb5.mono (by simp))⟩
def BadRel (l : List Mem) (W : World) (i : Int) (wr : World) : Prop := 0 ≤ i ∧ i ≤ l.length ∧ (∀ (j : Nat) (hj : j < l.length), (j : Int) < i → goodM l[j] = true) ∧ Below W.heap.size W wr
def badAt (l : List Mem) : Int := match l.findIdx? (fun m => !goodM m) with
 | some i => (i : Int)
 | none => -1
theorem badAt_some {l : List Mem} {j : Nat} (hj : j < l.length) (h : ∀ (k : Nat) (hk : k < l.length), k < j → goodM l[k] = true) (hb : goodM l[j] = false) : badAt l = (j : Int) := by
 unfold badAt
 rw [List.findIdx?_eq_some_iff_getElem.2 ⟨hj, by rw [hb]; rfl, fun k hk => by rw [h k (by omega) hk]; simp⟩]
theorem badAt_none {l : List Mem} (h : ∀ (k : Nat) (hk : k < l.length), goodM l[k] = true) : badAt l = -1 := by
 unfold badAt
 rw [List.findIdx?_eq_none_iff.2 (fun x hx => by obtain ⟨i, hi, rfl⟩ := List.getElem_of_mem hx; rw [h i hi]; rfl)]
set_option maxRecDepth 100000 in
set_option maxHeartbeats 2000000 in
theorem Bad_calls (A0 : Option Addr) (c0 : Nat) (l : List Mem) (W : World) (hT : Tabs W) (hC : Kd.C k43 W A0 l.length l) (hz : MemsZ l) :
  Calls Tryz.prog 27 #[.slice A0 l.length c0, .func (.func 28) #[] #[]] W fun e W' => e = .returned (.int .i64 (badAt l)) ∧ Below W.heap.size W W' := by
 have HC := Aside0.mk hC
 have HZ := Aside0.mk hz
 have HT := Aside0.mk hT
 have hlen : (l.length : Int) ≤ 1000000000000 := by have := hz.1; omega
 clear hC hz hT
 generalize hpost : (fun (e : Ending) (W' : World) => e = .returned (.int .i64 (badAt l)) ∧ Below W.heap.size W W') = Q
 have hQ := Aside0.mk hpost
 clear hpost
 go_enter Tryz.func27, Tryz.ntmps27
 go_wp2
 go_loopw [8] (fun i wr => ∃ n : Int, i = .int .i64 n ∧ Aside0 (BadRel l W n wr)) (fun i _ => (l.length - (intOf i)).toNat)
 case atStart => exact ⟨0, rfl, ⟨⟨by omega, by omega, fun j hj h => absurd h (by omega), Below.refl _ _⟩⟩⟩
 case round =>
  obtain ⟨n, rfl, HR⟩ := hrel
  have h0 := HR.out.1
  have h1 := HR.out.2.1
  have HB := Aside0.mk HR.out.2.2.2
  by_cases hlt : n < (l.length : Int)
  ·have c1 : decide (n < (l.length : Int)) = true := decide_eq_true hlt
   have hnl : n.toNat < l.length := by omega
   obtain ⟨ad, A7, c7, rfl, x0, x1, x2, x3, x4, x5, x6, x7, hl7, hC7⟩ := at_T43 (Kd.C_below HC.out HB.out) n h0 hlt
   have hx := rdM_at l n h0 hlt
   have hxz : MemZ (rd_T43 l n) := by rw [hx]; exact HZ.out.2 _ (List.getElem_mem _)
   generalize rd_T43 l n = x at hx hxz x0 x1 x2 x3 x4 x5 x6 x7 hl7 hC7
   have hcl := FoldBad_calls x A7 c7 wr (Tabs.below HT.out HB.out) hxz hC7 hl7
   have HX := Aside0.mk hx
   have HNL := Aside0.mk hnl
   clear hx hC7 hl7 hnl hxz
   cases hb : goodM x with
   | true =>
    rw [hb, Bool.not_true] at hcl
    unfold memCells at hcl
    have HC2 := Aside0.mk hcl
    have HLB := Aside0.mk hb
    clear hcl hb
    go_wp2_with (go_at_call 28; refine HC2.out.mono ?_; rintro e w1 ⟨rfl, hb1⟩)
    have hfin : BadRel l W (n + 1) w1 := by
     refine ⟨by omega, by omega, fun j hj hjn => ?_, HB.out.trans (hb1.mono HB.out.size)⟩
     rcases Nat.lt_or_ge j n.toNat with h | h
     ·exact HR.out.2.2.1 j hj (by omega)
     ·obtain rfl : j = n.toNat := by omega
      rw [← HX.out]; exact HLB.out
    clear hb1
    go_roundw
    case rel => exact ⟨n + 1, by go_num, ⟨hfin⟩⟩
    case measure => simp [intOf]; omega
   | false =>
    rw [hb, Bool.not_false] at hcl
    unfold memCells at hcl
    have HC2 := Aside0.mk hcl
    have HLB := Aside0.mk hb
    clear hcl hb
    go_wp2_with (go_at_call 28; refine HC2.out.mono ?_; rintro e w1 ⟨rfl, hb1⟩)
    rw [← hQ.out]
    refine ⟨?_, HB.out.trans (hb1.mono HB.out.size)⟩
    rw [badAt_some HNL.out (fun k hk hkn => HR.out.2.2.1 k hk (by omega)) (by rw [← HX.out]; exact HLB.out)]
    rw [Int.toNat_of_nonneg h0]
    rfl
  ·have c1 : decide (n < (l.length : Int)) = false := decide_eq_false hlt
   go_wp2
   rw [← hQ.out]
   refine ⟨?_, HB.out⟩
   rw [badAt_none (fun j hj => HR.out.2.2.1 j hj (by omega))]
theorem badAt_neg {l : List Mem} (h : ¬ badAt l ≥ 0) : l.findIdx? (fun m => !goodM m) = none := by
 unfold badAt at h
 cases hf : l.findIdx? (fun m => !goodM m) with
 | none => rfl
 | some i => rw [hf] at h; dsimp only at h; omega
theorem badAt_pos {l : List Mem} (h : badAt l ≥ 0) : ∃ i, l.findIdx? (fun m => !goodM m) = some i ∧ badAt l = (i : Int) := by
 unfold badAt at h ⊢
 cases hf : l.findIdx? (fun m => !goodM m) with
 | none => rw [hf] at h; dsimp only at h; omega
 | some i => exact ⟨i, rfl, rfl⟩
def FoldRel (l : List Mem) (W : World) (d : Nat) (i : Int) (wr : World) : Prop :=
 0 ≤ i ∧ i ≤ l.length ∧ (∃ s B, stepsF l i.toNat = some s ∧ FInv l i.toNat s ∧ DirS wr (W.heap.size + 1) d i.toNat l s B) ∧ Below W.heap.size W wr ∧ wr.cell? ⟨W.heap.size, 0, none⟩ = some (.int .i64 0) ∧ wr.cell? ⟨W.heap.size, 1, none⟩ = some (.int .i64 0) ∧ wr.frozen? ⟨W.heap.size, 0, none⟩ = false ∧ wr.frozen? ⟨W.heap.size, 1, none⟩ = false
def FoldPost (l : List Mem) (W : World) (e : Ending) (W' : World) : Prop := ∃ v, e = .returned (.tuple #[v, .agg #[.int .i64 (foldF l).2.1, .int .i64 (foldF l).2.2]]) ∧ Kd.V k49 49 W' W.heap.size (fun k => W.heap.size ≤ k) v (foldF l).1 ∧ Below W.heap.size W W' ∧ (0 < (foldF l).1.length → ∃ g c, v = .slice (some ⟨g, 0, none⟩) (foldF l).1.length c)
set_option maxRecDepth 100000 in
set_option maxHeartbeats 4000000 in
theorem Fold_calls (A0 : Option Addr) (c0 : Nat) (l : List Mem) (W : World) (hT : Tabs W) (hC : Kd.C k43 W A0 l.length l) (hz : MemsZ l) :
  Calls Tryz.prog 16 #[.slice A0 l.length c0] W (FoldPost l W) := by
 have hmm := @run_makeMap Tryz.prog
 have HBC := Aside0.mk (fun o => Bad_calls A0 c0 l _ (Tabs.below hT (below_alloc (Below.refl _ _) o)) (Kd.C_alloc hC o) hz)
 have HC := Aside0.mk hC
 have HZ := Aside0.mk hz
 have hlen : (l.length : Int) ≤ 1000000000000 := by have := hz.1; omega
 clear hC hz hT
 generalize hpost : FoldPost l W = Q
 have hQ := Aside0.mk hpost
 clear hpost
 by_cases hbad : badAt l ≥ 0
 ·obtain ⟨i, hi, hbi⟩ := badAt_pos hbad
  have hb2 : decide (badAt l ≥ 0) = true := decide_eq_true hbad
  have hb3 : decide (0 ≤ badAt l) = true := decide_eq_true hbad
  have HI := Aside0.mk hi
  have HBI := Aside0.mk hbi
  clear hi hbi
  go_enter Tryz.func16, Tryz.ntmps16
  go_wp2_with (go_at_call 27; refine (HBC.out _).mono ?_; rintro e w1 ⟨rfl, hb1⟩; obtain ⟨hc1, hf1⟩ := bcell hb1; have hz1 : W.heap.size < w1.heap.size := Nat.lt_of_lt_of_le (by simp) hb1.size; have HB1 := Aside0.mk hb1; clear hb1)
  have hB1 := ((Below.refl W.heap.size W).alloc (Nat.le_refl _) (.cells #[.int .i64 0, .int .i64 0] 27)).trans (HB1.out.mono (by simp))
  refine bodyPost_ret (v := .tuple #[.slice none 0 0, .agg #[.int .i64 1, .int .i64 (badAt l)]]) (by simp [results, Tryz.results16, go_sem, hc1, hz1]) rfl ?_
  rw [← hQ.out]
  refine ⟨.slice none 0 0, by rw [foldF_bad HI.out, HBI.out], by rw [foldF_bad HI.out]; exact Kd.V_nil _ _ _ _ _, ?_, by rw [foldF_bad HI.out]; intro h; cases h⟩
  repeat (with_reducible refine below_put ?_ _ _ (Nat.le_refl _) _)
  exact hB1
 ·have hg := badAt_neg hbad
  have hb2 : decide (badAt l ≥ 0) = false := decide_eq_false hbad
  have hb3 : decide (0 ≤ badAt l) = false := decide_eq_false hbad
  have HG := Aside0.mk hg
  clear hg
  go_enter Tryz.func16, Tryz.ntmps16
  go_wp2_with (go_at_call 27; refine (HBC.out _).mono ?_; rintro e w1 ⟨rfl, hb1⟩; obtain ⟨hc1, hf1⟩ := bcell hb1; have hz1 : W.heap.size < w1.heap.size := Nat.lt_of_lt_of_le (by simp) hb1.size; have HB1 := Aside0.mk hb1; clear hb1)
  have hB1 : Below W.heap.size W w1 := ((Below.refl W.heap.size W).alloc (Nat.le_refl _) (.cells #[.int .i64 0, .int .i64 0] 27)).trans (HB1.out.mono (by simp))
  have hstart : FoldRel l W w1.heap.size 0 (w1.alloc (.map #[] 0)) := by
   refine ⟨by omega, by omega, ⟨[], fun _ => 0, rfl, FInv.start l, DirS.start _ _ _ _⟩, hB1.alloc hB1.size _, ?_, ?_, ?_, ?_⟩
   ·exact fcell ((hc1 W.heap.size 0 (by simp)).trans (by simp)) _
   ·exact fcell ((hc1 W.heap.size 1 (by simp)).trans (by simp)) _
   ·exact ((below_alloc (Below.refl _ _) _).frozen (p := ⟨W.heap.size, 0, none⟩) hz1).trans ((hf1 W.heap.size 0 (by simp)).trans (by simp))
   ·exact ((below_alloc (Below.refl _ _) _).frozen (p := ⟨W.heap.size, 1, none⟩) hz1).trans ((hf1 W.heap.size 1 (by simp)).trans (by simp))
  have HST := Aside0.mk hstart
  have HDZ : Aside0 (W.heap.size < w1.heap.size) := ⟨hz1⟩
  clear hstart hB1 hc1 hf1 HB1
  go_loopw [17] (fun i wr => ∃ n : Int, i = .int .i64 n ∧ Aside0 (FoldRel l W w1.heap.size n wr)) (fun i _ => (l.length - (intOf i)).toNat)
  case atStart => exact ⟨0, rfl, HST⟩
  case round =>
   obtain ⟨n, rfl, HR⟩ := hrel
   have h0 := HR.out.1
   have h1 := HR.out.2.1
   obtain ⟨s, B, hs, hI, hD⟩ := HR.out.2.2.1
   have HB := Aside0.mk HR.out.2.2.2.1
   obtain ⟨f0, f1, f2, f3⟩ := HR.out.2.2.2.2
   have hwz := HB.out.size
   have hwlt : W.heap.size < wr.heap.size := World.block_lt_of_cell? wr _ f0
   have HS := Aside0.mk hs
   have HI := Aside0.mk hI
   have HD := Aside0.mk hD
   clear hs hI hD
   by_cases hlt : n < (l.length : Int)
   ·have c1b : decide (n < (l.length : Int)) = true := decide_eq_true hlt
    have hnl : n.toNat < l.length := by omega
    obtain ⟨ad, A7, c7, rfl, x0, x1, x2, x3, x4, x5, x6, x7, hl7, hC7⟩ := at_T43 (Kd.C_below HC.out HB.out) n h0 hlt
    have hx := rdM_at l n h0 hlt
    have hxz : MemZ (rd_T43 l n) := by rw [hx]; exact HZ.out.2 _ (List.getElem_mem _)
    have hxg : goodM (rd_T43 l n) = true := by rw [hx]; exact all_good HG.out (List.getElem_mem _)
    generalize rd_T43 l n = x at hx hxz hxg x0 x1 x2 x3 x4 x5 x6 x7 hl7 hC7
    have HLC := Aside0.mk (fun o => Lay_calls (W.heap.size + 1) w1.heap.size n.toNat l s B x A7 c7 (wr.alloc o) (by rw [hx, List.getElem?_eq_getElem hnl]) (by omega) hxz (HD.out.below (below_alloc (Below.refl _ _) o)) HI.out (by rw [World.size_alloc]; omega) (Kd.C_alloc hC7 o))
    have HX := Aside0.mk hx
    have HXZ := Aside0.mk hxz
    have HXG := Aside0.mk hxg
    have HNL := Aside0.mk hnl
    clear hx hxz hxg hnl hC7 hl7
    unfold memCells at HLC
    have hdn : ¬ W.heap.size = w1.heap.size := by have := HDZ.out; omega
    have hdlt : w1.heap.size < wr.heap.size := HD.out.1.lt
    go_wp2_with (go_at_call 30; refine (HLC.out _).mono ?_; rintro e w2 ⟨(⟨hno, rfl⟩ | ⟨s', B', hst, rfl, hD'⟩), hg2⟩; all_goals (have hc2 : ∀ j, w2.cell? ⟨W.heap.size, j, none⟩ = wr.cell? ⟨W.heap.size, j, none⟩ := (fun j => (rcell'' hg2 (by simp; omega) (fun e => by injection e with e; exact hdn e)).trans (World.cell?_of_block (a := ⟨W.heap.size, j, none⟩) ((below_alloc (Below.refl _ _) _).block _ hwlt))); have hf2 : ∀ j, w2.frozen? ⟨W.heap.size, j, none⟩ = wr.frozen? ⟨W.heap.size, j, none⟩ := (fun j => (rfroz'' hg2 (by simp; omega) (fun e => by injection e with e; exact hdn e)).trans (World.frozen?_of_block (a := ⟨W.heap.size, j, none⟩) ((below_alloc (Below.refl _ _) _).block _ hwlt))); have hz2 := hg2.size; simp only [World.size_alloc] at hz2; have HG2 := Aside0.mk hg2; clear hg2))
    ·rw [← hQ.out]
     have hB2 : Below W.heap.size W w2 := (HB.out.alloc HB.out.size _).grown HG2.out (by rw [World.size_alloc]; omega) (fun j hj => by cases hj; omega)
     have hst := foldF_stop HG.out HNL.out HS.out hno
     rw [Int.toNat_of_nonneg h0] at hst
     refine bodyPost_ret (v := .tuple #[.slice none 0 0, .agg #[.int .i64 7, .int .i64 n]]) (by simp [results, Tryz.results16, go_sem, hc2, f0, f1, hz2]) rfl ?_
     refine ⟨.slice none 0 0, by rw [hst], by rw [hst]; exact Kd.V_nil _ _ _ _ _, ?_, by rw [hst]; intro h; cases h⟩
     repeat (with_reducible refine below_put ?_ _ _ (Nat.le_refl _) _)
     exact hB2
    ·have hB2 : Below W.heap.size W w2 := (HB.out.alloc HB.out.size _).grown HG2.out (by rw [World.size_alloc]; omega) (fun j hj => by cases hj; omega)
     have hxe : l[n.toNat]'HNL.out = x := HX.out.symm
     have hfin : FoldRel l W w1.heap.size (n + 1) w2 := by
      refine ⟨by omega, by have := HNL.out; omega, ⟨s', B', ?_, ?_, ?_⟩, hB2, (hc2 0).trans f0, (hc2 1).trans f1, (hf2 0).trans f2, (hf2 1).trans f3⟩
      ·rw [show (n + 1).toNat = n.toNat + 1 from by omega, stepsF_succ HS.out]; exact hst
      ·rw [show (n + 1).toNat = n.toNat + 1 from by omega]
       exact HI.out.step HNL.out (by rw [hxe]; exact good_full HXG.out) (by rw [hxe]; exact HXZ.out.1) hst
      ·rw [show (n + 1).toNat = n.toNat + 1 from by omega]; exact hD'
     have HF := Aside0.mk hfin
     clear hfin hB2 hxe hst hD' hc2 hf2
     go_roundw
     case rel => exact ⟨n + 1, by go_num, HF⟩
     case measure => simp [intOf]; have := HNL.out; omega
   ·have c1b : decide (n < (l.length : Int)) = false := decide_eq_false hlt
    have hnl : n.toNat = l.length := by omega
    have hs := HS.out
    have hI := HI.out
    have hD := HD.out
    rw [hnl] at hs hI hD
    have hNC := Nodes_calls (W.heap.size + 1) w1.heap.size l s B wr (by omega) (fun m hm => (HZ.out.2 m hm).2.2) hD hI (by omega)
    have HNC := Aside0.mk hNC
    have HSS := Aside0.mk hs
    clear hs hI hD hNC hnl
    go_wp2_with (go_at_call 31; refine HNC.out.mono ?_; rintro e w3 ⟨v, rfl, hN, hb3⟩; obtain ⟨Av, cv, rfl⟩ := Kd.N_slice hN; have hc3 : ∀ j, w3.cell? ⟨W.heap.size, j, none⟩ = wr.cell? ⟨W.heap.size, j, none⟩ := (fun j => hb3.cell (p := ⟨W.heap.size, j, none⟩) (Nat.lt_succ_self _)); have hf3 : ∀ j, w3.frozen? ⟨W.heap.size, j, none⟩ = wr.frozen? ⟨W.heap.size, j, none⟩ := (fun j => hb3.frozen (p := ⟨W.heap.size, j, none⟩) (Nat.lt_succ_self _)); have hz3 : W.heap.size < w3.heap.size := Nat.lt_of_lt_of_le hwlt hb3.size; have HN3 := Aside0.mk hN; have HB3 := Aside0.mk hb3; clear hN hb3)
    have hst := foldF_end HG.out HSS.out
    refine bodyPost_ret (v := .tuple #[.slice Av ((sortP s).map (nodeOf l (sortP s))).length cv, .agg #[.int .i64 0, .int .i64 0]]) (by simp [results, Tryz.results16, go_sem, hc3, f0, f1, hz3]) rfl ?_
    rw [← hQ.out]
    refine ⟨_, by rw [hst], ?_, ?_, ?_⟩
    ·rw [hst]
     refine Kd.V_mono (ok := fun k => wr.heap.size ≤ k) ?_ (fun k hk => by omega)
     repeat (with_reducible refine Kd.V_far ?_ (fun k hk e => by have e' : k = W.heap.size := e; omega) _)
     exact Kd.N_V HN3.out
    ·repeat (with_reducible refine below_put ?_ _ _ (Nat.le_refl _) _)
     exact HB.out.trans (HB3.out.mono (by omega))
    ·rw [hst]
     intro hp
     obtain ⟨g, cap, he, _⟩ := Kd.N_form HN3.out hp
     exact ⟨g, cap, he⟩
end Go.Proofs.YtiijbmaamblidaaGreatDoor

namespace Go.Proofs.YtiijbmaamblidaaGreatDoor.Print
open Go.RowKit Go.Proofs.YtiijbmaamblidaaGreatDoor Go.Proofs.YtiijbmaamblidaaGreatDoorW.PrintWords Go.Proofs.YtiijbmaamblidaaGreatDoorW.PrintLast Go.Proofs.YtiijbmaamblidaaGreatDoorW.PrintMore
set_option linter.unusedVariables false
def tree_Fold.f (l : List S43) : Option (List S49 × Int × Int) := if memsZ l = true then some (foldF l) else none
theorem tree_Fold.calls (A0 : Option Addr) (c0 : Nat) (l0 : List S43) (r1 : List S49) (r2 r3 : Int) (w : World) (hT : Aside0 (Tabs w)) (hr0 : Kd.C k43 w A0 l0.length l0) (hc0 : l0.length ≤ c0) (h : tree_Fold.f l0 = some (r1, r2, r3)) :
  Calls Tryz.prog 16 #[.slice A0 l0.length c0] w fun e w' => ∃ v0_ : Value, e = .returned (.tuple #[v0_, .agg #[.int .i64 r2, .int .i64 r3]]) ∧ Kd.V k49 49 w' w.heap.size (fun k_ => w.heap.size ≤ k_) v0_ r1 ∧ Below w.heap.size w w' := by
 unfold tree_Fold.f at h
 split at h
 ·rename_i hc
  simp only [Option.some.injEq] at h
  refine (Fold_calls A0 c0 l0 w hT.out hr0 ((memsZ_iff l0).1 hc)).mono ?_
  rintro e w' ⟨v, rfl, hV, hB, _⟩
  rw [h] at hV ⊢
  exact ⟨v, rfl, hV, hB⟩
 ·cases h
end Go.Proofs.YtiijbmaamblidaaGreatDoor.Print

namespace Go.Proofs.YtiijbmaamblidaaGreatDoor
open Go.Sort Go.Proofs
variable {α : Type} [Inhabited α]
theorem holds_of_blockE (enc : α → Value) {w : World} {g : Nat} {cur : Array Value} {e : TypeId} {ss : List α} (hb : w.heap[g]? = some (.cells cur e (0, 0))) (ht : cur.toList.take ss.length = ss.map enc) : Holds enc w g 0 ss.toArray := by
 intro j hj
 have hj' : j < ss.length := by simpa using hj
 refine ⟨?_, by simp [World.frozen?, hb]⟩
 have h1 : (cur.toList.take ss.length)[j]? = (ss.map enc)[j]? := by rw [ht]
 rw [List.getElem?_take_of_lt hj'] at h1
 simp only [World.cell?, hb, Nat.zero_add]
 simp only [Option.isSome_none, Bool.false_eq_true, if_false]
 rw [← Array.getElem?_toList, h1]
 simp [hj']
theorem heap_sortedE (enc : α → Value) {w : World} {g n : Nat} {os : Array Obj} {cur : Array Value} {e : TypeId} {fr : Nat × Nat} (d : Array α) (hb : w.heap[g]? = some (.cells cur e fr)) :
  (sortWorld enc w g 0 n d os).heap[g]? = some (.cells (putCells enc 0 d cur) e fr) := by
 have hg : g < w.heap.size := (Array.getElem?_eq_some_iff.1 hb).1
 unfold sortWorld
 rw [heap_grow_old _ _ (by simpa using hg)]
 simp [putRow, mapBlock, Sort.ahead, Array.getElem?_modify, hb, onCells]
theorem grownBy_sortedE (enc : α → Value) {w : World} {g n : Nat} {os : Array Obj} (d : Array α) : w.grownBy (sortWorld enc w g 0 n d os) (some g) := by
 unfold sortWorld
 refine ⟨rfl, rfl, rfl, by simp, fun k hk hne => ?_⟩
 rw [heap_grow_old _ _ (by simpa using hk)]
 have : g ≠ k := fun e => hne (by rw [e])
 simp [putRow, mapBlock, Sort.ahead, Array.getElem?_modify, this]
theorem take_putCellsE (enc : α → Value) (cur : Array Value) (ts : List α) (h : ts.length ≤ cur.size) : (putCells enc 0 ts.toArray cur).toList.take ts.length = ts.map enc := by
 apply List.ext_getElem?
 intro j
 by_cases hj : j < ts.length
 ·rw [List.getElem?_take_of_lt hj, Array.getElem?_toList]
  simp [putCells, hj, show j < cur.size by omega]
 ·rw [List.getElem?_take_eq_none (by omega), List.getElem?_eq_none (by simp; omega)]
theorem ownsRow_sortedE (enc : α → Value) {w : World} {base g cap n : Nat} {e : TypeId} {os : Array Obj} {cur : Array Value} {ss ts : List α} (hl : ts.length = ss.length) (hbase : base ≤ g) (hb : w.heap[g]? = some (.cells cur e (0, 0)))
  (h1 : ss.length ≤ cap) (h2 : cap ≤ maxLen) (h3 : cur.size = cap * 1) :
  (sortWorld enc w g 0 n ts.toArray os).ownsRow base e 1 (.slice (some ⟨g, 0, none⟩) ss.length cap) ss.length (ts.map enc) :=
 ⟨by simp [hl], .inr ⟨g, cap, _, rfl, hbase, heap_sortedE enc _ hb, h1, h2, by simp [putCells, h3], by rw [Nat.mul_one, ← hl]; exact take_putCellsE enc cur ts (by omega)⟩⟩
end Go.Proofs.YtiijbmaamblidaaGreatDoor

namespace Go.Proofs
open Go.Shelf
def Tryz.sortStr_ren : Go.Shelf.Ren := ⟨fun | 6 => 24 | 15 => 38 | 14 => 37 | 28 => 59 | 29 => 60 | 20 => 51 | 21 => 52 | 22 => 53 | 23 => 54 | 24 => 55 | 25 => 56 | 26 => 57 | 27 => 58 | 46 => 68 | 47 => 69 | 48 => 70 | 49 => 71 | 50 => 72 | 57 => 81 | n => n, fun | 22 => 37 | 24 => 9 | 25 => 61 | 3 => 3 | 39 => 75 | 0 => 0 | 53 => 100 | 55 => 102 | 4 => 4 | 46 => 94 | 45 => 93 | 50 => 86 | 5 => 5 | 9 => 9 | 66 => 105 | 70 => 109 | 76 => 116 | 77 => 117 | n => n, fun | n => n⟩
theorem Tryz.sortStr : Go.Proofs.SlLaysF.n6 Tryz.prog Tryz.sortStr_ren := {
 mixed := by kernel_rfl
 f6 := ⟨Tryz.f24.name, by decide, Tryz.func24.trans (congrArg some (by kernel_rfl))⟩
 f14 := ⟨Tryz.f37.name, by decide, Tryz.func37.trans (congrArg some (by kernel_rfl))⟩
 f15 := Tryz.func38.trans (congrArg some (by kernel_rfl))
 f20 := ⟨Tryz.f51.name, by decide, Tryz.func51.trans (congrArg some (by kernel_rfl))⟩
 f21 := ⟨Tryz.f52.name, by decide, Tryz.func52.trans (congrArg some (by kernel_rfl))⟩
 f22 := ⟨Tryz.f53.name, by decide, Tryz.func53.trans (congrArg some (by kernel_rfl))⟩
 f23 := ⟨Tryz.f54.name, by decide, Tryz.func54.trans (congrArg some (by kernel_rfl))⟩
 f24 := ⟨Tryz.f55.name, by decide, Tryz.func55.trans (congrArg some (by kernel_rfl))⟩
 f25 := ⟨Tryz.f56.name, by decide, Tryz.func56.trans (congrArg some (by kernel_rfl))⟩
 f26 := ⟨Tryz.f57.name, by decide, Tryz.func57.trans (congrArg some (by kernel_rfl))⟩
 f27 := ⟨Tryz.f58.name, by decide, Tryz.func58.trans (congrArg some (by kernel_rfl))⟩
 f28 := Tryz.func59.trans (congrArg some (by kernel_rfl))
 f29 := Tryz.func60.trans (congrArg some (by kernel_rfl))
 f46 := ⟨Tryz.f68.name, by decide, Tryz.func68.trans (congrArg some (by kernel_rfl))⟩
 f47 := Tryz.func69.trans (congrArg some (by kernel_rfl))
 f48 := Tryz.func70.trans (congrArg some (by kernel_rfl))
 f49 := ⟨Tryz.f71.name, by decide, Tryz.func71.trans (congrArg some (by kernel_rfl))⟩
 f50 := ⟨Tryz.f72.name, by decide, Tryz.func72.trans (congrArg some (by kernel_rfl))⟩
 f57 := ⟨Tryz.f81.name, by decide, Tryz.func81.trans (congrArg some (by kernel_rfl))⟩
 t0 := Tryz.underlying0
 a0 := Tryz.isAgg0
 z0 := Tryz.sizeOf0
 v0 := Tryz.zeroValue0
 t3 := Tryz.underlying3
 a3 := Tryz.isAgg3
 z3 := Tryz.sizeOf3
 v3 := Tryz.zeroValue3
 t4 := Tryz.underlying4
 a4 := Tryz.isAgg4
 z4 := Tryz.sizeOf4
 v4 := Tryz.zeroValue4
 t5 := Tryz.underlying5
 a5 := Tryz.isAgg5
 z5 := Tryz.sizeOf5
 v5 := Tryz.zeroValue5
 t9 := Tryz.underlying9
 a9 := Tryz.isAgg9
 z9 := Tryz.sizeOf9
 v9 := Tryz.zeroValue9
 t22 := Tryz.underlying37
 a22 := Tryz.isAgg37
 z22 := Tryz.sizeOf37
 v22 := Tryz.zeroValue37
 a24 := Tryz.isAgg9
 z24 := Tryz.sizeOf9
 t25 := Tryz.underlying61
 a25 := Tryz.isAgg61
 z25 := Tryz.sizeOf61
 v25 := Tryz.zeroValue61
 t39 := Tryz.underlying75
 a39 := Tryz.isAgg75
 z39 := Tryz.sizeOf75
 v39 := Tryz.zeroValue75
 t45 := Tryz.underlying93
 a45 := Tryz.isAgg93
 z45 := Tryz.sizeOf93
 v45 := Tryz.zeroValue93
 t46 := Tryz.underlying94
 a46 := Tryz.isAgg94
 z46 := Tryz.sizeOf94
 v46 := Tryz.zeroValue94
 t50 := Tryz.underlying86
 a50 := Tryz.isAgg86
 z50 := Tryz.sizeOf86
 v50 := Tryz.zeroValue86
 t53 := Tryz.underlying100
 a53 := Tryz.isAgg100
 z53 := Tryz.sizeOf100
 v53 := Tryz.zeroValue100
 t55 := Tryz.underlying102
 a55 := Tryz.isAgg102
 z55 := Tryz.sizeOf102
 v55 := Tryz.zeroValue102
 t66 := Tryz.underlying105
 a66 := Tryz.isAgg105
 z66 := Tryz.sizeOf105
 v66 := Tryz.zeroValue105
 t70 := Tryz.underlying109
 a70 := Tryz.isAgg109
 z70 := Tryz.sizeOf109
 v70 := Tryz.zeroValue109
 t76 := Tryz.underlying116
 a76 := Tryz.isAgg116
 z76 := Tryz.sizeOf116
 v76 := Tryz.zeroValue116
 t77 := Tryz.underlying117
 a77 := Tryz.isAgg117
 z77 := Tryz.sizeOf117
 v77 := Tryz.zeroValue117 }
def Tryz.cmpInt_ren : Go.Shelf.Ren := ⟨fun | 5 => 26 | 7 => 39 | n => n, fun | 22 => 3 | 3 => 3 | 4 => 4 | n => n, fun | n => n⟩
theorem Tryz.cmpInt : Go.Proofs.SlLaysC2.n5 Tryz.prog Tryz.cmpInt_ren := {
 mixed := by kernel_rfl
 f5 := ⟨Tryz.f26.name, by decide, Tryz.func26.trans (congrArg some (by kernel_rfl))⟩
 f7 := ⟨Tryz.f39.name, by decide, Tryz.func39.trans (congrArg some (by kernel_rfl))⟩
 t3 := Tryz.underlying3
 a3 := Tryz.isAgg3
 z3 := Tryz.sizeOf3
 v3 := Tryz.zeroValue3
 t4 := Tryz.underlying4
 a4 := Tryz.isAgg4
 z4 := Tryz.sizeOf4
 v4 := Tryz.zeroValue4
 t22 := Tryz.underlying3
 a22 := Tryz.isAgg3
 z22 := Tryz.sizeOf3
 v22 := Tryz.zeroValue3 }
end Go.Proofs

namespace Go.Proofs.YtiijbmaamblidaaGreatDoor
open Go.RowKit Go.Maps Go.Shelf Go.Proofs Go.Proofs.YtiijbmaamblidaaGreatDoor.Print Go.Proofs.YtiijbmaamblidaaGreatDoorW.PrintWords Go.Proofs.YtiijbmaamblidaaGreatDoorW.PrintLast Go.Proofs.YtiijbmaamblidaaGreatDoorW.PrintMore
set_option linter.unusedVariables false
set_option linter.unusedSimpArgs false
theorem zeroIntO (w : World) : (zeroValue 3).run Tryz.prog w = .ok (.int .i64 0) w := by kernel_rfl
def lastV (l : List Mem) (n : Nat) : List UInt8 → Option Value := fun k => (lastN l n k).map (fun (i : Nat) => Value.int .i64 (i : Int))
theorem lastV_put {l : List Mem} {n : Nat} (h : n < l.length) (k : List UInt8) : putS (lastV l n) l[n].f0.data.toList (.int .i64 (n : Int)) k = lastV l (n + 1) k := by
 unfold putS lastV
 rw [lastN_succ h]
 by_cases e : k = l[n].f0.data.toList
 ·rw [if_pos e, if_pos e]; rfl
 ·rw [if_neg e, if_neg e]
theorem lastV_zero (l : List Mem) (k : List UInt8) : (none : Option Value) = lastV l 0 k := rfl
abbrev SB := {p : ByteArray // p.size ≤ maxLen}
instance : Inhabited SB := ⟨⟨⟨#[]⟩, Nat.zero_le _⟩⟩
def encB (p : SB) : Value := .string p.1
def cfO (l : List Mem) (x y : SB) : Int := Lib.compareInt (lastD l l.length x.1 : Int) (lastD l l.length y.1 : Int)
theorem ltO (l : List Mem) (x y : SB) : ltOf (cfO l) x y = decide (lastD l l.length x.1 < lastD l l.length y.1) := by
 unfold ltOf cfO Lib.compareInt
 by_cases h1 : (lastD l l.length x.1 : Int) < lastD l l.length y.1
 ·rw [if_pos h1]; simp; omega
 ·rw [if_neg h1]
  by_cases h2 : (lastD l l.length y.1 : Int) < lastD l l.length x.1
  ·rw [if_pos h2]; simp; omega
  ·rw [if_neg h2]; simp; omega
theorem swoO (l : List Mem) : Go.Sort.SWO (ltOf (cfO l)) where
 irrefl x := by rw [ltO]; simp
 trans x y z h1 h2 := by rw [ltO] at *; simp at *; omega
 ntrans x y z h1 h2 := by rw [ltO] at *; simp at *; omega
theorem OrdCmp_calls (l : List Mem) (d B kk : Nat) (x y : SB) (W : World) (hM : MapS Tryz.prog 9 W d kk (lastV l l.length)) (hc : W.cell? ⟨B, 0, none⟩ = some (.map (some d))) :
  Calls Tryz.prog 25 #[.string x.1, .string y.1, .pointer (some ⟨B, 0, none⟩)] W fun e W' => e = .returned (.int .i64 (cfO l x y)) ∧ W' = W := by
 have h1 := hM.look Tryz.underlying9 Tryz.underlying58 (zeroIntO _) x.2
 have h2 := hM.look Tryz.underlying9 Tryz.underlying58 (zeroIntO _) y.2
 have e : ∀ p : ByteArray, (lastV l l.length p.data.toList).getD (.int .i64 0) = .int .i64 (lastD l l.length p : Int) := fun p => by
  unfold lastV lastD
  cases lastN l l.length p.data.toList <;> rfl
 rw [e] at h1 h2
 have hcon := fun w => AnyG.cmp_Compare_int Tryz.cmpInt (lastD l l.length x.1 : Int) (lastD l l.length y.1 : Int) w
 change ∀ w, Calls Tryz.prog 26 _ _ _ at hcon
 unfold cfO
 generalize Lib.compareInt (lastD l l.length x.1 : Int) (lastD l l.length y.1 : Int) = r at hcon ⊢
 have HC := Aside0.mk hcon
 clear hcon hM e
 go_enter Tryz.func25, Tryz.ntmps25
 go_wp2_with (go_at_call 26; (with_reducible refine (HC.out _).mono ?_); rintro e w' ⟨rfl, rfl⟩)
 go_ret
 exact ⟨rfl, rfl⟩
theorem SortF_calls (l : List Mem) (d B kk g cap base : Nat) (ss : List SB) (cur : Array Value) (W : World) (hM : MapS Tryz.prog 9 W d kk (lastV l l.length)) (hc : W.cell? ⟨B, 0, none⟩ = some (.map (some d))) (hdg : d ≠ g) (hBg : B ≠ g)
  (hbase : base ≤ g) (hb : W.heap[g]? = some (.cells cur 9 (0, 0))) (ht : cur.toList.take ss.length = ss.map encB) (h1 : ss.length ≤ cap) (h2 : cap ≤ maxLen) (h3 : cur.size = cap * 1) (hsz : ss.length < 4611686018427387904) :
  Calls Tryz.prog 24 #[.slice (some ⟨g, 0, none⟩) ss.length cap, .func (.func 25) #[] #[.pointer (some ⟨B, 0, none⟩)]] W fun e W' => e = .returned (.tuple #[]) ∧ ∃ ts : List SB, ts.Perm ss ∧ ts.Pairwise (fun x y => lastD l l.length x.1 ≤ lastD l l.length y.1) ∧
   W'.ownsRow base 9 1 (.slice (some ⟨g, 0, none⟩) ss.length cap) ss.length (ts.map encB) ∧ W.grownBy W' (some g) := by
 have eg : ∀ args w, (callFunc 25 args).run Tryz.prog w = .ok (.enter 25 args) w := enters_of Tryz.func25 (by kernel_rfl) rfl
 have hBlt := World.block_lt_of_cell? W _ hc
 dsimp only at hBlt
 have hcmp : CmpLays1 Tryz.prog 25 #[.pointer (some ⟨B, 0, none⟩)] encB (cfO l) g 0 ss.toArray.size W := by
  intro m os dk hdk x y
  have hg := grownBy_sortedE encB (w := W) (g := g) (n := m) (os := os) dk
  have hM' := hM.kept hg (by intro e; injection e with e; exact hdg e)
  have hc' : (sortWorld encB W g 0 m dk os).cell? ⟨B, 0, none⟩ = some (.map (some d)) := (World.cell?_of_block (a := ⟨B, 0, none⟩) (hg.block B hBlt (by intro e; injection e with e; exact hBg e))).trans hc
  exact (OrdCmp_calls l d B kk x y _ hM' hc').mono fun e w' ⟨he, hw⟩ => ⟨he, 0, #[], by rw [hw, Go.Sort.grow_empty]; rfl⟩
 have hH := holds_of_blockE encB hb ht
 have hcon := Any.slices_SortFunc Tryz.sortStr encB (fun _ => rfl) (cfO l) (swoO l) 25 #[.pointer (some ⟨B, 0, none⟩)] g 0 cap ss.toArray W eg hcmp hH (Array.getElem?_eq_some_iff.1 hb).1 (by simpa using hsz)
 change Calls Tryz.prog 24 _ _ _ at hcon
 rw [List.size_toArray] at hcon
 refine hcon.mono ?_
 rintro e w' ⟨he, d', n, os, ⟨hp1, _, hp3⟩, hs, rfl⟩
 have hl : d'.size = ss.length := by rw [hp1]; simp
 have hpl : d'.toList.Perm ss := by
  have e1 : d'.extract 0 ss.length = d' := by rw [← hl, Array.extract_size]
  have e2 : ss.toArray.extract 0 ss.length = ss.toArray := by
   have := Array.extract_size (xs := ss.toArray)
   rwa [List.size_toArray] at this
  rw [e1, e2] at hp3
  simpa using hp3
 refine ⟨he, d'.toList, hpl, ?_, ?_, grownBy_sortedE encB d'⟩
 ·rw [List.pairwise_iff_getElem]
  intro i j hi hj hij
  have hij2 := hs i j (Nat.zero_le _) hij (by rw [← hl]; simpa using hj)
  rw [ltO, decide_eq_false_iff_not] at hij2
  rw [getElem!_pos d' i (by simpa using hi), getElem!_pos d' j (by simpa using hj)] at hij2
  simp only [Array.getElem_toList]
  omega
 ·have h := ownsRow_sortedE encB (os := os) (n := n) (ss := ss) (ts := d'.toList) (by rw [Array.length_toList, hl]) hbase hb h1 h2 h3
  simpa using h
def OrdRel1 (l : List Mem) (W : World) (n : Int) (wr : World) : Prop :=
 0 ≤ n ∧ n ≤ l.length ∧ MapS Tryz.prog 9 wr W.heap.size n.toNat (lastV l n.toNat) ∧ Below W.heap.size W wr ∧ wr.cell? ⟨W.heap.size + 1, 0, none⟩ = some (.map (some W.heap.size))
def keysB (ss : List (List UInt8)) : List ByteArray := ss.map (fun s => ⟨s.toArray⟩)
theorem keysB_mem {ss : List (List UInt8)} {p : ByteArray} : p ∈ keysB ss ↔ p.data.toList ∈ ss := by
 unfold keysB
 rw [List.mem_map]
 constructor
 ·rintro ⟨s, hs, rfl⟩; exact hs
 ·intro h; exact ⟨_, h, by cases p; rfl⟩
def OrdRel2 (W : World) (d k r : Nat) (D : DataW Value) (left : Lit → Bool) (cnt : Nat) (o : Value) (ss : List (List UInt8)) (wr : World) : Prop :=
 wr.ranges Tryz.prog 9 heldE d r k D left cnt ∧ Collected D left ss ∧ (∀ s ∈ ss, s.length ≤ maxLen) ∧ ss.length + cnt ≤ k ∧ Kd.R Kd.string 9 wr W.heap.size (fun k => W.heap.size + 2 ≤ k ∧ k ≠ r) o (keysB ss) ∧ Below W.heap.size W wr ∧ wr.cell? ⟨W.heap.size + 1, 0, none⟩ = some (.map (some d)) ∧ W.heap.size + 2 ≤ wr.heap.size
set_option maxRecDepth 100000 in
set_option maxHeartbeats 4000000 in
theorem Order_calls (A0 : Option Addr) (c0 : Nat) (l : List Mem) (W : World) (hC : Kd.C k43 W A0 l.length l) (hz : MemsZ l) :
  Calls Tryz.prog 15 #[.slice A0 l.length c0] W fun e W' => ∃ v, e = .returned v ∧ Kd.R Kd.string 9 W' W.heap.size (fun _ => True) v (orderF l) ∧ Below W.heap.size W W' := by
 have hmm := @run_makeMap Tryz.prog
 have HC := Aside0.mk hC
 have HZ := Aside0.mk hz
 have hlen : (l.length : Int) ≤ 1000000000000 := by have := hz.1; omega
 clear hC hz
 generalize hpost : (fun (e : Ending) (W' : World) => ∃ v, e = .returned v ∧ Kd.R Kd.string 9 W' W.heap.size (fun _ => True) v (orderF l) ∧ Below W.heap.size W W') = Q
 have hQ := Aside0.mk hpost
 clear hpost
 go_enter Tryz.func15, Tryz.ntmps15
 go_wp2
 go_loopw [11] (fun i wr => ∃ n : Int, i = .int .i64 n ∧ Aside0 (OrdRel1 l W n wr)) (fun i _ => (l.length - (intOf i)).toNat)
 case atStart =>
  refine ⟨0, rfl, ⟨⟨by omega, by omega, ((MapS.made _ _ _).alloc _).ext (lastV_zero l), ?_, by go_simp⟩⟩⟩
  exact ((Below.refl _ _).alloc (Nat.le_refl _) _).alloc (by simp) _
 case round =>
  obtain ⟨n, rfl, HR⟩ := hrel
  have h0 := HR.out.1
  have h1 := HR.out.2.1
  have HM := Aside0.mk HR.out.2.2.1
  have HB := Aside0.mk HR.out.2.2.2.1
  have hbx := HR.out.2.2.2.2
  have hwlt := World.block_lt_of_cell? wr _ hbx
  dsimp only at hwlt
  by_cases hlt : n < (l.length : Int)
  ·have c1b : decide (n < (l.length : Int)) = true := decide_eq_true hlt
   have hnl : n.toNat < l.length := by omega
   obtain ⟨ad, A7, c7, rfl, x0, x1, x2, x3, x4, x5, x6, x7, hl7, hC7⟩ := at_T43 (Kd.C_below HC.out HB.out) n h0 hlt
   have hx := rdM_at l n h0 hlt
   have hxz : MemZ (rd_T43 l n) := by rw [hx]; exact HZ.out.2 _ (List.getElem_mem _)
   generalize rd_T43 l n = x at hx hxz x0 x1 x2 x3 x4 x5 x6 x7 hl7 hC7
   have hs0 : x.f0.size ≤ maxLen := by have := hxz.1; unfold maxLen; omega
   have HX := Aside0.mk hx
   have HNL := Aside0.mk hnl
   have HS0 := Aside0.mk hs0
   clear hx hxz hl7 hC7 hs0 hnl
   go_wp2_with (at_mapUpdate; refine MapS.wpput (HM.out.alloc _) rfl _ _ _ rfl Tryz.underlying9 Tryz.underlying58 (by unfold maxLen; omega) rfl rfl HS0.out rfl ?_; intro w6 hM6 hturn6)
   have hg6 := hturn6.grown
   have hfin : OrdRel1 l W (n + 1) w6 := by
    have e1 : (n + 1).toNat = n.toNat + 1 := by omega
    have e2 : n = (n.toNat : Int) := by omega
    refine ⟨by omega, by omega, ?_, (HB.out.alloc HB.out.size _).grown hg6 (by have := HB.out.size; simp; omega) (fun j hj => by cases hj; exact Nat.le_refl _), ?_⟩
    ·rw [e1]
     have hput : ∀ s, putS (lastV l n.toNat) x.f0.data.toList (.int .i64 n) s = lastV l (n.toNat + 1) s := fun s => by
      rw [← lastV_put HNL.out, HX.out, ← e2]
     exact hM6.ext hput
    ·refine (World.cell?_of_block (a := ⟨W.heap.size + 1, 0, none⟩) (hg6.block (W.heap.size + 1) (by rw [World.size_alloc]; omega) (fun e => by injection e with e; omega))).trans ?_
     exact (World.cell?_of_block (a := ⟨W.heap.size + 1, 0, none⟩) ((below_alloc (Below.refl _ _) _).block _ hwlt)).trans hbx
   have HFIN := Aside0.mk hfin
   clear hfin hM6 hturn6 hg6
   go_roundw
   case rel => exact ⟨n + 1, by go_num, HFIN⟩
   case measure => simp [intOf]; omega
  ·have c1b : decide (n < (l.length : Int)) = false := decide_eq_false hlt
   obtain ⟨w1, rfl⟩ : ∃ w1 : World, w1 = wr := ⟨_, rfl⟩
   have en : n.toNat = l.length := by omega
   have hM := HM.out
   rw [en] at hM
   obtain ⟨D, hown, hh, ha⟩ := hM
   have HM1 : Aside0 (MapS Tryz.prog 9 w1 W.heap.size l.length (lastV l l.length)) := ⟨⟨D, hown, hh, ha⟩⟩
   have HH := Aside0.mk hh
   have hsz : Maps.size D ≤ l.length := hown.size_le
   have HSZ := Aside0.mk hsz
   have HB1 := Aside0.mk HB.out
   have HA := Aside0.mk ha
   clear ha hh hsz en
   go_wp2_with (first
    | (at_range; refine wpList_range_own _ rfl _ 58 rfl 9 3 (string_keyed Tryz.underlying9) Tryz.underlying58 heldE W.heap.size l.length _ rfl hown ?_; intro w0 hrg0 hg0 hs0)
    | go_in)
   try go_frame
   have hstart : OrdRel2 W W.heap.size l.length w1.heap.size D (Maps.has D) (Maps.size D) (.slice none 0 0) [] w0 := by
    refine ⟨hrg0, Collected.start D, fun s hs => (by cases hs), by simpa using HSZ.out, Kd.R_nil _ _ _ _ _, HB1.out.grown hg0 HB1.out.size (fun j hj => (by cases hj)), ?_, by omega⟩
    exact (World.cell?_of_block (a := ⟨W.heap.size + 1, 0, none⟩) (hg0.block (W.heap.size + 1) hwlt (by simp))).trans hbx
   have HST := Aside0.mk hstart
   clear hstart hrg0 hg0 hown
   obtain ⟨r, hr⟩ : ∃ r, r = w1.heap.size := ⟨_, rfl⟩
   rw [← hr] at HST ⊢
   have HRZ := Aside0.mk (show W.heap.size + 1 < r by omega)
   clear hs0 hwlt hbx hr
   go_loopw [6] (fun o wr => ∃ (left : Lit → Bool) (cnt : Nat) (ss : List (List UInt8)), Aside0 (OrdRel2 W W.heap.size l.length r D left cnt o ss wr)) (fun _ wr => wr.rangeLeft W.heap.size r)
   case atStart => exact ⟨_, _, _, HST⟩
   case round =>
    obtain ⟨left, cnt, ss, HR2⟩ := hrel
    have hrg := HR2.out.1
    have hbx := HR2.out.2.2.2.2.2.2.1
    obtain ⟨Ao, co, hv⟩ := Kd.R_slice HR2.out.2.2.2.2.1
    subst hv
    go_wp2_with (first
     | (at_next; refine wpList_next_ranges _ rfl _ rfl 9 (string_keyed Tryz.underlying9) heldE encStr id (fun key kl h => by obtain ⟨x, hx, _⟩ := Maps.keyOf_str Tryz.underlying9 h; exact ⟨x, hx⟩) (fun v y _ => ⟨v, rfl⟩) W.heap.size r l.length _ _ _ rfl hrg ?_ ?_)
     | go_in)
    ·intro hc0 hl0
     have hown2 := hrg.owns
     have hM2 : MapS Tryz.prog 9 wr W.heap.size l.length (lastV l l.length) := ⟨D, hown2, HH.out, HA.out⟩
     have hcol := HR2.out.2.1
     have hmem : ∀ p, p ∈ keysB ss ↔ p ∈ orderF l := fun p => by
      rw [keysB_mem, hcol.2, hl0, and_iff_left rfl, HH.out]
      have := lastN_is (l := l) (n := l.length) (Nat.le_refl _) p
      rw [List.take_length] at this
      rw [← this]
      unfold lastV
      rw [Option.isSome_map]
     have hnd : (keysB ss).Nodup := by
      unfold keysB
      rw [List.nodup_iff_pairwise_ne, List.pairwise_map]
      have := hcol.1
      rw [List.nodup_iff_pairwise_ne] at this
      exact this.imp (fun {a b} h e => h (by injection e with e; exact List.toArray_inj e))
     have hperm : (keysB ss).Perm (orderF l) := (List.perm_ext_iff_of_nodup hnd (order_nodup l)).2 hmem
     have hR2 := HR2.out.2.2.2.2.1
     have hBw := HR2.out.2.2.2.2.2.1
     have hsl : ∀ p ∈ keysB ss, p.size ≤ maxLen := fun p hp => by
      have := HR2.out.2.2.1 _ (keysB_mem.1 hp)
      rwa [Array.length_toList] at this
     have hkl : (keysB ss).length ≤ l.length := by rw [hperm.length_eq]; exact order_len l
     rcases Nat.eq_zero_or_pos (keysB ss).length with hz0 | hpos
     ·have hk0 : keysB ss = [] := List.eq_nil_of_length_eq_zero hz0
      have ho : orderF l = [] := by
       have := hperm.length_eq
       rw [hz0] at this
       exact List.eq_nil_of_length_eq_zero this.symm
      have hcon := fun w => AnyF.slices_SortFunc_none { Tryz.sortStr with } Ao co (.func (.func 25) #[] #[.pointer (some ⟨W.heap.size + 1, 0, none⟩)]) w
      change ∀ w, Calls Tryz.prog 24 _ _ _ at hcon
      rw [hk0] at hR2 ⊢
      have HCN := Aside0.mk hcon
      have HOL := Aside0.mk ho
      have HR := Aside0.mk hR2
      have HBW := Aside0.mk hBw
      clear hcon ho hR2 hBw hsl hkl hz0 hk0 hperm hnd hmem hcol hM2 hown2 hrg hc0 hl0
      go_wp2_with (go_at_call 24; (with_reducible refine (HCN.out _).mono ?_); rintro e w' ⟨rfl, rfl⟩)
      rw [← hQ.out]
      refine ⟨_, rfl, ?_, HBW.out⟩
      rw [HOL.out]
      exact Kd.R_mono HR.out (fun _ _ => trivial)
     ·obtain ⟨gA, hgA⟩ : ∃ g, Ao = some ⟨g, 0, none⟩ := by
       obtain ⟨g, cap, he, _⟩ := Kd.R_form hR2 hpos
       injection he with h1 _ _
       exact ⟨g, h1⟩
      subst hgA
      have hown3 := Kd.own_of_R (enc := Value.string) (h1 := fun _ => rfl) hR2
      rcases hown3.2 with ⟨hn, _⟩ | ⟨g, cap, cur, hv, hbase, hb, h1, h2, h3, h4⟩
      ·cases hn
      cases hv
      have hgl2 : W.heap.size + 2 ≤ gA := (hR2.1 gA rfl).1
      have hl2 : ((keysB ss).pmap Subtype.mk hsl).length = (keysB ss).length := List.length_pmap
      have hm2 : ((keysB ss).pmap Subtype.mk hsl).map encB = encs Value.string (keysB ss) := by
       unfold encs encB
       rw [List.map_pmap]
       rw [List.pmap_eq_map]
      have hcon := SortF_calls l W.heap.size (W.heap.size + 1) l.length gA co W.heap.size ((keysB ss).pmap Subtype.mk hsl) cur wr hM2 hbx (by omega) (by omega) hbase hb (by rw [hl2, hm2]; rw [Nat.mul_one] at h4; exact h4) (by rw [hl2]; exact h1) h2 h3 (by rw [hl2]; omega)
      rw [hl2] at hcon
      have hfin : ∀ ts : List SB, ts.Perm ((keysB ss).pmap Subtype.mk hsl) → ts.Pairwise (fun x y => lastD l l.length x.1 ≤ lastD l l.length y.1) → ts.map (fun x => x.1) = orderF l := fun ts hts hpw => by
       have e1 : ((keysB ss).pmap Subtype.mk hsl).map (fun x => x.1) = keysB ss := by
        rw [List.map_pmap, List.pmap_eq_map, List.map_id']
       have hp2 : (ts.map (fun x => x.1)).Perm (orderF l) := by
        have := hts.map (fun x : SB => x.1)
        rw [e1] at this
        exact this.trans hperm
       refine order_unique hp2 ?_
       have hdist : ∀ a ∈ orderF l, ∀ b ∈ orderF l, lastD l l.length a = lastD l l.length b → a = b := by
        have h5 := order_last (l := l) l.length (Nat.le_refl _)
        rw [List.take_length] at h5
        intro a ha b hb2 e
        obtain ⟨i, hi, rfl⟩ := List.getElem_of_mem ha
        obtain ⟨j, hj, rfl⟩ := List.getElem_of_mem hb2
        rw [List.pairwise_iff_getElem] at h5
        rcases Nat.lt_trichotomy i j with h6 | h6 | h6
        ·have := h5 i j hi hj h6; omega
        ·subst h6; rfl
        ·have := h5 j i hj hi h6; omega
       have hnd2 : (ts.map (fun x => x.1)).Nodup := hp2.nodup_iff.2 (order_nodup l)
       rw [List.pairwise_map]
       rw [List.nodup_iff_pairwise_ne, List.pairwise_map] at hnd2
       refine (hpw.and hnd2).imp_of_mem (fun {a b} ha hb2 h => ?_)
       have m1 := hp2.mem_iff.1 (List.mem_map.2 ⟨a, ha, rfl⟩)
       have m2 := hp2.mem_iff.1 (List.mem_map.2 ⟨b, hb2, rfl⟩)
       rcases Nat.lt_or_ge (lastD l l.length a.1) (lastD l l.length b.1) with h7 | h7
       ·exact h7
       ·exact absurd (hdist _ m1 _ m2 (by have := h.1; omega)) h.2
      have hlen3 : (keysB ss).length = (orderF l).length := hperm.length_eq
      have HCN := Aside0.mk hcon
      have HFIN := Aside0.mk hfin
      have HBW := Aside0.mk hBw
      have HL3 := Aside0.mk hlen3
      have hgle : W.heap.size + 2 ≤ gA := hgl2
      have hwz := HR2.out.2.2.2.2.2.2.2
      clear hgl2 hcon hfin hR2 hBw hlen3 hkl hperm hnd hmem hcol hM2 hown2 hrg hc0 hl0 hown3 hb h1 h2 h3 h4 hl2 hm2 hbase hpos
      go_wp2_with (go_at_call 24; refine HCN.out.mono ?_; rintro e w2 ⟨rfl, ts, hts, hpw, hor, hg2⟩; have HTS := Aside0.mk (HFIN.out ts hts hpw); have HOR := Aside0.mk hor; have HG2 := Aside0.mk hg2; clear hts hpw hor hg2)
      rw [← hQ.out]
      refine ⟨_, rfl, ?_, HBW.out.grown HG2.out (by omega) (fun j hj => by cases hj; omega)⟩
      rw [← HTS.out]
      have e5 : ts.map encB = encs Value.string (ts.map (fun x => x.1)) := by
       unfold encs
       rw [List.map_map]
       rfl
      have hor := HOR.out
      rw [e5] at hor
      have e6 : (keysB ss).length = (ts.map (fun x => x.1)).length := by rw [HTS.out]; exact HL3.out
      rw [e6] at hor ⊢
      exact Kd.R_of_own hor (fun _ _ => trivial)
    ·intro x c kl ya yb w2 cnt2 hkey hlk hheld hat hrg2 hlt2 hg2 hs2 hen
     obtain ⟨x', ex, rfl, hxl⟩ := Maps.keyOf_str Tryz.underlying9 hkey
     obtain rfl := encStr_inj ex
     have hrlt := hrg.lt
     have hR2 := HR2.out.2.2.2.2.1
     have hok := hR2.1
     have hRw := Kd.R_grown hR2 hg2 (fun k hk e => by injection e with e; exact hk.2 e)
     have hrz := HRZ.out
     have hwz := HR2.out.2.2.2.2.2.2.2
     have hBw := HR2.out.2.2.2.2.2.1.grown hg2 (by omega) (fun j hj => by cases hj; omega)
     have hkl : (keysB ss).length = ss.length := by unfold keysB; rw [List.length_map]
     have hsz := HR2.out.2.2.2.1
     have hcol := HR2.out.2.1.step hlk hat
     have hss := HR2.out.2.2.1
     have HRW := Aside0.mk hRw
     have HBW := Aside0.mk hBw
     have HOK := Aside0.mk hok
     have HCOL := Aside0.mk hcol
     have HSS := Aside0.mk hss
     have HXL := Aside0.mk hxl
     have HRG2 := Aside0.mk hrg2
     have HRG := Aside0.mk hrg
     have HKL := Aside0.mk hkl
     have hbx2 : w2.cell? ⟨W.heap.size + 1, 0, none⟩ = some (.map (some W.heap.size)) := (World.cell?_of_block (a := ⟨W.heap.size + 1, 0, none⟩) (hg2.block (W.heap.size + 1) (by omega) (fun e => by injection e with e; omega))).trans hbx
     have HBX := Aside0.mk hbx2
     have hszl : ss.length + 1 ≤ l.length := by omega
     have hcc : cnt2 < cnt := hlt2
     have hz2 : W.heap.size + 2 ≤ w2.heap.size := by omega
     have hr2 : r < w2.heap.size := by omega
     clear hRw hBw hok hcol hss hxl hrg2 hrg hkl hbx2 hbx hkey hlk hheld hat hg2 ex hR2 hlt2 hs2 hwz hrlt
     go_wp2_with (at_builtin; refine Kd.R_append Kd.string (w0 := W) (W := w2) W.heap.size rfl _ _ 37 9 (.string ⟨#[]⟩) 16 rfl Tryz.underlying37 infoStr rfl (by decide) (by decide) (.slice Ao (keysB ss).length co) (keysB ss) ⟨x.toArray⟩ [.string ⟨x.toArray⟩] (fun k => W.heap.size + 2 ≤ k ∧ k ≠ r) (fun _ => False) rfl rfl rfl (fun _ h => h.elim) (fun k hk => ⟨by omega, by omega⟩) HRW.out HBW.out (by omega) (by rw [HKL.out]; omega) ?_; intro v3 w3 hR3 hB3 hg3 hat3)
     have hne : ∀ k, (Value.slice Ao (keysB ss).length co).ownBlock = some k → W.heap.size + 2 ≤ k ∧ k ≠ r := HOK.out
     have hfin : OrdRel2 W W.heap.size l.length r D (fun z => left z && !z.sameKey (.string x)) cnt2 v3 (ss ++ [x]) w3 := by
      refine ⟨HRG2.out.kept hg3 (fun e => by have := (hne _ e.symm).1; omega) (fun e => (hne _ e.symm).2 rfl), HCOL.out, fun s hs => ?_, by rw [List.length_append, List.length_singleton]; omega, ?_, hB3, ?_, by have := hg3.size; omega⟩
      ·rcases List.mem_append.1 hs with h | h
       ·exact HSS.out s h
       ·rw [List.mem_singleton] at h; rw [h]; exact HXL.out
      ·have e : keysB (ss ++ [x]) = keysB ss ++ [⟨x.toArray⟩] := by unfold keysB; rw [List.map_append]; rfl
       rw [e]
       exact hR3
      ·exact (World.cell?_of_block (a := ⟨W.heap.size + 1, 0, none⟩) (hg3.block (W.heap.size + 1) (by omega) (fun e => by have := (hne _ e.symm).1; omega))).trans HBX.out
     have hle1 := hfin.1.left_eq
     have hle2 := HRG.out.left_eq
     have HFIN := Aside0.mk hfin
     have HL1 := Aside0.mk hle1
     have HL2 := Aside0.mk hle2
     clear hfin hR3 hB3 hg3 hat3 hle1 hle2 hne
     go_roundw
     case rel => exact ⟨_, _, _, HFIN⟩
     case measure => rw [HL1.out, HL2.out]; omega
end Go.Proofs.YtiijbmaamblidaaGreatDoor

namespace Go.Proofs.YtiijbmaamblidaaGreatDoor.Print
open Go.RowKit Go.Proofs.YtiijbmaamblidaaGreatDoor Go.Proofs.YtiijbmaamblidaaGreatDoorW.PrintWords Go.Proofs.YtiijbmaamblidaaGreatDoorW.PrintLast Go.Proofs.YtiijbmaamblidaaGreatDoorW.PrintMore
set_option linter.unusedVariables false
def flat_Order.f (l : List S43) : Option (List ByteArray) := if memsZ l = true then some (orderF l) else none
theorem flat_Order.calls (A0 : Option Addr) (c0 : Nat) (l0 : List S43) (r : List ByteArray) (w : World) (hr0 : Kd.C k43 w A0 l0.length l0) (hc0 : l0.length ≤ c0) (h : flat_Order.f l0 = some r) :
  Calls Tryz.prog 15 #[.slice A0 l0.length c0] w fun e w' => ∃ v0_ : Value, e = .returned (v0_) ∧ Kd.R Kd.string 9 w' w.heap.size (fun _ => True) v0_ r ∧ Below w.heap.size w w' := by
 unfold flat_Order.f at h
 split at h
 ·rename_i hc
  simp only [Option.some.injEq] at h
  subst h
  exact Order_calls A0 c0 l0 w hr0 ((memsZ_iff l0).1 hc)
 ·cases h
end Go.Proofs.YtiijbmaamblidaaGreatDoor.Print

namespace Go.Proofs.YtiijbmaamblidaaGreatDoor.Print
open Go.RowKit Go.Proofs.YtiijbmaamblidaaGreatDoorW.PrintWords Go.Proofs.YtiijbmaamblidaaGreatDoorW.PrintLast Go.Proofs.YtiijbmaamblidaaGreatDoorW.PrintMore
attribute [local go_sem] max2_int min2_int max_two min_two max_three min_three max_four min_four   -- for this text's walks alone
set_option linter.unusedVariables false
set_option linter.unusedSimpArgs false
def bindlelaw18_light.l0 : Nat → List (S43) → Int → Int → Option (Bool)
 | 0, _, _, _ => none
 | k + 1, x0, x3, x4 => if x4 < (x0.length : Int) then (if 0 ≤ x4 then (bindlelaw18_light.l0 k x0 (wrap64 ((wrap64 ((wrap64 (x3 + (((rd_T43 x0 x4).f4).length : Int))) + (((rd_T43 x0 x4).f0).size : Int))) + (((rd_T43 x0 x4).f1).size : Int))) (wrap64 (x4 + 1))) else (none)) else (if (x0.length : Int) ≤ 60 then (some (decide (x3 ≤ 200000))) else (some false))
def bindlelaw18_light.f (k : Nat) (l0 : List (S43)) : Option (Bool) := bindlelaw18_light.l0 k l0 0 0
set_option maxHeartbeats 8000000 in
set_option maxRecDepth 100000 in
theorem bindlelaw18_light.calls (k : Nat) (A0 : Option Addr) (c0 : Nat) (l0 : List (S43)) (r : Bool) (w : World) (hr0 : Kd.C k43 w A0 l0.length l0) (hc0 : l0.length ≤ c0) (h : bindlelaw18_light.f k l0 = some r) :
  Calls Tryz.prog 6 #[.slice A0 l0.length c0] w fun e w' => e = .returned (.bool r) ∧ Drawn0 w w' := by
 have HR0 := A0_ hr0
 have HC0 := A0_ hc0
 clear hr0 hc0
 have H : (bindlelaw18_light.l0 k l0 0 0) = some r := h
 clear h
 have H' := A0_ H
 clear H
 go_enter Tryz.func6, Tryz.ntmps6
 go_wp2
 repeat (go_quiet (fail); try go_wp2)
 go_loopg [3, 4] k (fun kq v3 v4 w' => ∃ (x3_1 : Int) (x4_1 : Int), v3 = .int .i64 x3_1 ∧ v4 = .int .i64 x4_1 ∧ Aside0 (bindlelaw18_light.l0 kq l0 x3_1 x4_1 = some r) ∧ Aside0 (kq ≤ k) ∧ Drawn0 w w')
 case atStart => exact ⟨(0), (0), wr_, wr_, H', ⟨Nat.le_refl _⟩, by repeat (first | exact Drawn0.refl _ | apply Drawn0.step)⟩
 case round =>
  clear H'
  obtain ⟨x3_1, x4_1, rfl, rfl, HA, HK1, ⟨m1, rfl⟩⟩ := hrel
  cases gk with
  | zero => exact absurd HA.out (by simp [bindlelaw18_light.l0])
  | succ k1 =>
   have H := HA.out
   clear HA
   simp only [bindlelaw18_light.l0] at H
   by_cases c2 : x4_1 < (l0.length : Int)
   rotate_left
   ·rw [if_neg c2] at H
    have c2b0 : decide (x4_1 < (l0.length : Int)) = false := decide_eq_false c2
    clear c2
    by_cases c4 : (l0.length : Int) ≤ 60
    ·rw [if_pos c4] at H
     have c4b0 : decide ((l0.length : Int) ≤ 60) = true := decide_eq_true c4
     have c4b1 : decide (l0.length ≤ 60) = true := decide_eq_true (by omega)
     clear c4
     obtain rfl := Option.some.inj H
     go_wp2
     repeat (go_quiet (fail); try go_wp2)
     go_ret
     exact ⟨by first | rfl | (simp; done) | (simp [*]; done), by repeat (first | exact Drawn0.refl _ | apply Drawn0.step)⟩
    rw [if_neg c4] at H
    have c4b0 : decide ((l0.length : Int) ≤ 60) = false := decide_eq_false c4
    have c4b1 : decide (l0.length ≤ 60) = false := decide_eq_false (by omega)
    clear c4
    obtain rfl := Option.some.inj H
    go_wp2
    repeat (go_quiet (fail); try go_wp2)
    go_ret
    exact ⟨by first | rfl | (simp; done) | (simp [*]; done), by repeat (first | exact Drawn0.refl _ | apply Drawn0.step)⟩
   rw [if_pos c2] at H
   have c2b0 : decide (x4_1 < (l0.length : Int)) = true := decide_eq_true c2
   clear c2
   by_cases c3 : 0 ≤ x4_1
   rotate_left
   ·rw [if_neg c3] at H
    exact absurd H (by simp)
   rw [if_pos c3] at H
   have c3b0 : decide (0 ≤ x4_1) = true := decide_eq_true c3
   clear c3
   have H' := A0_ H
   clear H
   have p101 : 0 ≤ (x4_1 : Int) := wd_
   have q101 : x4_1 < (l0.length : Int) := wd_
   obtain ⟨ad101, A101_7, c101_7, e101, hx101_0, hx101_1, hx101_2, hx101_3, hx101_4, hx101_5, hx101_6, hx101_7, hl101_7, hi101_7⟩ := at_T43 HR0.out x4_1 p101 q101
   cases e101
   have HR101_7 := A0_ hi101_7
   have HC101_7 := A0_ hl101_7
   clear hi101_7 hl101_7
   replace p101 := eq_true p101
   replace q101 := eq_true q101
   have p102 : 0 ≤ (x4_1 : Int) := wd_
   have q102 : x4_1 < (l0.length : Int) := wd_
   obtain ⟨ad102, A102_7, c102_7, e102, hx102_0, hx102_1, hx102_2, hx102_3, hx102_4, hx102_5, hx102_6, hx102_7, hl102_7, hi102_7⟩ := at_T43 HR0.out x4_1 p102 q102
   obtain rfl : ad101 = ad102 := (by injection e102)
   have HR102_7 := A0_ hi102_7
   have HC102_7 := A0_ hl102_7
   clear hi102_7 hl102_7
   replace p102 := eq_true p102
   replace q102 := eq_true q102
   have ea_ := Option.some.inj (hx101_7.symm.trans hx102_7)
   injection ea_ with ea_ en_ ec_
   subst ea_
   subst ec_
   clear en_
   have p103 : 0 ≤ (x4_1 : Int) := wd_
   have q103 : x4_1 < (l0.length : Int) := wd_
   obtain ⟨ad103, A103_7, c103_7, e103, hx103_0, hx103_1, hx103_2, hx103_3, hx103_4, hx103_5, hx103_6, hx103_7, hl103_7, hi103_7⟩ := at_T43 HR0.out x4_1 p103 q103
   obtain rfl : ad101 = ad103 := (by injection e103)
   have HR103_7 := A0_ hi103_7
   have HC103_7 := A0_ hl103_7
   clear hi103_7 hl103_7
   replace p103 := eq_true p103
   replace q103 := eq_true q103
   have ea_ := Option.some.inj (hx101_7.symm.trans hx103_7)
   injection ea_ with ea_ en_ ec_
   subst ea_
   subst ec_
   clear en_
   go_wp2
   repeat (go_quiet (fail); try go_wp2)
   go_roundg k1
   case measure => have := HK1.out; omega
   case rel => exact ⟨(wrap64 ((wrap64 ((wrap64 (x3_1 + (((rd_T43 l0 x4_1).f4).length : Int))) + (((rd_T43 l0 x4_1).f0).size : Int))) + (((rd_T43 l0 x4_1).f1).size : Int))), (wrap64 (x4_1 + 1)), wr_, wr_, H', ⟨by have := HK1.out; omega⟩, by repeat (first | exact Drawn0.refl _ | apply Drawn0.step)⟩
end Go.Proofs.YtiijbmaamblidaaGreatDoor.Print

namespace Go.Proofs.YtiijbmaamblidaaGreatDoor.Print
open Go.RowKit Go.Proofs.YtiijbmaamblidaaGreatDoorW.PrintWords Go.Proofs.YtiijbmaamblidaaGreatDoorW.PrintLast Go.Proofs.YtiijbmaamblidaaGreatDoorW.PrintMore
attribute [local go_sem] max2_int min2_int max_two min_two max_three min_three max_four min_four   -- for this text's walks alone
set_option linter.unusedVariables false
set_option linter.unusedSimpArgs false
def flat_Flatten.f (l0 : List (S43)) : Option ((List (S43)) × Int × Int) := (tree_Fold.f l0).bind fun bt105 => (if bt105.2.1 = 0 then ((flat_Order.f l0).bind fun t111 => ((links_Members.f bt105.1 t111).bind fun bt114 => (some (bt114.1, bt114.2, 0)))) else (some (([] : List (S43)), bt105.2.1, bt105.2.2)))
set_option maxHeartbeats 8000000 in
set_option maxRecDepth 100000 in
theorem flat_Flatten.calls (A0 : Option Addr) (c0 : Nat) (l0 : List (S43)) (r1 : List (S43)) (r2 : Int) (r3 : Int) (w : World) (hT : Aside0 (Tabs w)) (hr0 : Kd.C k43 w A0 l0.length l0) (hc0 : l0.length ≤ c0) (h : flat_Flatten.f l0 = some (r1, r2, r3)) :
  Calls Tryz.prog 8 #[.slice A0 l0.length c0] w fun e w' => ∃ v0_ : Value, e = .returned (.tuple #[v0_, .agg #[.int .i64 r2, .int .i64 r3]]) ∧ Kd.V k43 43 w' w.heap.size (fun k_ => (w.heap.size ≤ k_)) v0_ r1 ∧ Below w.heap.size w w' := by
 have hu27 := Tryz.underlying27
 have HR0 := A0_ hr0
 have HC0 := A0_ hc0
 clear hr0 hc0
 have HB := A0_ (Below.refl w.heap.size w)
 have H : ((tree_Fold.f l0).bind fun bt105 => (if bt105.2.1 = 0 then ((flat_Order.f l0).bind fun t111 => ((links_Members.f bt105.1 t111).bind fun bt114 => (some (bt114.1, bt114.2, 0)))) else (some (([] : List (S43)), bt105.2.1, bt105.2.2)))) = some (r1, r2, r3) := h
 clear h
 replace H := Option.bind_eq_some_iff.mp H
 obtain ⟨⟨t105, t108, t109⟩, A20, H⟩ := H
 replace H : (if t108 = 0 then ((flat_Order.f l0).bind fun t111 => ((links_Members.f t105 t111).bind fun bt114 => (some (bt114.1, bt114.2, 0)))) else (some (([] : List (S43)), t108, t109))) = some (r1, r2, r3) := H
 have A2 := A0_ A20
 clear A20
 by_cases c3 : t108 = 0
 rotate_left
 ·rw [if_neg c3] at H
  have c3b0 : (t108 == 0) = false := beq_eq_false_iff_ne.mpr c3
  have c3b1 : (t108 != 0) = true := bne_iff_ne.mpr c3
  simp only [Option.some.injEq, Prod.mk.injEq] at H
  obtain ⟨rfl, rfl, rfl⟩ := H
  go_enter Tryz.func8, Tryz.ntmps8
  try go_wp2_with (first | ((with_reducible refine gate_dst (N := 3) rfl ?_); refine box_event ?hg (N := 3) ?hd (cs := #[.int .i64 0, .int .i64 0]) (t := 27) ?hr ?_; (case hd => rfl); (case hg => rfl); (case hr => first | (go_simp; done) | (go_simp; rfl)); intro gb104 hg w16 hbox hb; have n0_ := A0_ (below_step (wb_ HB.out) hb); have n1_ := A0_ (hbox); have n2_ := A0_ ((by rw [hg]; exact (below_size (wb_ HB.out)) : w.heap.size ≤ gb104)); have n3_ := A0_ ((by rw [hg]; exact (below_size (wb_ HB.out)) : w.heap.size ≤ gb104)); clear HB; have HB := n0_; have BK104 := n1_; have GW104 := n2_; have GE104 := n3_; clear n0_ n1_ n2_ n3_; clear hb hbox hg) | ((with_reducible refine gate_callee (f := 16) rfl ?_); refine goesL_ (some 10) rfl rfl Tryz.func16 (by kernel_rfl) rfl #[.slice A0 l0.length c0] rfl wm_ ?_; (with_reducible refine (tree_Fold.calls _ _ l0 t105 t108 t109 _ ?side1 ?side2 ?side3 A2.out).mono ?_); (case side1 => exact A0_ (Tabs.below hT.out (wb1_ HB.out GE104.out))); (case side2 => exact wc_ (Kd.C_below HR0.out HB.out)); (case side3 => exact HC0.out); rintro e w17 ⟨v106, rfl, ho0, hb⟩; refine ⟨_, rfl, ?_⟩; have n0_ := A0_ (Kd.V_lower (Kd.V_mono (ok' := fun k_ => (w.heap.size ≤ k_) ∧ k_ ≠ gb104) ho0 (fun k_ hk_ => ⟨(Nat.le_trans (below_size (wb1_ HB.out GE104.out)) hk_), (Kd.freshB (g := gb104) (o := .cells #[.int .i64 0, .int .i64 0] 27 (0, 0)) (wB_ BK104.out) k_ hk_)⟩)) (below_size (wb1_ HB.out GE104.out))); have n1_ := A0_ (blk_below (g := gb104) (o := .cells #[.int .i64 0, .int .i64 0] 27 (0, 0)) (wB_ BK104.out) hb); have n2_ := A0_ (below_step (wb1_ HB.out GE104.out) hb); clear BK104; clear HB; have HO107 := n0_; have BK104 := n1_; have HB := n2_; clear n0_ n1_ n2_; (try clear hb); (try clear hb2); (try clear hk); (try clear hi); (try clear ho0)) | ((with_reducible refine gate_dst (N := 5) rfl ?_); refine box_event ?hg (N := 5) ?hd (cs := #[.int .i64 0, .int .i64 0]) (t := 27) ?hr ?_; (case hd => rfl); (case hg => rfl); (case hr => first | (go_simp; done) | (go_simp; rfl)); intro gb110 hg w18 hbox hb; have n0_ := A0_ (Vb_ (Kd.V_elderB (wV_ HO107.out) gb110 (Nat.le_of_eq hg.symm)) hb); have n1_ := A0_ (blk_below (g := gb104) (o := .cells #[.int .i64 0, .int .i64 0] 27 (0, 0)) (wB_ BK104.out) hb); have n2_ := A0_ (below_step (wb1_ HB.out GE104.out) hb); have n3_ := A0_ (hbox); have n4_ := A0_ ((by rw [hg]; exact (below_size (wb1_ HB.out GE104.out)) : w.heap.size ≤ gb110)); have n5_ := A0_ ((by rw [hg]; exact (below_size (wb1_ HB.out GE104.out)) : w.heap.size ≤ gb110)); have n6_ := A0_ ((by rw [hg]; exact Nat.ne_of_lt (blk_lt (g := gb104) (o := .cells #[.int .i64 0, .int .i64 0] 27 (0, 0)) (wB_ BK104.out)) : gb104 ≠ gb110)); have n7_ := A0_ ((by rw [hg]; exact Nat.ne_of_gt (blk_lt (g := gb104) (o := .cells #[.int .i64 0, .int .i64 0] 27 (0, 0)) (wB_ BK104.out)) : gb110 ≠ gb104)); clear HO107; clear BK104; clear HB; have HO107 := n0_; have BK104 := n1_; have HB := n2_; have BK110 := n3_; have GW110 := n4_; have GE110 := n5_; have NB104_110 := n6_; have NB110_104 := n7_; clear n0_ n1_ n2_ n3_ n4_ n5_ n6_ n7_; clear hb hbox hg; have hnb19 := NB110_104.out; have hnc19 := NB104_110.out; have hcz20_0 : w18.cell? ⟨gb110, 0, none⟩ = some (.int .i64 0) := (bc_ BK110.out 0).trans rfl; have hcz20_1 : w18.cell? ⟨gb110, 1, none⟩ = some (.int .i64 0) := (bc_ BK110.out 1).trans rfl; have hfz20_0 := bf_ BK110.out 0; have hfz20_1 := bf_ BK110.out 1))
  have n0_ : Aside0 (Kd.V k49 49 ((w18.setCell ⟨gb110, 0, none⟩ (.int .i64 t108)).setCell ⟨gb110, 1, none⟩ (.int .i64 t109)) w.heap.size (fun k_ => (w.heap.size ≤ k_) ∧ k_ ≠ gb104 ∧ k_ ≠ gb110) v106 t105) := ⟨by (with_reducible repeat (first | apply Va_ | apply VN_ | apply V1_)); exact Kd.V_mono (Kd.V_far (p := ⟨gb110, 1, none⟩) (Kd.V_far (p := ⟨gb110, 0, none⟩) (Kd.V_mono HO107.out (fun k_ hk => (⟨hk, hk.2⟩ : _ ∧ k_ ≠ gb110))) (fun _ hk => hk.2) (.int .i64 t108)) (fun _ hk => hk.2) (.int .i64 t109)) (fun _ hk => ⟨hk.1.1.1, ⟨hk.1.1.2, hk.1.2⟩⟩)⟩
  have n1_ : Aside0 (((w18.setCell ⟨gb110, 0, none⟩ (.int .i64 t108)).setCell ⟨gb110, 1, none⟩ (.int .i64 t109)).heap[gb104]? = some (.cells #[.int .i64 0, .int .i64 0] 27 (0, 0))) := ⟨by (with_reducible repeat (first | refine blk_drewN ?_ _ | refine blk_drew ?_ | refine blk_alloc ?_ _)); refine blk_far ?_ NB104_110.out _; (with_reducible repeat (first | refine blk_drewN ?_ _ | refine blk_drew ?_ | refine blk_alloc ?_ _)); refine blk_far ?_ NB104_110.out _; (with_reducible repeat (first | refine blk_drewN ?_ _ | refine blk_drew ?_ | refine blk_alloc ?_ _)); exact BK104.out⟩
  have n2_ : Aside0 (((w18.setCell ⟨gb110, 0, none⟩ (.int .i64 t108)).setCell ⟨gb110, 1, none⟩ (.int .i64 t109)).heap[gb110]? = some (.cells #[.int .i64 t108, .int .i64 t109] 27 (0, 0))) := ⟨by (with_reducible repeat (first | refine blk_drewN ?_ _ | refine blk_drew ?_ | refine blk_alloc ?_ _)); refine blk_put (cs := #[.int .i64 t108, .int .i64 0]) ?_ 1 _ rfl; (with_reducible repeat (first | refine blk_drewN ?_ _ | refine blk_drew ?_ | refine blk_alloc ?_ _)); refine blk_put (cs := #[.int .i64 0, .int .i64 0]) ?_ 0 _ rfl; (with_reducible repeat (first | refine blk_drewN ?_ _ | refine blk_drew ?_ | refine blk_alloc ?_ _)); exact BK110.out⟩
  have n3_ : Aside0 (Below w.heap.size w ((w18.setCell ⟨gb110, 0, none⟩ (.int .i64 t108)).setCell ⟨gb110, 1, none⟩ (.int .i64 t109))) := ⟨wb2_ HB.out GE104.out GE110.out⟩
  (try clear HO107)
  (try clear BK104)
  (try clear BK110)
  (try clear HB)
  generalize ((w18.setCell ⟨gb110, 0, none⟩ (.int .i64 t108)).setCell ⟨gb110, 1, none⟩ (.int .i64 t109)) = w21 at n0_ n1_ n2_ n3_ ⊢
  have HO107 := n0_
  have BK104 := n1_
  have BK110 := n2_
  have HB := n3_
  clear n0_ n1_ n2_ n3_
  have n0_ := A0_ (V1_ HO107.out)
  have n1_ := A0_ (blk_drew BK104.out)
  have n2_ := A0_ (blk_drew BK110.out)
  have n3_ := A0_ (b1_ HB.out)
  clear HO107
  clear BK104
  clear BK110
  clear HB
  have HO107 := n0_
  have BK104 := n1_
  have BK110 := n2_
  have HB := n3_
  clear n0_ n1_ n2_ n3_
  refine start_ (n := 3) (S := fun w' => w'.cell? ⟨gb110, 0, none⟩ = some (.int .i64 t108) ∧ w'.cell? ⟨gb110, 1, none⟩ = some (.int .i64 t109)) (ds := []) #[false, false, false] (by kernel_rfl) rfl rfl ⟨(bc_ BK110.out 0).trans rfl, (bc_ BK110.out 1).trans rfl⟩ (fun hHeld => ?_)
  generalize w21.drew = w22 at HO107 BK104 BK110 HB hHeld ⊢
  refine pur_ (i := 1) (N := some 2) #[false, true, false] (by kernel_rfl) ?_
  refine tak_ (i := 0) (N := some 16) #[true, true, false] (by kernel_rfl) hHeld ?_
  refine one_ (i := 2) (N := none) #[true, true, true] rfl rfl (by kernel_rfl) (by decide) (fun K hK => ?_)
  have hs23 : w22.cell? ⟨gb104, 0, none⟩ = some (.int .i64 0) := (bc_ BK104.out 0).trans rfl
  have hfs23 := bf_ BK104.out 0
  have hns23_1 := NB110_104.out
  have hms23_1 := NB104_110.out
  have hs24 : w22.cell? ⟨gb104, 1, none⟩ = some (.int .i64 0) := (bc_ BK104.out 1).trans rfl
  have hfs24 := bf_ BK104.out 1
  have hns24_1 := NB110_104.out
  have hms24_1 := NB104_110.out
  refine skip_ (w1 := ?_) (by rfl) rfl ?_ ?_
  rotate_left
  ·go_simp
   rfl
  refine hK.out _ _ ⟨((cF_ NB110_104.out).trans (((cF_ NB110_104.out).trans (hHeld.1)))), ((cF_ NB110_104.out).trans (((cF_ NB110_104.out).trans (hHeld.2))))⟩ (fun hHeld => ?_)
  clear hK K
  refine done_ (by kernel_rfl) ?_
  try go_wp2
  refine bodyPost_ret (results_tc rfl _ _ gb104 27 #[.int .i64 t108, .int .i64 t109] (0, 0) _ rfl (by (with_reducible repeat (first | refine blk_drewN ?_ _ | refine blk_drew ?_ | refine blk_alloc ?_ _)); refine blk_put (cs := #[.int .i64 t108, .int .i64 0]) ?_ 1 _ rfl; (with_reducible repeat (first | refine blk_drewN ?_ _ | refine blk_drew ?_ | refine blk_alloc ?_ _)); refine blk_put (cs := #[.int .i64 0, .int .i64 0]) ?_ 0 _ rfl; (with_reducible repeat (first | refine blk_drewN ?_ _ | refine blk_drew ?_ | refine blk_alloc ?_ _)); exact BK104.out) Tryz.underlying27 rfl (by kernel_rfl)) rfl ?_
  exact ⟨_, we_, (Kd.V_nil _ _ _ _ _), wb2_ HB.out GE104.out GE110.out⟩
 rw [if_pos c3] at H
 have c3b0 : (t108 == 0) = true := beq_iff_eq.mpr c3
 have c3b1 : (t108 != 0) = false := bne_eq_false_iff_eq.mpr c3
 clear c3
 replace H := Option.bind_eq_some_iff.mp H
 obtain ⟨t111, A40, H⟩ := H
 replace H : ((links_Members.f t105 t111).bind fun bt114 => (some (bt114.1, bt114.2, 0))) = some (r1, r2, r3) := H
 have A4 := A0_ A40
 clear A40
 replace H := Option.bind_eq_some_iff.mp H
 obtain ⟨⟨t114, t117⟩, A50, H⟩ := H
 replace H : (some (t114, t117, 0)) = some (r1, r2, r3) := H
 have A5 := A0_ A50
 clear A50
 simp only [Option.some.injEq, Prod.mk.injEq] at H
 obtain ⟨rfl, rfl, rfl⟩ := H
 go_enter Tryz.func8, Tryz.ntmps8
 go_wp2_with (first | ((with_reducible refine gate_dst (N := 3) rfl ?_); refine box_event ?hg (N := 3) ?hd (cs := #[.int .i64 0, .int .i64 0]) (t := 27) ?hr ?_; (case hd => rfl); (case hg => rfl); (case hr => first | (go_simp; done) | (go_simp; rfl)); intro gb104 hg w6 hbox hb; have n0_ := A0_ (below_step (wb_ HB.out) hb); have n1_ := A0_ (hbox); have n2_ := A0_ ((by rw [hg]; exact (below_size (wb_ HB.out)) : w.heap.size ≤ gb104)); have n3_ := A0_ ((by rw [hg]; exact (below_size (wb_ HB.out)) : w.heap.size ≤ gb104)); clear HB; have HB := n0_; have BK104 := n1_; have GW104 := n2_; have GE104 := n3_; clear n0_ n1_ n2_ n3_; clear hb hbox hg) | ((with_reducible refine gate_callee (f := 16) rfl ?_); refine goesL_ (some 10) rfl rfl Tryz.func16 (by kernel_rfl) rfl #[.slice A0 l0.length c0] rfl wm_ ?_; (with_reducible refine (tree_Fold.calls _ _ l0 t105 t108 t109 _ ?side1 ?side2 ?side3 A2.out).mono ?_); (case side1 => exact A0_ (Tabs.below hT.out (wb1_ HB.out GE104.out))); (case side2 => exact wc_ (Kd.C_below HR0.out HB.out)); (case side3 => exact HC0.out); rintro e w7 ⟨v106, rfl, ho0, hb⟩; refine ⟨_, rfl, ?_⟩; have n0_ := A0_ (Kd.V_lower (Kd.V_mono (ok' := fun k_ => (w.heap.size ≤ k_) ∧ k_ ≠ gb104) ho0 (fun k_ hk_ => ⟨(Nat.le_trans (below_size (wb1_ HB.out GE104.out)) hk_), (Kd.freshB (g := gb104) (o := .cells #[.int .i64 0, .int .i64 0] 27 (0, 0)) (wB_ BK104.out) k_ hk_)⟩)) (below_size (wb1_ HB.out GE104.out))); have n1_ := A0_ (blk_below (g := gb104) (o := .cells #[.int .i64 0, .int .i64 0] 27 (0, 0)) (wB_ BK104.out) hb); have n2_ := A0_ (below_step (wb1_ HB.out GE104.out) hb); clear BK104; clear HB; have HO107 := n0_; have BK104 := n1_; have HB := n2_; clear n0_ n1_ n2_; (try clear hb); (try clear hb2); (try clear hk); (try clear hi); (try clear ho0)) | ((with_reducible refine gate_dst (N := 5) rfl ?_); refine box_event ?hg (N := 5) ?hd (cs := #[.int .i64 0, .int .i64 0]) (t := 27) ?hr ?_; (case hd => rfl); (case hg => rfl); (case hr => first | (go_simp; done) | (go_simp; rfl)); intro gb110 hg w8 hbox hb; have n0_ := A0_ (Vb_ (Kd.V_elderB (wV_ HO107.out) gb110 (Nat.le_of_eq hg.symm)) hb); have n1_ := A0_ (blk_below (g := gb104) (o := .cells #[.int .i64 0, .int .i64 0] 27 (0, 0)) (wB_ BK104.out) hb); have n2_ := A0_ (below_step (wb1_ HB.out GE104.out) hb); have n3_ := A0_ (hbox); have n4_ := A0_ ((by rw [hg]; exact (below_size (wb1_ HB.out GE104.out)) : w.heap.size ≤ gb110)); have n5_ := A0_ ((by rw [hg]; exact (below_size (wb1_ HB.out GE104.out)) : w.heap.size ≤ gb110)); have n6_ := A0_ ((by rw [hg]; exact Nat.ne_of_lt (blk_lt (g := gb104) (o := .cells #[.int .i64 0, .int .i64 0] 27 (0, 0)) (wB_ BK104.out)) : gb104 ≠ gb110)); have n7_ := A0_ ((by rw [hg]; exact Nat.ne_of_gt (blk_lt (g := gb104) (o := .cells #[.int .i64 0, .int .i64 0] 27 (0, 0)) (wB_ BK104.out)) : gb110 ≠ gb104)); clear HO107; clear BK104; clear HB; have HO107 := n0_; have BK104 := n1_; have HB := n2_; have BK110 := n3_; have GW110 := n4_; have GE110 := n5_; have NB104_110 := n6_; have NB110_104 := n7_; clear n0_ n1_ n2_ n3_ n4_ n5_ n6_ n7_; clear hb hbox hg; have hnb9 := NB110_104.out; have hnc9 := NB104_110.out; have hcz10_0 : w8.cell? ⟨gb110, 0, none⟩ = some (.int .i64 0) := (bc_ BK110.out 0).trans rfl; have hcz10_1 : w8.cell? ⟨gb110, 1, none⟩ = some (.int .i64 0) := (bc_ BK110.out 1).trans rfl; have hfz10_0 := bf_ BK110.out 0; have hfz10_1 := bf_ BK110.out 1) | ((with_reducible refine gate_callee (f := 15) rfl ?_); refine goesL_ (some 20) rfl rfl Tryz.func15 (by kernel_rfl) rfl #[.slice A0 l0.length c0] rfl wm_ ?_; (with_reducible refine (flat_Order.calls _ _ l0 t111 _ ?side1 ?side2 A4.out).mono ?_); (case side1 => exact Kd.C_below HR0.out (wb2_ HB.out GE104.out GE110.out)); (case side2 => exact HC0.out); rintro e w11 ⟨v112, rfl, ho0, hb⟩; refine ⟨_, rfl, ?_⟩; have n0_ := A0_ (Kd.V_elder' (by (with_reducible repeat (first | apply Va_ | apply VN_ | apply V1_)); exact (Kd.V_mono (Kd.V_far (p := ⟨gb110, 1, none⟩) (Kd.V_far (p := ⟨gb110, 0, none⟩) (Kd.V_mono HO107.out (fun k_ hk => (⟨hk, hk.2⟩ : _ ∧ k_ ≠ gb110))) (fun _ hk => hk.2) (.int .i64 t108)) (fun _ hk => hk.2) (.int .i64 t109)) (fun _ h_ => h_.1))) (Kd.R_base ho0) hb); have n1_ := A0_ (Kd.R_lower (Kd.R_newM (M := fun k_ => (w.heap.size ≤ k_)) ho0 (below_size (wb2_ HB.out GE104.out GE110.out)) (fun k_ h_ => h_)) (below_size (wb2_ HB.out GE104.out GE110.out))); have n2_ := A0_ (blk_below (g := gb104) (o := .cells #[.int .i64 0, .int .i64 0] 27 (0, 0)) (by (with_reducible repeat (first | refine blk_drewN ?_ _ | refine blk_drew ?_ | refine blk_alloc ?_ _)); refine blk_far ?_ NB104_110.out _; (with_reducible repeat (first | refine blk_drewN ?_ _ | refine blk_drew ?_ | refine blk_alloc ?_ _)); refine blk_far ?_ NB104_110.out _; (with_reducible repeat (first | refine blk_drewN ?_ _ | refine blk_drew ?_ | refine blk_alloc ?_ _)); exact BK104.out) hb); have n3_ := A0_ (blk_below (g := gb110) (o := .cells #[.int .i64 t108, .int .i64 t109] 27 (0, 0)) (by (with_reducible repeat (first | refine blk_drewN ?_ _ | refine blk_drew ?_ | refine blk_alloc ?_ _)); refine blk_put (cs := #[.int .i64 t108, .int .i64 0]) ?_ 1 _ rfl; (with_reducible repeat (first | refine blk_drewN ?_ _ | refine blk_drew ?_ | refine blk_alloc ?_ _)); refine blk_put (cs := #[.int .i64 0, .int .i64 0]) ?_ 0 _ rfl; (with_reducible repeat (first | refine blk_drewN ?_ _ | refine blk_drew ?_ | refine blk_alloc ?_ _)); exact BK110.out) hb); have n4_ := A0_ (below_step (wb2_ HB.out GE104.out GE110.out) hb); clear HO107; clear BK104; clear BK110; clear HB; have HO107 := n0_; have HO113 := n1_; have BK104 := n2_; have BK110 := n3_; have HB := n4_; clear n0_ n1_ n2_ n3_ n4_; (try clear hb); (try clear hb2); (try clear hk); (try clear hi); (try clear ho0); obtain ⟨Ao12, co12, eo12⟩ := Kd.V_slice HO107.out; subst eo12; obtain ⟨Ao13, co13, eo13⟩ := Kd.R_slice HO113.out; subst eo13) | ((with_reducible refine gate_callee (f := 17) rfl ?_); refine goesL_ (some 21) rfl rfl Tryz.func17 (by kernel_rfl) rfl #[.slice Ao12 t105.length co12, .slice Ao13 t111.length co13] rfl wm_ ?_; (with_reducible refine (links_Members.calls _ _ t105 _ _ t111 t114 t117 _ ?side1 ?side2 ?side3 ?side4 A5.out).mono ?_); (case side1 => exact wc_ (Kd.V_reads' HO107.out).2.2); (case side2 => exact (Kd.V_reads' HO107.out).2.1); (case side3 => exact wc_ (Kd.R_reads' HO113.out).2.2); (case side4 => exact (Kd.R_reads' HO113.out).2.1); rintro e w14 ⟨v115, rfl, ho0, hb⟩; refine ⟨_, rfl, ?_⟩; have n0_ := A0_ (Vb_ (wV_ HO107.out) hb); have n1_ := A0_ (Rb_ (wR_ HO113.out) hb); have n2_ := A0_ (Kd.V_lower (Kd.V_mono (ok' := fun k_ => (w.heap.size ≤ k_) ∧ some k_ ≠ (.slice Ao13 t111.length co13 : Value).ownBlock ∧ k_ ≠ gb104 ∧ k_ ≠ gb110) ho0 (fun k_ hk_ => ⟨(Nat.le_trans (below_size (wb2_ HB.out GE104.out GE110.out)) hk_), (Kd.fresh' (Kd.R_lt (wR_ HO113.out)) k_ hk_), (Kd.freshB (g := gb104) (o := .cells #[.int .i64 0, .int .i64 0] 27 (0, 0)) (wB_ BK104.out) k_ hk_), (Kd.freshB (g := gb110) (o := .cells #[.int .i64 t108, .int .i64 t109] 27 (0, 0)) (wB_ BK110.out) k_ hk_)⟩)) (below_size (wb2_ HB.out GE104.out GE110.out))); have n3_ := A0_ (blk_below (g := gb104) (o := .cells #[.int .i64 0, .int .i64 0] 27 (0, 0)) (wB_ BK104.out) hb); have n4_ := A0_ (blk_below (g := gb110) (o := .cells #[.int .i64 t108, .int .i64 t109] 27 (0, 0)) (wB_ BK110.out) hb); have n5_ := A0_ (below_step (wb2_ HB.out GE104.out GE110.out) hb); clear HO107; clear HO113; clear BK104; clear BK110; clear HB; have HO107 := n0_; have HO113 := n1_; have HO116 := n2_; have BK104 := n3_; have BK110 := n4_; have HB := n5_; clear n0_ n1_ n2_ n3_ n4_ n5_; (try clear hb); (try clear hb2); (try clear hk); (try clear hi); (try clear ho0); have hcz15_0 : w14.cell? ⟨gb104, 0, none⟩ = some (.int .i64 0) := (bc_ BK104.out 0).trans rfl; have hcz15_1 : w14.cell? ⟨gb104, 1, none⟩ = some (.int .i64 0) := (bc_ BK104.out 1).trans rfl; have hfz15_0 := bf_ BK104.out 0; have hfz15_1 := bf_ BK104.out 1))
 refine bodyPost_ret (results_tc rfl _ _ gb104 27 #[.int .i64 t117, .int .i64 0] (0, 0) _ rfl (by (with_reducible repeat (first | refine blk_drewN ?_ _ | refine blk_drew ?_ | refine blk_alloc ?_ _)); refine blk_put (cs := #[.int .i64 t117, .int .i64 0]) ?_ 1 _ rfl; (with_reducible repeat (first | refine blk_drewN ?_ _ | refine blk_drew ?_ | refine blk_alloc ?_ _)); refine blk_put (cs := #[.int .i64 0, .int .i64 0]) ?_ 0 _ rfl; (with_reducible repeat (first | refine blk_drewN ?_ _ | refine blk_drew ?_ | refine blk_alloc ?_ _)); exact BK104.out) Tryz.underlying27 rfl (by kernel_rfl)) rfl ?_
 exact ⟨_, we_, by (with_reducible repeat (first | apply Va_ | apply VN_ | apply V1_)); exact Kd.V_mono (Kd.V_far (p := ⟨gb104, 1, none⟩) (Kd.V_far (p := ⟨gb104, 0, none⟩) (Kd.V_mono HO116.out (fun k_ hk => (⟨hk, hk.2.2.1⟩ : _ ∧ k_ ≠ gb104))) (fun _ hk => hk.2) (.int .i64 t117)) (fun _ hk => hk.2) (.int .i64 0)) (fun _ hk => hk.1.1), wb2_ HB.out GE104.out GE110.out⟩
end Go.Proofs.YtiijbmaamblidaaGreatDoor.Print

namespace Go.Proofs.YtiijbmaamblidaaGreatDoor
open Go.RowKit Go.Proofs.YtiijbmaamblidaaGreatDoor.Print Go.Proofs.YtiijbmaamblidaaGreatDoorW.PrintWords
set_option linter.unusedVariables false
theorem rdM_n (l : List Mem) (j : Nat) (h : j < l.length) : rd_T43 l (j : Int) = l[j] := by rw [rdM_at l j (by omega) (by omega)]; simp
def sizeM (m : Mem) : Nat := m.f4.length + m.f0.size + m.f1.size
def sumTo (l : List Mem) (i : Nat) : Nat := ((l.take i).map sizeM).sum
theorem sumTo_succ {l : List Mem} {i : Nat} (h : i < l.length) : sumTo l (i + 1) = sumTo l i + sizeM l[i] := by
 unfold sumTo
 rw [List.take_succ_eq_append_getElem h, List.map_append, List.sum_append]
 simp
theorem sumTo_le {l : List Mem} {i j : Nat} (h : i ≤ j) (hj : j ≤ l.length) : sumTo l i ≤ sumTo l j := by
 induction j with
 | zero =>
  obtain rfl : i = 0 := (by omega)
  exact Nat.le_refl _
 | succ j ih =>
  rcases Nat.lt_or_ge i (j + 1) with h1 | h1
  ·have := ih (by omega) (by omega)
   rw [sumTo_succ (by omega)]
   omega
  ·obtain rfl : i = j + 1 := by omega
   exact Nat.le_refl _
theorem light18_no (l : List Mem) (h60 : ¬ l.length ≤ 60) (hlen : l.length ≤ 140737488351232) : ∀ (d i : Nat) (s : Int), i + d = l.length → Ev (fun k => bindlelaw18_light.l0 k l s (i : Int)) false := by
 intro d
 induction d with
 | zero =>
  intro i s hi
  exact Ev.step (f := fun _ => some false) (fun k => by rw [bindlelaw18_light.l0, if_neg (by omega), if_neg (by omega)]) (Ev.now _)
 | succ d ih =>
  intro i s hi
  refine Ev.step (fun k => ?_) (ih (i + 1) (wrap64 ((wrap64 ((wrap64 (s + (((rd_T43 l (i : Int)).f4).length : Int))) + (((rd_T43 l (i : Int)).f0).size : Int))) + (((rd_T43 l (i : Int)).f1).size : Int))) (by omega))
  rw [bindlelaw18_light.l0, if_pos (by omega), if_pos (by omega), show wrap64 ((i : Int) + 1) = ((i + 1 : Nat) : Int) by unfold wrap64; omega]
theorem w_plus {a b : Nat} (h : a + b ≤ 4611686018427387904) : wrap64 ((a : Int) + (b : Int)) = ((a + b : Nat) : Int) := by unfold wrap64; omega
theorem light18_yes (l : List Mem) (h60 : l.length ≤ 60) (hz : ∀ x ∈ l, MemR x) : ∀ (d i : Nat), i + d = l.length → sumTo l i ≤ i * 600000000000000 → Ev (fun k => bindlelaw18_light.l0 k l (sumTo l i : Int) (i : Int)) (decide (sumTo l l.length ≤ 200000)) := by
 intro d
 induction d with
 | zero =>
  intro i hi hs
  obtain rfl : i = l.length := by omega
  refine Ev.step (f := fun _ => some (decide (sumTo l l.length ≤ 200000))) (fun k => ?_) (Ev.now _)
  rw [bindlelaw18_light.l0, if_neg (by omega), if_pos (by omega)]
  congr 1
  rw [decide_eq_decide]
  omega
 | succ d ih =>
  intro i hi hs
  have hil : i < l.length := by omega
  obtain ⟨z0, z1, z2⟩ := hz l[i] (List.getElem_mem hil)
  have hsz : sizeM l[i] = l[i].f4.length + l[i].f0.size + l[i].f1.size := rfl
  have h1 := sumTo_succ hil
  have hs' : sumTo l (i + 1) ≤ (i + 1) * 600000000000000 := by omega
  refine Ev.step (fun k => ?_) (ih (i + 1) (by omega) hs')
  rw [bindlelaw18_light.l0, if_pos (by omega), if_pos (by omega), rdM_n l i hil]
  rw [show wrap64 ((i : Int) + 1) = ((i + 1 : Nat) : Int) by unfold wrap64; omega]
  rw [w_plus (by omega), w_plus (by omega), w_plus (by omega), show sumTo l i + l[i].f4.length + l[i].f0.size + l[i].f1.size = sumTo l (i + 1) by omega]
theorem light18_eq (l : List Mem) (hz : ∀ x ∈ l, MemR x) (hlen : l.length ≤ 140737488351232) : ∃ b, Ev (fun k => bindlelaw18_light.f k l) b ∧ (b = true → l.length ≤ 60 ∧ MemsZ l ∧ sumTo l l.length ≤ 200000) := by
 by_cases h60 : l.length ≤ 60
 ·refine ⟨_, light18_yes l h60 hz l.length 0 (by omega) (by unfold sumTo; simp), fun h => ?_⟩
  have h := of_decide_eq_true h
  refine ⟨h60, ⟨by omega, fun x hx => ?_⟩, h⟩
  obtain ⟨i, hi, rfl⟩ := List.getElem_of_mem hx
  have h1 := sumTo_succ hi
  have h2 := sumTo_le (l := l) (i := i + 1) (j := l.length) (by omega) (Nat.le_refl _)
  have hsz : sizeM l[i] = l[i].f4.length + l[i].f0.size + l[i].f1.size := rfl
  exact ⟨by omega, by omega, by omega⟩
 ·exact ⟨false, light18_no l h60 hlen l.length 0 0 (by omega), fun h => by cases h⟩
theorem flatten_f {l : List Mem} (hz : MemsZ l) (h4 : l.length ≤ 4096) : flat_Flatten.f l = some (flatF l) := by
 unfold flat_Flatten.f tree_Fold.f flat_Order.f
 rw [if_pos ((memsZ_iff l).2 hz), Option.bind_some]
 by_cases h0 : (foldF l).2.1 = 0
 ·have H := flat_ok hz h4 h0
  rw [if_pos h0, if_pos ((memsZ_iff l).2 hz), Option.bind_some]
  unfold links_Members.f
  rw [if_pos ⟨(good_parts H.good).1, (nodesZ_iff _).2 H.nodes.1⟩, Option.bind_some, H.is, H.zero]
 ·rw [if_neg h0, flat_bad h0]
end Go.Proofs.YtiijbmaamblidaaGreatDoor

namespace Go.Proofs.YtiijbmaamblidaaGreatDoor.Print
open Go.RowKit Go.Proofs.YtiijbmaamblidaaGreatDoorW.PrintWords Go.Proofs.YtiijbmaamblidaaGreatDoorW.PrintLast Go.Proofs.YtiijbmaamblidaaGreatDoorW.PrintMore
attribute [local go_sem] max2_int min2_int max_two min_two max_three min_three max_four min_four   -- for this text's walks alone
set_option linter.unusedVariables false
set_option linter.unusedSimpArgs false
mutual
def bindleref18_Order.l0 : Nat → List (S43) → List ByteArray → Int → Option (List ByteArray)
 | 0, _, _, _ => none
 | k + 1, x0, x3, x4 => if x4 < (x0.length : Int) then (bindleref18_Order.l1 k x0 x3 x4 false (wrap64 (x4 + 1))) else (some x3)
def bindleref18_Order.l1 : Nat → List (S43) → List ByteArray → Int → Bool → Int → Option (List ByteArray)
 | 0, _, _, _, _, _ => none
 | k + 1, x0, x3, x4, x5, x6 => if x6 < (x0.length : Int) then (if x5 = true then (bindleref18_Order.l1 k x0 x3 x4 true (wrap64 (x6 + 1))) else (if 0 ≤ x6 then (if 0 ≤ x4 then (if x4 < (x0.length : Int) then (bindleref18_Order.l1 k x0 x3 x4 (((rd_T43 x0 x6).f0).toList == ((rd_T43 x0 x4).f0).toList) (wrap64 (x6 + 1))) else (none)) else (none)) else (none))) else (if x5 = true then (bindleref18_Order.l0 k x0 x3 (wrap64 (x4 + 1))) else (if 0 ≤ x4 then (if x4 < (x0.length : Int) then (if x3.length < 8796093022208 then (bindleref18_Order.l0 k x0 (x3 ++ [(rd_T43 x0 x4).f0]) (wrap64 (x4 + 1))) else (none)) else (none)) else (none)))
end
def bindleref18_Order.f (k : Nat) (l0 : List (S43)) : Option (List ByteArray) := bindleref18_Order.l0 k l0 ([] : List ByteArray) 0
set_option maxHeartbeats 8000000 in
set_option maxRecDepth 100000 in
theorem bindleref18_Order.calls (k : Nat) (A0 : Option Addr) (c0 : Nat) (l0 : List (S43)) (r : List ByteArray) (w : World) (hr0 : Kd.C k43 w A0 l0.length l0) (hc0 : l0.length ≤ c0) (h : bindleref18_Order.f k l0 = some r) :
  Calls Tryz.prog 14 #[.slice A0 l0.length c0] w fun e w' => ∃ v0_ : Value, e = .returned (v0_) ∧ Kd.R Kd.string 9 w' w.heap.size (fun _ => True) v0_ r ∧ Below w.heap.size w w' := by
 have HR0 := A0_ hr0
 have HC0 := A0_ hc0
 clear hr0 hc0
 have HB := A0_ (Below.refl w.heap.size w)
 have H : (bindleref18_Order.l0 k l0 ([] : List ByteArray) 0) = some r := h
 clear h
 have H' := A0_ H
 clear H
 go_enter Tryz.func14, Tryz.ntmps14
 go_wp2
 repeat (go_quiet (fail); try go_wp2)
 go_loopg [3, 4] k (fun kq v3 v4 w' => ∃ (x3_1 : List ByteArray) (x4_1 : Int), v4 = .int .i64 x4_1 ∧ Aside0 (bindleref18_Order.l0 kq l0 x3_1 x4_1 = some r) ∧ Aside0 (kq ≤ k) ∧ Aside0 (Kd.R Kd.string 9 w' w.heap.size (fun _ => True) v3 x3_1) ∧ Aside0 (Below w.heap.size w w'))
 case atStart => exact ⟨(([] : List ByteArray)), (0), wr_, H', ⟨Nat.le_refl _⟩, ⟨by first | exact Kd.R_nil _ _ _ _ _ | exact Kd.N_nil _ _ _ _ _ | exact Kd.V_nil _ _ _ _ _ | exact Kd.Q_nil _ _ _ _ _ | exact Kd.S_nil _ _ _ _ _⟩, ⟨wb_ HB.out⟩⟩
 case round =>
  clear H'
  try clear c1
  obtain ⟨x3_1, x4_1, rfl, HA, HK1, HO_3, HB⟩ := hrel
  cases gk with
  | zero => exact absurd HA.out (by simp [bindleref18_Order.l0])
  | succ k1 =>
   have H := HA.out
   clear HA
   simp only [bindleref18_Order.l0] at H
   by_cases c2 : x4_1 < (l0.length : Int)
   rotate_left
   ·rw [if_neg c2] at H
    have c2b0 : decide (x4_1 < (l0.length : Int)) = false := decide_eq_false c2
    clear c2
    obtain rfl := Option.some.inj H
    go_wp2
    repeat (go_quiet (fail); try go_wp2)
    go_ret
    exact ⟨_, we_, wR_ HO_3.out, wb_ HB.out⟩
   rw [if_pos c2] at H
   have c2b0 : decide (x4_1 < (l0.length : Int)) = true := decide_eq_true c2
   clear c2
   have H' := A0_ H
   clear H
   go_wp2
   repeat (go_quiet (fail); try go_wp2)
   go_loopg [5, 6] k1 (fun kq v5 v6 w' => ∃ (x5_2 : Bool) (x6_2 : Int), v5 = .bool x5_2 ∧ v6 = .int .i64 x6_2 ∧ Aside0 (bindleref18_Order.l1 kq l0 x3_1 x4_1 x5_2 x6_2 = some r) ∧ Aside0 (kq ≤ k1) ∧ Aside0 (Kd.R Kd.string 9 w' w.heap.size (fun _ => True) u3 x3_1) ∧ Aside0 (Below w.heap.size w w'))
   case atStart => exact ⟨(false), (wrap64 (x4_1 + 1)), wr_, wr_, H', ⟨Nat.le_refl _⟩, ⟨wR_ HO_3.out⟩, ⟨wb_ HB.out⟩⟩
   case round =>
    clear H'
    try clear c1
    try clear c2
    try clear c2b0
    try clear p2
    obtain ⟨x5_2, x6_2, rfl, rfl, HA, HK2, HO_3, HB⟩ := hrel
    cases gk with
    | zero => exact absurd HA.out (by simp [bindleref18_Order.l1])
    | succ k2 =>
     have H := HA.out
     clear HA
     simp only [bindleref18_Order.l1] at H
     by_cases c3 : x6_2 < (l0.length : Int)
     ·rw [if_pos c3] at H
      have c3b0 : decide (x6_2 < (l0.length : Int)) = true := decide_eq_true c3
      clear c3
      by_cases c4 : x5_2 = true
      ·subst c4
       have H1 : (bindleref18_Order.l1 k2 l0 x3_1 x4_1 true (wrap64 (x6_2 + 1))) = some r := by rw [if_pos rfl] at H; exact H
       clear H
       have H := H1
       clear H1
       have H' := A0_ H
       clear H
       go_wp2
       repeat (go_quiet (fail); try go_wp2)
       go_roundg k2
       case measure => have := HK1.out; have := HK2.out; omega
       case rel => exact ⟨(true), (wrap64 (x6_2 + 1)), wr_, wr_, H', ⟨by have := HK1.out; have := HK2.out; omega⟩, ⟨wR_ HO_3.out⟩, ⟨wb_ HB.out⟩⟩
      replace c4 := Bool.eq_false_iff.mpr c4
      subst c4
      have H1 : (if 0 ≤ x6_2 then (if 0 ≤ x4_1 then (if x4_1 < (l0.length : Int) then (bindleref18_Order.l1 k2 l0 x3_1 x4_1 (((rd_T43 l0 x6_2).f0).toList == ((rd_T43 l0 x4_1).f0).toList) (wrap64 (x6_2 + 1))) else (none)) else (none)) else (none)) = some r := by rw [if_neg (show ¬ (false = true) by decide)] at H; exact H
      clear H
      have H := H1
      clear H1
      by_cases c5 : 0 ≤ x6_2
      rotate_left
      ·rw [if_neg c5] at H
       exact absurd H (by simp)
      rw [if_pos c5] at H
      have c5b0 : decide (0 ≤ x6_2) = true := decide_eq_true c5
      clear c5
      by_cases c6 : 0 ≤ x4_1
      rotate_left
      ·rw [if_neg c6] at H
       exact absurd H (by simp)
      rw [if_pos c6] at H
      have c6b0 : decide (0 ≤ x4_1) = true := decide_eq_true c6
      clear c6
      by_cases c7 : x4_1 < (l0.length : Int)
      rotate_left
      ·rw [if_neg c7] at H
       exact absurd H (by simp)
      rw [if_pos c7] at H
      have c7b0 : decide (x4_1 < (l0.length : Int)) = true := decide_eq_true c7
      clear c7
      have H' := A0_ H
      clear H
      have p269 : 0 ≤ (x6_2 : Int) := wd_
      have q269 : x6_2 < (l0.length : Int) := wd_
      obtain ⟨ad269, A269_7, c269_7, e269, hx269_0, hx269_1, hx269_2, hx269_3, hx269_4, hx269_5, hx269_6, hx269_7, hl269_7, hi269_7⟩ := at_T43 HR0.out x6_2 p269 q269
      cases e269
      replace hx269_0 := (HB.out.cell (World.block_lt_of_cell? w _ hx269_0)).trans hx269_0
      replace hx269_1 := (HB.out.cell (World.block_lt_of_cell? w _ hx269_1)).trans hx269_1
      replace hx269_2 := (HB.out.cell (World.block_lt_of_cell? w _ hx269_2)).trans hx269_2
      replace hx269_3 := (HB.out.cell (World.block_lt_of_cell? w _ hx269_3)).trans hx269_3
      replace hx269_4 := (HB.out.cell (World.block_lt_of_cell? w _ hx269_4)).trans hx269_4
      replace hx269_5 := (HB.out.cell (World.block_lt_of_cell? w _ hx269_5)).trans hx269_5
      replace hx269_6 := (HB.out.cell (World.block_lt_of_cell? w _ hx269_6)).trans hx269_6
      replace hx269_7 := (HB.out.cell (World.block_lt_of_cell? w _ hx269_7)).trans hx269_7
      have HR269_7 := A0_ hi269_7
      have HC269_7 := A0_ hl269_7
      clear hi269_7 hl269_7
      replace p269 := eq_true p269
      replace q269 := eq_true q269
      have p270 : 0 ≤ (x4_1 : Int) := wd_
      have q270 : x4_1 < (l0.length : Int) := wd_
      obtain ⟨ad270, A270_7, c270_7, e270, hx270_0, hx270_1, hx270_2, hx270_3, hx270_4, hx270_5, hx270_6, hx270_7, hl270_7, hi270_7⟩ := at_T43 HR0.out x4_1 p270 q270
      obtain rfl : ad269 = ad270 := (by injection e270)
      replace hx270_0 := (HB.out.cell (World.block_lt_of_cell? w _ hx270_0)).trans hx270_0
      replace hx270_1 := (HB.out.cell (World.block_lt_of_cell? w _ hx270_1)).trans hx270_1
      replace hx270_2 := (HB.out.cell (World.block_lt_of_cell? w _ hx270_2)).trans hx270_2
      replace hx270_3 := (HB.out.cell (World.block_lt_of_cell? w _ hx270_3)).trans hx270_3
      replace hx270_4 := (HB.out.cell (World.block_lt_of_cell? w _ hx270_4)).trans hx270_4
      replace hx270_5 := (HB.out.cell (World.block_lt_of_cell? w _ hx270_5)).trans hx270_5
      replace hx270_6 := (HB.out.cell (World.block_lt_of_cell? w _ hx270_6)).trans hx270_6
      replace hx270_7 := (HB.out.cell (World.block_lt_of_cell? w _ hx270_7)).trans hx270_7
      have HR270_7 := A0_ hi270_7
      have HC270_7 := A0_ hl270_7
      clear hi270_7 hl270_7
      replace p270 := eq_true p270
      replace q270 := eq_true q270
      go_wp2
      repeat (go_quiet (fail); try go_wp2)
      go_roundg k2
      case measure => have := HK1.out; have := HK2.out; omega
      case rel => exact ⟨((((rd_T43 l0 x6_2).f0).toList == ((rd_T43 l0 x4_1).f0).toList)), (wrap64 (x6_2 + 1)), wr_, wr_, H', ⟨by have := HK1.out; have := HK2.out; omega⟩, ⟨wR_ HO_3.out⟩, ⟨wb_ HB.out⟩⟩
     rw [if_neg c3] at H
     have c3b0 : decide (x6_2 < (l0.length : Int)) = false := decide_eq_false c3
     clear c3
     by_cases c8 : x5_2 = true
     ·subst c8
      have H1 : (bindleref18_Order.l0 k2 l0 x3_1 (wrap64 (x4_1 + 1))) = some r := by rw [if_pos rfl] at H; exact H
      clear H
      have H := H1
      clear H1
      have H' := A0_ H
      clear H
      go_wp2
      repeat (go_quiet (fail); try go_wp2)
      go_roundg k2
      case measure => have := HK1.out; have := HK2.out; omega
      case rel => exact ⟨(x3_1), (wrap64 (x4_1 + 1)), wr_, H', ⟨by have := HK1.out; have := HK2.out; omega⟩, ⟨wR_ HO_3.out⟩, ⟨wb_ HB.out⟩⟩
     replace c8 := Bool.eq_false_iff.mpr c8
     subst c8
     have H1 : (if 0 ≤ x4_1 then (if x4_1 < (l0.length : Int) then (if x3_1.length < 8796093022208 then (bindleref18_Order.l0 k2 l0 (x3_1 ++ [(rd_T43 l0 x4_1).f0]) (wrap64 (x4_1 + 1))) else (none)) else (none)) else (none)) = some r := by rw [if_neg (show ¬ (false = true) by decide)] at H; exact H
     clear H
     have H := H1
     clear H1
     by_cases c9 : 0 ≤ x4_1
     rotate_left
     ·rw [if_neg c9] at H
      exact absurd H (by simp)
     rw [if_pos c9] at H
     have c9b0 : decide (0 ≤ x4_1) = true := decide_eq_true c9
     clear c9
     by_cases c10 : x4_1 < (l0.length : Int)
     rotate_left
     ·rw [if_neg c10] at H
      exact absurd H (by simp)
     rw [if_pos c10] at H
     have c10b0 : decide (x4_1 < (l0.length : Int)) = true := decide_eq_true c10
     clear c10
     by_cases c11 : x3_1.length < 8796093022208
     rotate_left
     ·rw [if_neg c11] at H
      exact absurd H (by simp)
     rw [if_pos c11] at H
     have LMc11 := A0_ c11
     clear c11
     obtain ⟨y272, hy272⟩ : ∃ y_ : List ByteArray, y_ = (x3_1 ++ [(rd_T43 l0 x4_1).f0]) := ⟨_, rfl⟩
     replace H : (bindleref18_Order.l0 k2 l0 y272 (wrap64 (x4_1 + 1))) = some r := by first | (rw [hy272]; with_reducible exact H) | (have H2_ := (Option.bind_some _ _).symm.trans H; rw [hy272]; with_reducible exact H2_) | (have H2_ := (Option.bind_some _ _).symm.trans H; with_reducible exact H2_) | with_reducible exact H | (rw [hy272]; exact H) | exact H
     have Ny272 := A0_ hy272
     clear hy272
     have H' := A0_ H
     clear H
     have p271 : 0 ≤ (x4_1 : Int) := wd_
     have q271 : x4_1 < (l0.length : Int) := wd_
     obtain ⟨ad271, A271_7, c271_7, e271, hx271_0, hx271_1, hx271_2, hx271_3, hx271_4, hx271_5, hx271_6, hx271_7, hl271_7, hi271_7⟩ := at_T43 HR0.out x4_1 p271 q271
     cases e271
     replace hx271_0 := (HB.out.cell (World.block_lt_of_cell? w _ hx271_0)).trans hx271_0
     replace hx271_1 := (HB.out.cell (World.block_lt_of_cell? w _ hx271_1)).trans hx271_1
     replace hx271_2 := (HB.out.cell (World.block_lt_of_cell? w _ hx271_2)).trans hx271_2
     replace hx271_3 := (HB.out.cell (World.block_lt_of_cell? w _ hx271_3)).trans hx271_3
     replace hx271_4 := (HB.out.cell (World.block_lt_of_cell? w _ hx271_4)).trans hx271_4
     replace hx271_5 := (HB.out.cell (World.block_lt_of_cell? w _ hx271_5)).trans hx271_5
     replace hx271_6 := (HB.out.cell (World.block_lt_of_cell? w _ hx271_6)).trans hx271_6
     replace hx271_7 := (HB.out.cell (World.block_lt_of_cell? w _ hx271_7)).trans hx271_7
     have HR271_7 := A0_ hi271_7
     have HC271_7 := A0_ hl271_7
     clear hi271_7 hl271_7
     replace p271 := eq_true p271
     replace q271 := eq_true q271
     go_wp2_with (first | ((with_reducible refine gate_builtin (b := .append) (xs := #[.tmp 37, .tmp 43]) rfl ?_); at_builtin; refine Kd.R_append Kd.string (w0 := w) w.heap.size rfl (.tmp 37) (.tmp 43) 37 9 (.string ⟨#[]⟩) 16 rfl Tryz.underlying37 info9 rfl (by decide) (by omega) u3 x3_1 ((rd_T43 l0 x4_1).f0) [.string ((rd_T43 l0 x4_1).f0)] (fun _ => True) (fun _ => False) rfl rfl ?aP (fun _ hk => hk.elim) ?aF ?aO ?aB ?aS ?aL ?_; (case aP => exact rfl); (case aB => exact (wb_ HB.out)); (case aF => exact (fun _ _ => trivial)); (case aO => exact (wR_ HO_3.out)); (case aS => exact (below_size (wb_ HB.out))); (case aL => have := LMc11.out; omega); intro v273 w12 ho hb hg hat; rw [← Ny272.out] at ho; have n0_ := A0_ (hb); have n1_ := A0_ (ho); clear HB; clear HO_3; have HB := n0_; have HO274 := n1_; clear n0_ n1_; clear ho hb hg hat))
     repeat (go_quiet (first | ((with_reducible refine gate_builtin (b := .append) (xs := #[.tmp 37, .tmp 43]) rfl ?_); at_builtin; refine Kd.R_append Kd.string (w0 := w) w.heap.size rfl (.tmp 37) (.tmp 43) 37 9 (.string ⟨#[]⟩) 16 rfl Tryz.underlying37 info9 rfl (by decide) (by omega) u3 x3_1 ((rd_T43 l0 x4_1).f0) [.string ((rd_T43 l0 x4_1).f0)] (fun _ => True) (fun _ => False) rfl rfl ?aP (fun _ hk => hk.elim) ?aF ?aO ?aB ?aS ?aL ?_; (case aP => exact rfl); (case aB => exact (wb_ HB.out)); (case aF => exact (fun _ _ => trivial)); (case aO => exact (wR_ HO_3.out)); (case aS => exact (below_size (wb_ HB.out))); (case aL => have := LMc11.out; omega); intro v273 w12 ho hb hg hat; rw [← Ny272.out] at ho; have n0_ := A0_ (hb); have n1_ := A0_ (ho); clear HB; clear HO_3; have HB := n0_; have HO274 := n1_; clear n0_ n1_; clear ho hb hg hat)); try go_wp2_with (first | ((with_reducible refine gate_builtin (b := .append) (xs := #[.tmp 37, .tmp 43]) rfl ?_); at_builtin; refine Kd.R_append Kd.string (w0 := w) w.heap.size rfl (.tmp 37) (.tmp 43) 37 9 (.string ⟨#[]⟩) 16 rfl Tryz.underlying37 info9 rfl (by decide) (by omega) u3 x3_1 ((rd_T43 l0 x4_1).f0) [.string ((rd_T43 l0 x4_1).f0)] (fun _ => True) (fun _ => False) rfl rfl ?aP (fun _ hk => hk.elim) ?aF ?aO ?aB ?aS ?aL ?_; (case aP => exact rfl); (case aB => exact (wb_ HB.out)); (case aF => exact (fun _ _ => trivial)); (case aO => exact (wR_ HO_3.out)); (case aS => exact (below_size (wb_ HB.out))); (case aL => have := LMc11.out; omega); intro v273 w12 ho hb hg hat; rw [← Ny272.out] at ho; have n0_ := A0_ (hb); have n1_ := A0_ (ho); clear HB; clear HO_3; have HB := n0_; have HO274 := n1_; clear n0_ n1_; clear ho hb hg hat)))
     go_roundg k2
     case measure => have := HK1.out; have := HK2.out; omega
     case rel => exact ⟨(y272), (wrap64 (x4_1 + 1)), wr_, H', ⟨by have := HK1.out; have := HK2.out; omega⟩, ⟨wR_ HO274.out⟩, ⟨wb_ HB.out⟩⟩
end Go.Proofs.YtiijbmaamblidaaGreatDoor.Print

namespace Go.Proofs.YtiijbmaamblidaaGreatDoor
open Go.RowKit Go.Proofs.YtiijbmaamblidaaGreatDoor.Print Go.Proofs.YtiijbmaamblidaaGreatDoorW.PrintWords
set_option linter.unusedVariables false
theorem rdM_o (l : List Mem) (j : Nat) (h : j < l.length) : rd_T43 l (j : Int) = l[j] := by rw [rdM_at l j (by omega) (by omega)]; simp
theorem pathIn_drop {l : List Mem} {j : Nat} (h : j < l.length) (p : ByteArray) : pathIn (l.drop j) p = (decide (l[j].f0.toList = p.toList) || pathIn (l.drop (j + 1)) p) := by
 rw [List.drop_eq_getElem_cons h]
 unfold pathIn
 rw [List.any_cons]
theorem rorder_inner (l : List Mem) (h60 : l.length ≤ 60) (o R : List ByteArray) (i : Nat) (hi : i < l.length) (ho : o.length ≤ 60)
  (hyes : Ev (fun k => bindleref18_Order.l0 k l o ((i + 1 : Nat) : Int)) (o ++ orderF (l.drop (i + 1)))) (hno : Ev (fun k => bindleref18_Order.l0 k l (o ++ [l[i].f0]) ((i + 1 : Nat) : Int)) ((o ++ [l[i].f0]) ++ orderF (l.drop (i + 1)))) :
  ∀ (d j : Nat) (b : Bool), j + d = l.length → Ev (fun k => bindleref18_Order.l1 k l o (i : Int) b (j : Int)) (if (b || pathIn (l.drop j) l[i].f0) = true then o ++ orderF (l.drop (i + 1)) else (o ++ [l[i].f0]) ++ orderF (l.drop (i + 1))) := by
 intro d
 induction d with
 | zero =>
  intro j b hj
  have e : pathIn (l.drop j) l[i].f0 = false := by rw [List.drop_of_length_le (by omega)]; rfl
  rw [e, Bool.or_false]
  cases b with
  | true =>
   rw [if_pos rfl]
   refine Ev.step (fun k => ?_) hyes
   rw [bindleref18_Order.l1, if_neg (by omega), if_pos rfl, show wrap64 ((i : Int) + 1) = ((i + 1 : Nat) : Int) by unfold wrap64; omega]
  | false =>
   rw [if_neg (by decide)]
   refine Ev.step (fun k => ?_) hno
   rw [bindleref18_Order.l1, if_neg (by omega), if_neg (by decide), if_pos (by omega), if_pos (by omega), if_pos (by omega), rdM_o l i hi, show wrap64 ((i : Int) + 1) = ((i + 1 : Nat) : Int) by unfold wrap64; omega]
 | succ d ih =>
  intro j b hj
  have hjl : j < l.length := by omega
  cases b with
  | true =>
   have h := ih (j + 1) true (by omega)
   rw [Bool.true_or] at h ⊢
   refine Ev.step (fun k => ?_) h
   rw [bindleref18_Order.l1, if_pos (by omega), if_pos rfl, show wrap64 ((j : Int) + 1) = ((j + 1 : Nat) : Int) by unfold wrap64; omega]
  | false =>
   have h := ih (j + 1) (l[j].f0.toList == l[i].f0.toList) (by omega)
   rw [Bool.false_or, pathIn_drop hjl]
   have e : (l[j].f0.toList == l[i].f0.toList) = decide (l[j].f0.toList = l[i].f0.toList) := by
    rw [Bool.eq_iff_iff]; simp
   rw [← e]
   refine Ev.step (fun k => ?_) h
   rw [bindleref18_Order.l1, if_pos (by omega), if_neg (by decide), if_pos (by omega), if_pos (by omega), if_pos (by omega), rdM_o l i hi, rdM_o l j hjl, show wrap64 ((j : Int) + 1) = ((j + 1 : Nat) : Int) by unfold wrap64; omega]
theorem rorder_l (l : List Mem) (h60 : l.length ≤ 60) : ∀ (d i : Nat) (o : List ByteArray), i + d = l.length → o.length ≤ i → Ev (fun k => bindleref18_Order.l0 k l o (i : Int)) (o ++ orderF (l.drop i)) := by
 intro d
 induction d with
 | zero =>
  intro i o hi ho
  rw [List.drop_of_length_le (by omega)]
  exact Ev.step (f := fun _ => some (o ++ orderF [])) (fun k => by rw [bindleref18_Order.l0, if_neg (by omega), orderF, List.append_nil]) (Ev.now _)
 | succ d ih =>
  intro i o hi ho
  have hil : i < l.length := by omega
  have h := rorder_inner l h60 o [] i hil (by omega) (ih (i + 1) o (by omega) (by omega)) (ih (i + 1) (o ++ [l[i].f0]) (by omega) (by rw [List.length_append]; simp; omega)) (l.length - (i + 1)) (i + 1) false (by omega)
  rw [Bool.false_or] at h
  rw [List.drop_eq_getElem_cons hil, orderF]
  have e : o ++ (if pathIn (l.drop (i + 1)) l[i].f0 = true then orderF (l.drop (i + 1)) else l[i].f0 :: orderF (l.drop (i + 1))) = if pathIn (l.drop (i + 1)) l[i].f0 = true then o ++ orderF (l.drop (i + 1)) else (o ++ [l[i].f0]) ++ orderF (l.drop (i + 1)) := by
   split
   ·rfl
   ·rw [List.append_assoc]; rfl
  rw [e]
  refine Ev.step (fun k => ?_) h
  rw [bindleref18_Order.l0, if_pos (by omega), show wrap64 ((i : Int) + 1) = ((i + 1 : Nat) : Int) by unfold wrap64; omega]
theorem rorder_eq (l : List Mem) (h60 : l.length ≤ 60) : Ev (fun k => bindleref18_Order.f k l) (orderF l) := rorder_l l h60 l.length 0 [] (by omega) (Nat.le_refl _)
end Go.Proofs.YtiijbmaamblidaaGreatDoor

namespace Go.Proofs.YtiijbmaamblidaaGreatDoor.Print
open Go.RowKit Go.Proofs.YtiijbmaamblidaaGreatDoorW.PrintWords Go.Proofs.YtiijbmaamblidaaGreatDoorW.PrintLast Go.Proofs.YtiijbmaamblidaaGreatDoorW.PrintMore
attribute [local go_sem] max2_int min2_int max_two min_two max_three min_three max_four min_four   -- for this text's walks alone
set_option linter.unusedVariables false
set_option linter.unusedSimpArgs false
def bindleref08_Own.l0 : Nat → List (S43) → List (S43) → Int → Option ((List (S43)))
 | 0, _, _, _ => none
 | k + 1, x0, x3, x4 => if x4 < (x0.length : Int) then (if 0 ≤ x4 then ((some (([] : List Int) : List Int)).bind fun y205 => (if y205.length + ((rd_T43 x0 x4).f4).length < 140737488355328 then (if x3.length < 1466015503701 then (bindleref08_Own.l0 k x0 (x3 ++ [(⟨(rd_T43 x0 x4).f0, (rd_T43 x0 x4).f1, (rd_T43 x0 x4).f2, (⟨(rd_T43 x0 x4).f3.f0, (rd_T43 x0 x4).f3.f1, (rd_T43 x0 x4).f3.f2, (rd_T43 x0 x4).f3.f3⟩ : S40), (y205 ++ ((rd_T43 x0 x4).f4))⟩ : S43)]) (wrap64 (x4 + 1))) else (none)) else (none))) else (none)) else (some x3)
def bindleref08_Own.f (k : Nat) (l0 : List (S43)) : Option ((List (S43))) := bindleref08_Own.l0 k l0 ([] : List (S43)) 0
set_option maxHeartbeats 8000000 in
set_option maxRecDepth 100000 in
theorem bindleref08_Own.calls (k : Nat) (A0 : Option Addr) (c0 : Nat) (l0 : List (S43)) (r : List (S43)) (w : World) (hr0 : Kd.C k43 w A0 l0.length l0) (hc0 : l0.length ≤ c0) (h : bindleref08_Own.f k l0 = some r) :
  Calls Tryz.prog 11 #[.slice A0 l0.length c0] w fun e w' => ∃ v0_ : Value, e = .returned (v0_) ∧ Kd.S k43 43 w' w.heap.size (fun _ => True) v0_ r ∧ Below w.heap.size w w' := by
 have hu43 := Tryz.underlying43
 have HR0 := A0_ hr0
 have HC0 := A0_ hc0
 clear hr0 hc0
 have HB := A0_ (Below.refl w.heap.size w)
 have H : (bindleref08_Own.l0 k l0 ([] : List (S43)) 0) = some r := h
 clear h
 have H' := A0_ H
 clear H
 go_enter Tryz.func11, Tryz.ntmps11
 go_wp2
 go_loopg [3, 4] k (fun kq v3 v4 w' => ∃ (x3_1 : List (S43)) (x4_1 : Int), v4 = .int .i64 x4_1 ∧ Aside0 (bindleref08_Own.l0 kq l0 x3_1 x4_1 = some r) ∧ Aside0 (kq ≤ k) ∧ Aside0 (Kd.S k43 43 w' w.heap.size (fun _ => True) v3 x3_1) ∧ Aside0 (Below w.heap.size w w'))
 case atStart => exact ⟨(([] : List (S43))), (0), wr_, H', ⟨Nat.le_refl _⟩, ⟨by first | exact Kd.S_nil _ _ _ _ _ | exact Kd.N_nil _ _ _ _ _ | exact Kd.V_nil _ _ _ _ _ | exact Kd.Q_nil _ _ _ _ _ | exact Kd.R_nil _ _ _ _ _⟩, ⟨wb_ HB.out⟩⟩
 case round =>
  clear H'
  try clear c1
  obtain ⟨x3_1, x4_1, rfl, HA, HK1, HO_3, HB⟩ := hrel
  cases gk with
  | zero => exact absurd HA.out (by simp [bindleref08_Own.l0])
  | succ k1 =>
   have H := HA.out
   clear HA
   simp only [bindleref08_Own.l0] at H
   by_cases c2 : x4_1 < (l0.length : Int)
   rotate_left
   ·rw [if_neg c2] at H
    have c2b0 : decide (x4_1 < (l0.length : Int)) = false := decide_eq_false c2
    clear c2
    obtain rfl := Option.some.inj H
    go_wp2
    go_ret
    exact ⟨_, we_, wS_ HO_3.out, wb_ HB.out⟩
   rw [if_pos c2] at H
   have c2b0 : decide (x4_1 < (l0.length : Int)) = true := decide_eq_true c2
   clear c2
   by_cases c3 : 0 ≤ x4_1
   rotate_left
   ·rw [if_neg c3] at H
    exact absurd H (by simp)
   rw [if_pos c3] at H
   have c3b0 : decide (0 ≤ x4_1) = true := decide_eq_true c3
   clear c3
   obtain ⟨y205, hy205⟩ : ∃ y_ : List Int, y_ = (([] : List Int)) := ⟨_, rfl⟩
   replace H : (if y205.length + ((rd_T43 l0 x4_1).f4).length < 140737488355328 then (if x3_1.length < 1466015503701 then (bindleref08_Own.l0 k1 l0 (x3_1 ++ [(⟨(rd_T43 l0 x4_1).f0, (rd_T43 l0 x4_1).f1, (rd_T43 l0 x4_1).f2, (⟨(rd_T43 l0 x4_1).f3.f0, (rd_T43 l0 x4_1).f3.f1, (rd_T43 l0 x4_1).f3.f2, (rd_T43 l0 x4_1).f3.f3⟩ : S40), (y205 ++ ((rd_T43 l0 x4_1).f4))⟩ : S43)]) (wrap64 (x4_1 + 1))) else (none)) else (none)) = some r := by first | (rw [hy205]; with_reducible exact H) | (have H2_ := (Option.bind_some _ _).symm.trans H; rw [hy205]; with_reducible exact H2_) | (have H2_ := (Option.bind_some _ _).symm.trans H; with_reducible exact H2_) | with_reducible exact H | (rw [hy205]; exact H) | exact H
   have Ny205 := A0_ hy205
   clear hy205
   by_cases c4 : y205.length + ((rd_T43 l0 x4_1).f4).length < 140737488355328
   rotate_left
   ·rw [if_neg c4] at H
    exact absurd H (by simp)
   rw [if_pos c4] at H
   have LMc4 := A0_ c4
   clear c4
   obtain ⟨y208, hy208⟩ : ∃ y_ : List Int, y_ = (y205 ++ ((rd_T43 l0 x4_1).f4)) := ⟨_, rfl⟩
   replace H : (if x3_1.length < 1466015503701 then (bindleref08_Own.l0 k1 l0 (x3_1 ++ [(⟨(rd_T43 l0 x4_1).f0, (rd_T43 l0 x4_1).f1, (rd_T43 l0 x4_1).f2, (⟨(rd_T43 l0 x4_1).f3.f0, (rd_T43 l0 x4_1).f3.f1, (rd_T43 l0 x4_1).f3.f2, (rd_T43 l0 x4_1).f3.f3⟩ : S40), y208⟩ : S43)]) (wrap64 (x4_1 + 1))) else (none)) = some r := by first | (rw [hy208]; with_reducible exact H) | (have H2_ := (Option.bind_some _ _).symm.trans H; rw [hy208]; with_reducible exact H2_) | (have H2_ := (Option.bind_some _ _).symm.trans H; with_reducible exact H2_) | with_reducible exact H | (rw [hy208]; exact H) | exact H
   have Ny208 := A0_ hy208
   clear hy208
   by_cases c5 : x3_1.length < 1466015503701
   rotate_left
   ·rw [if_neg c5] at H
    exact absurd H (by simp)
   rw [if_pos c5] at H
   have LMc5 := A0_ c5
   clear c5
   obtain ⟨y211, hy211⟩ : ∃ y_ : List (S43), y_ = (x3_1 ++ [(⟨(rd_T43 l0 x4_1).f0, (rd_T43 l0 x4_1).f1, (rd_T43 l0 x4_1).f2, (⟨(rd_T43 l0 x4_1).f3.f0, (rd_T43 l0 x4_1).f3.f1, (rd_T43 l0 x4_1).f3.f2, (rd_T43 l0 x4_1).f3.f3⟩ : S40), y208⟩ : S43)]) := ⟨_, rfl⟩
   replace H : (bindleref08_Own.l0 k1 l0 y211 (wrap64 (x4_1 + 1))) = some r := by first | (rw [hy211]; with_reducible exact H) | (have H2_ := (Option.bind_some _ _).symm.trans H; rw [hy211]; with_reducible exact H2_) | (have H2_ := (Option.bind_some _ _).symm.trans H; with_reducible exact H2_) | with_reducible exact H | (rw [hy211]; exact H) | exact H
   have Ny211 := A0_ hy211
   clear hy211
   have H' := A0_ H
   clear H
   have p203 : 0 ≤ (x4_1 : Int) := wd_
   have q203 : x4_1 < (l0.length : Int) := wd_
   obtain ⟨ad203, A203_7, c203_7, e203, hx203_0, hx203_1, hx203_2, hx203_3, hx203_4, hx203_5, hx203_6, hx203_7, hl203_7, hi203_7⟩ := at_T43 HR0.out x4_1 p203 q203
   cases e203
   replace hx203_0 := (HB.out.cell (World.block_lt_of_cell? w _ hx203_0)).trans hx203_0
   replace hx203_1 := (HB.out.cell (World.block_lt_of_cell? w _ hx203_1)).trans hx203_1
   replace hx203_2 := (HB.out.cell (World.block_lt_of_cell? w _ hx203_2)).trans hx203_2
   replace hx203_3 := (HB.out.cell (World.block_lt_of_cell? w _ hx203_3)).trans hx203_3
   replace hx203_4 := (HB.out.cell (World.block_lt_of_cell? w _ hx203_4)).trans hx203_4
   replace hx203_5 := (HB.out.cell (World.block_lt_of_cell? w _ hx203_5)).trans hx203_5
   replace hx203_6 := (HB.out.cell (World.block_lt_of_cell? w _ hx203_6)).trans hx203_6
   replace hx203_7 := (HB.out.cell (World.block_lt_of_cell? w _ hx203_7)).trans hx203_7
   have HR203_7 := A0_ hi203_7
   have HC203_7 := A0_ hl203_7
   clear hi203_7 hl203_7
   replace p203 := eq_true p203
   replace q203 := eq_true q203
   go_wp2_with (first | ((with_reducible refine gate_dst (N := 5) rfl ?_); refine box_event ?hg (N := 5) ?hd (cs := #[.string (⟨#[]⟩ : ByteArray), .string (⟨#[]⟩ : ByteArray), .int .u8 0, .int .i64 0, .int .i64 0, .int .i64 0, .int .i64 0, .slice none 0 0]) (t := 43) ?hr ?_; (case hd => rfl); (case hg => rfl); (case hr => first | (go_simp; done) | (go_simp; rfl)); intro gb204 hg w6 hbox hb; have n0_ := A0_ (Sb_ (Kd.S_elderB (wS_ HO_3.out) gb204 (Nat.le_of_eq hg.symm)) hb); have n1_ := A0_ (below_step (wb_ HB.out) hb); have n2_ := A0_ (hbox); have n3_ := A0_ ((by rw [hg]; exact (below_size (wb_ HB.out)) : w.heap.size ≤ gb204)); have n4_ := A0_ ((by rw [hg]; exact (below_size (wb_ HB.out)) : w.heap.size ≤ gb204)); clear HO_3; clear HB; have HO_3 := n0_; have HB := n1_; have BK204 := n2_; have GW204 := n3_; have GE204 := n4_; clear n0_ n1_ n2_ n3_ n4_; clear hb hbox hg; have hcz7_0 : w6.cell? ⟨gb204, 0, none⟩ = some (.string (⟨#[]⟩ : ByteArray)) := (bc_ BK204.out 0).trans rfl; have hcz7_1 : w6.cell? ⟨gb204, 1, none⟩ = some (.string (⟨#[]⟩ : ByteArray)) := (bc_ BK204.out 1).trans rfl; have hcz7_2 : w6.cell? ⟨gb204, 2, none⟩ = some (.int .u8 0) := (bc_ BK204.out 2).trans rfl; have hcz7_3 : w6.cell? ⟨gb204, 3, none⟩ = some (.int .i64 0) := (bc_ BK204.out 3).trans rfl; have hcz7_4 : w6.cell? ⟨gb204, 4, none⟩ = some (.int .i64 0) := (bc_ BK204.out 4).trans rfl; have hcz7_5 : w6.cell? ⟨gb204, 5, none⟩ = some (.int .i64 0) := (bc_ BK204.out 5).trans rfl; have hcz7_6 : w6.cell? ⟨gb204, 6, none⟩ = some (.int .i64 0) := (bc_ BK204.out 6).trans rfl; have hcz7_7 : w6.cell? ⟨gb204, 7, none⟩ = some (.slice none 0 0) := (bc_ BK204.out 7).trans rfl; have hfz7_0 := bf_ BK204.out 0; have hfz7_1 := bf_ BK204.out 1; have hfz7_2 := bf_ BK204.out 2; have hfz7_3 := bf_ BK204.out 3; have hfz7_4 := bf_ BK204.out 4; have hfz7_5 := bf_ BK204.out 5; have hfz7_6 := bf_ BK204.out 6; have hfz7_7 := bf_ BK204.out 7) | ((with_reducible refine gate_dst (N := 16) rfl ?_); refine Kd.R_lit (Kd.int .u8) _ 5 ?hg (N := 16) ?hd (xs := ([] : List Int)) (inner := []) (ok := fun _ => True) (okp := fun _ => True) ?hr ?hp (fun _ hk => hk) trivial (Below.refl _ _) (Nat.le_refl _) (by simp) ?_; (case hd => rfl); (case hg => rfl); (case hr => first | (go_simp; done) | (go_simp; rfl)); (case hp => exact (Reps.none _ _)); intro v206 w8 ho9 hb hg_ hnew_; clear hg_ hnew_; (first | rw [← Ny205.out] at ho9 | (simp only [Int.reduceToNat] at ho9; rw [← Ny205.out] at ho9)); have n0_ := A0_ (Kd.S_elder' (by (with_reducible repeat (first | apply Sa_ | apply SN_ | apply S1_)); exact (Kd.S_mono (Kd.S_far (p := ⟨gb204, 7, none⟩) (Kd.S_far (p := ⟨gb204, 6, none⟩) (Kd.S_far (p := ⟨gb204, 5, none⟩) (Kd.S_far (p := ⟨gb204, 4, none⟩) (Kd.S_far (p := ⟨gb204, 3, none⟩) (Kd.S_far (p := ⟨gb204, 2, none⟩) (Kd.S_far (p := ⟨gb204, 1, none⟩) (Kd.S_far (p := ⟨gb204, 0, none⟩) (Kd.S_mono HO_3.out (fun k_ hk => (⟨hk, hk.2⟩ : _ ∧ k_ ≠ gb204))) (fun _ hk => hk.2) (.string ((rd_T43 l0 x4_1).f0))) (fun _ hk => hk.2) (.string ((rd_T43 l0 x4_1).f1))) (fun _ hk => hk.2) (.int .u8 ((rd_T43 l0 x4_1).f2))) (fun _ hk => hk.2) (.int .i64 ((rd_T43 l0 x4_1).f3.f0))) (fun _ hk => hk.2) (.int .i64 ((rd_T43 l0 x4_1).f3.f1))) (fun _ hk => hk.2) (.int .i64 ((rd_T43 l0 x4_1).f3.f2))) (fun _ hk => hk.2) (.int .i64 ((rd_T43 l0 x4_1).f3.f3))) (fun _ hk => hk.2) (.slice A203_7 ((rd_T43 l0 x4_1).f4).length c203_7)) (fun _ h_ => h_.1))) (Kd.R_base ho9) hb); have n1_ := A0_ (Kd.R_lower ho9 (below_size (wb1_ HB.out GE204.out))); have n2_ := A0_ (blk_below (g := gb204) (o := .cells #[.string ((rd_T43 l0 x4_1).f0), .string ((rd_T43 l0 x4_1).f1), .int .u8 ((rd_T43 l0 x4_1).f2), .int .i64 ((rd_T43 l0 x4_1).f3.f0), .int .i64 ((rd_T43 l0 x4_1).f3.f1), .int .i64 ((rd_T43 l0 x4_1).f3.f2), .int .i64 ((rd_T43 l0 x4_1).f3.f3), .slice A203_7 ((rd_T43 l0 x4_1).f4).length c203_7] 43 (0, 0)) (by (with_reducible repeat (first | refine blk_drewN ?_ _ | refine blk_drew ?_ | refine blk_alloc ?_ _)); refine blk_put (cs := #[.string ((rd_T43 l0 x4_1).f0), .string ((rd_T43 l0 x4_1).f1), .int .u8 ((rd_T43 l0 x4_1).f2), .int .i64 ((rd_T43 l0 x4_1).f3.f0), .int .i64 ((rd_T43 l0 x4_1).f3.f1), .int .i64 ((rd_T43 l0 x4_1).f3.f2), .int .i64 ((rd_T43 l0 x4_1).f3.f3), .slice none 0 0]) ?_ 7 _ rfl; (with_reducible repeat (first | refine blk_drewN ?_ _ | refine blk_drew ?_ | refine blk_alloc ?_ _)); refine blk_put (cs := #[.string ((rd_T43 l0 x4_1).f0), .string ((rd_T43 l0 x4_1).f1), .int .u8 ((rd_T43 l0 x4_1).f2), .int .i64 ((rd_T43 l0 x4_1).f3.f0), .int .i64 ((rd_T43 l0 x4_1).f3.f1), .int .i64 ((rd_T43 l0 x4_1).f3.f2), .int .i64 0, .slice none 0 0]) ?_ 6 _ rfl; (with_reducible repeat (first | refine blk_drewN ?_ _ | refine blk_drew ?_ | refine blk_alloc ?_ _)); refine blk_put (cs := #[.string ((rd_T43 l0 x4_1).f0), .string ((rd_T43 l0 x4_1).f1), .int .u8 ((rd_T43 l0 x4_1).f2), .int .i64 ((rd_T43 l0 x4_1).f3.f0), .int .i64 ((rd_T43 l0 x4_1).f3.f1), .int .i64 0, .int .i64 0, .slice none 0 0]) ?_ 5 _ rfl; (with_reducible repeat (first | refine blk_drewN ?_ _ | refine blk_drew ?_ | refine blk_alloc ?_ _)); refine blk_put (cs := #[.string ((rd_T43 l0 x4_1).f0), .string ((rd_T43 l0 x4_1).f1), .int .u8 ((rd_T43 l0 x4_1).f2), .int .i64 ((rd_T43 l0 x4_1).f3.f0), .int .i64 0, .int .i64 0, .int .i64 0, .slice none 0 0]) ?_ 4 _ rfl; (with_reducible repeat (first | refine blk_drewN ?_ _ | refine blk_drew ?_ | refine blk_alloc ?_ _)); refine blk_put (cs := #[.string ((rd_T43 l0 x4_1).f0), .string ((rd_T43 l0 x4_1).f1), .int .u8 ((rd_T43 l0 x4_1).f2), .int .i64 0, .int .i64 0, .int .i64 0, .int .i64 0, .slice none 0 0]) ?_ 3 _ rfl; (with_reducible repeat (first | refine blk_drewN ?_ _ | refine blk_drew ?_ | refine blk_alloc ?_ _)); refine blk_put (cs := #[.string ((rd_T43 l0 x4_1).f0), .string ((rd_T43 l0 x4_1).f1), .int .u8 0, .int .i64 0, .int .i64 0, .int .i64 0, .int .i64 0, .slice none 0 0]) ?_ 2 _ rfl; (with_reducible repeat (first | refine blk_drewN ?_ _ | refine blk_drew ?_ | refine blk_alloc ?_ _)); refine blk_put (cs := #[.string ((rd_T43 l0 x4_1).f0), .string (⟨#[]⟩ : ByteArray), .int .u8 0, .int .i64 0, .int .i64 0, .int .i64 0, .int .i64 0, .slice none 0 0]) ?_ 1 _ rfl; (with_reducible repeat (first | refine blk_drewN ?_ _ | refine blk_drew ?_ | refine blk_alloc ?_ _)); refine blk_put (cs := #[.string (⟨#[]⟩ : ByteArray), .string (⟨#[]⟩ : ByteArray), .int .u8 0, .int .i64 0, .int .i64 0, .int .i64 0, .int .i64 0, .slice none 0 0]) ?_ 0 _ rfl; (with_reducible repeat (first | refine blk_drewN ?_ _ | refine blk_drew ?_ | refine blk_alloc ?_ _)); exact BK204.out) hb); have n3_ := A0_ (below_step (wb1_ HB.out GE204.out) hb); clear HO_3; clear BK204; clear HB; have HO_3 := n0_; have HO207 := n1_; have BK204 := n2_; have HB := n3_; clear n0_ n1_ n2_ n3_; clear hb ho9; have hcz10_0 : w8.cell? ⟨gb204, 0, none⟩ = some (.string ((rd_T43 l0 x4_1).f0)) := (bc_ BK204.out 0).trans rfl; have hcz10_1 : w8.cell? ⟨gb204, 1, none⟩ = some (.string ((rd_T43 l0 x4_1).f1)) := (bc_ BK204.out 1).trans rfl; have hcz10_2 : w8.cell? ⟨gb204, 2, none⟩ = some (.int .u8 ((rd_T43 l0 x4_1).f2)) := (bc_ BK204.out 2).trans rfl; have hcz10_3 : w8.cell? ⟨gb204, 3, none⟩ = some (.int .i64 ((rd_T43 l0 x4_1).f3.f0)) := (bc_ BK204.out 3).trans rfl; have hcz10_4 : w8.cell? ⟨gb204, 4, none⟩ = some (.int .i64 ((rd_T43 l0 x4_1).f3.f1)) := (bc_ BK204.out 4).trans rfl; have hcz10_5 : w8.cell? ⟨gb204, 5, none⟩ = some (.int .i64 ((rd_T43 l0 x4_1).f3.f2)) := (bc_ BK204.out 5).trans rfl; have hcz10_6 : w8.cell? ⟨gb204, 6, none⟩ = some (.int .i64 ((rd_T43 l0 x4_1).f3.f3)) := (bc_ BK204.out 6).trans rfl; have hcz10_7 : w8.cell? ⟨gb204, 7, none⟩ = some (.slice A203_7 ((rd_T43 l0 x4_1).f4).length c203_7) := (bc_ BK204.out 7).trans rfl; have hfz10_0 := bf_ BK204.out 0; have hfz10_1 := bf_ BK204.out 1; have hfz10_2 := bf_ BK204.out 2; have hfz10_3 := bf_ BK204.out 3; have hfz10_4 := bf_ BK204.out 4; have hfz10_5 := bf_ BK204.out 5; have hfz10_6 := bf_ BK204.out 6; have hfz10_7 := bf_ BK204.out 7) | ((with_reducible refine gate_builtin (b := .append) (xs := #[.tmp 16, .tmp 18]) rfl ?_); at_builtin; refine Kd.R_append_rows (Kd.int .u8) (w0 := w) w.heap.size rfl (.tmp 16) (.tmp 18) 41 5 (.int .u8 0) 1 rfl Tryz.underlying41 info5 rfl (by decide) (by omega) v206 y205 ((rd_T43 l0 x4_1).f4) _ _ _ (fun _ => True) (fun _ => False) rfl rfl ?aO ?aR (fun _ _ h => h) (fun _ h => h.elim) ?aF ?aB ?aS ?aL ?_; (case aR => exact wc_ (Kd.C_below HR203_7.out HB.out)); (case aB => exact (wb1_ HB.out GE204.out)); (case aF => exact (fun _ _ => trivial)); (case aO => exact (wR_ HO207.out)); (case aS => exact (below_size (wb1_ HB.out GE204.out))); (case aL => have := LMc4.out; omega); intro v209 w11 ho hb hg hat; rw [← Ny208.out] at ho; have n0_ := A0_ (Kd.S_after (ok := (fun k_ => k_ ≠ gb204)) (by (with_reducible repeat (first | apply Sa_ | apply SN_ | apply S1_)); exact Kd.S_mono HO_3.out (fun _ hk => ⟨hk.1.2, hk.2⟩)) hg hat); have n1_ := A0_ (blk_grown (g := gb204) (o := .cells #[.string ((rd_T43 l0 x4_1).f0), .string ((rd_T43 l0 x4_1).f1), .int .u8 ((rd_T43 l0 x4_1).f2), .int .i64 ((rd_T43 l0 x4_1).f3.f0), .int .i64 ((rd_T43 l0 x4_1).f3.f1), .int .i64 ((rd_T43 l0 x4_1).f3.f2), .int .i64 ((rd_T43 l0 x4_1).f3.f3), .slice A203_7 ((rd_T43 l0 x4_1).f4).length c203_7] 43 (0, 0)) (wB_ BK204.out) hg (Kd.R_ne HO207.out BK204.out (by decide))); have n2_ := A0_ (hb); have n3_ := A0_ (ho); clear HO_3; clear BK204; clear HB; clear HO207; have HO_3 := n0_; have BK204 := n1_; have HB := n2_; have HO210 := n3_; clear n0_ n1_ n2_ n3_; clear ho hb hg hat; obtain ⟨Ao12, co12, eo12⟩ := Kd.R_slice HO210.out; subst eo12; have hcz13_0 : w11.cell? ⟨gb204, 0, none⟩ = some (.string ((rd_T43 l0 x4_1).f0)) := (bc_ BK204.out 0).trans rfl; have hcz13_1 : w11.cell? ⟨gb204, 1, none⟩ = some (.string ((rd_T43 l0 x4_1).f1)) := (bc_ BK204.out 1).trans rfl; have hcz13_2 : w11.cell? ⟨gb204, 2, none⟩ = some (.int .u8 ((rd_T43 l0 x4_1).f2)) := (bc_ BK204.out 2).trans rfl; have hcz13_3 : w11.cell? ⟨gb204, 3, none⟩ = some (.int .i64 ((rd_T43 l0 x4_1).f3.f0)) := (bc_ BK204.out 3).trans rfl; have hcz13_4 : w11.cell? ⟨gb204, 4, none⟩ = some (.int .i64 ((rd_T43 l0 x4_1).f3.f1)) := (bc_ BK204.out 4).trans rfl; have hcz13_5 : w11.cell? ⟨gb204, 5, none⟩ = some (.int .i64 ((rd_T43 l0 x4_1).f3.f2)) := (bc_ BK204.out 5).trans rfl; have hcz13_6 : w11.cell? ⟨gb204, 6, none⟩ = some (.int .i64 ((rd_T43 l0 x4_1).f3.f3)) := (bc_ BK204.out 6).trans rfl; have hcz13_7 : w11.cell? ⟨gb204, 7, none⟩ = some (.slice A203_7 ((rd_T43 l0 x4_1).f4).length c203_7) := (bc_ BK204.out 7).trans rfl; have hfz13_0 := bf_ BK204.out 0; have hfz13_1 := bf_ BK204.out 1; have hfz13_2 := bf_ BK204.out 2; have hfz13_3 := bf_ BK204.out 3; have hfz13_4 := bf_ BK204.out 4; have hfz13_5 := bf_ BK204.out 5; have hfz13_6 := bf_ BK204.out 6; have hfz13_7 := bf_ BK204.out 7) | ((with_reducible refine gate_store (t := 41) (p := 20) rfl ?_); refine store_event (t := 41) (p := 20) (v := ?vo_w14) (w1 := (w11.setCell ⟨gb204, 7, none⟩ (.slice Ao12 y208.length co12))) ?hg ?ho ?hn ?hr ?_; (case ho => rfl); (case hg => rfl); (case hn => rfl); (case hr => first | (go_simp; done) | (go_simp; rfl)); intro w14 hw; have n0_ : Aside0 (Kd.S k43 43 w14 w.heap.size (fun k_ => some k_ ≠ (.slice Ao12 y208.length co12 : Value).ownBlock ∧ k_ ≠ gb204) u3 x3_1) := ⟨(by rw [hw]; exact (by (with_reducible repeat (first | apply Sa_ | apply SN_ | apply S1_)); exact Kd.S_mono (Kd.S_far (p := ⟨gb204, 7, none⟩) (Kd.S_mono HO_3.out (fun k_ hk => (⟨hk, hk.1⟩ : _ ∧ k_ ≠ gb204))) (fun _ hk => hk.2) (.slice Ao12 y208.length co12)) (fun _ hk => ⟨hk.1.2, hk.1.1⟩)))⟩; have n1_ : Aside0 (Kd.R (Kd.int .u8) 5 w14 w.heap.size (fun _ => True) (.slice Ao12 y208.length co12) y208) := ⟨(by rw [hw]; exact (by (with_reducible repeat (first | apply Ra_ | apply RN_ | apply R1_)); exact Kd.R_mono (Kd.R_far (p := ⟨gb204, 7, none⟩) (Kd.R_types HO210.out BK204.out (by decide)) (fun _ hk => hk.2) (.slice Ao12 y208.length co12)) (fun _ hk => trivial)))⟩; have n2_ : Aside0 (w14.heap[gb204]? = some (.cells #[.string ((rd_T43 l0 x4_1).f0), .string ((rd_T43 l0 x4_1).f1), .int .u8 ((rd_T43 l0 x4_1).f2), .int .i64 ((rd_T43 l0 x4_1).f3.f0), .int .i64 ((rd_T43 l0 x4_1).f3.f1), .int .i64 ((rd_T43 l0 x4_1).f3.f2), .int .i64 ((rd_T43 l0 x4_1).f3.f3), .slice Ao12 y208.length co12] 43 (0, 0))) := ⟨(by rw [hw]; exact (by (with_reducible repeat (first | refine blk_drewN ?_ _ | refine blk_drew ?_ | refine blk_alloc ?_ _)); refine blk_put (cs := #[.string ((rd_T43 l0 x4_1).f0), .string ((rd_T43 l0 x4_1).f1), .int .u8 ((rd_T43 l0 x4_1).f2), .int .i64 ((rd_T43 l0 x4_1).f3.f0), .int .i64 ((rd_T43 l0 x4_1).f3.f1), .int .i64 ((rd_T43 l0 x4_1).f3.f2), .int .i64 ((rd_T43 l0 x4_1).f3.f3), .slice A203_7 ((rd_T43 l0 x4_1).f4).length c203_7]) ?_ 7 _ rfl; (with_reducible repeat (first | refine blk_drewN ?_ _ | refine blk_drew ?_ | refine blk_alloc ?_ _)); exact BK204.out))⟩; have n3_ : Aside0 (Below w.heap.size w w14) := ⟨(by rw [hw]; exact (wb1_ HB.out GE204.out))⟩; clear hw; clear HO_3; clear HO210; clear BK204; clear HB; have HO_3 := n0_; have HO210 := n1_; have BK204 := n2_; have HB := n3_; clear n0_ n1_ n2_ n3_; have hcz15_0 : w14.cell? ⟨gb204, 0, none⟩ = some (.string ((rd_T43 l0 x4_1).f0)) := (bc_ BK204.out 0).trans rfl; have hcz15_1 : w14.cell? ⟨gb204, 1, none⟩ = some (.string ((rd_T43 l0 x4_1).f1)) := (bc_ BK204.out 1).trans rfl; have hcz15_2 : w14.cell? ⟨gb204, 2, none⟩ = some (.int .u8 ((rd_T43 l0 x4_1).f2)) := (bc_ BK204.out 2).trans rfl; have hcz15_3 : w14.cell? ⟨gb204, 3, none⟩ = some (.int .i64 ((rd_T43 l0 x4_1).f3.f0)) := (bc_ BK204.out 3).trans rfl; have hcz15_4 : w14.cell? ⟨gb204, 4, none⟩ = some (.int .i64 ((rd_T43 l0 x4_1).f3.f1)) := (bc_ BK204.out 4).trans rfl; have hcz15_5 : w14.cell? ⟨gb204, 5, none⟩ = some (.int .i64 ((rd_T43 l0 x4_1).f3.f2)) := (bc_ BK204.out 5).trans rfl; have hcz15_6 : w14.cell? ⟨gb204, 6, none⟩ = some (.int .i64 ((rd_T43 l0 x4_1).f3.f3)) := (bc_ BK204.out 6).trans rfl; have hcz15_7 : w14.cell? ⟨gb204, 7, none⟩ = some (.slice Ao12 y208.length co12) := (bc_ BK204.out 7).trans rfl; have hfz15_0 := bf_ BK204.out 0; have hfz15_1 := bf_ BK204.out 1; have hfz15_2 := bf_ BK204.out 2; have hfz15_3 := bf_ BK204.out 3; have hfz15_4 := bf_ BK204.out 4; have hfz15_5 := bf_ BK204.out 5; have hfz15_6 := bf_ BK204.out 6; have hfz15_7 := bf_ BK204.out 7) | ((with_reducible refine gate_builtin (b := .append) (xs := #[.tmp 21, .tmp 23]) rfl ?_); at_builtin; refine Kd.S_append k43 (w0 := w) w.heap.size rfl (.tmp 21) (.tmp 23) 22 43 (.agg #[(.string ⟨#[]⟩), (.string ⟨#[]⟩), (.int .u8 0), (.int .i64 0), (.int .i64 0), (.int .i64 0), (.int .i64 0), (.slice none 0 0)]) 96 rfl Tryz.underlying22 info43 rfl (by decide) (by omega) u3 x3_1 (⟨(rd_T43 l0 x4_1).f0, (rd_T43 l0 x4_1).f1, (rd_T43 l0 x4_1).f2, (⟨(rd_T43 l0 x4_1).f3.f0, (rd_T43 l0 x4_1).f3.f1, (rd_T43 l0 x4_1).f3.f2, (rd_T43 l0 x4_1).f3.f3⟩ : S40), y208⟩ : S43) [.string ((rd_T43 l0 x4_1).f0), .string ((rd_T43 l0 x4_1).f1), .int .u8 ((rd_T43 l0 x4_1).f2), .int .i64 ((rd_T43 l0 x4_1).f3.f0), .int .i64 ((rd_T43 l0 x4_1).f3.f1), .int .i64 ((rd_T43 l0 x4_1).f3.f2), .int .i64 ((rd_T43 l0 x4_1).f3.f3), .slice Ao12 y208.length co12] (fun k_ => k_ ≠ gb204) (fun k_ => some k_ = (.slice Ao12 y208.length co12 : Value).ownBlock) rfl rfl ?aP (fun k_ hk_ => ((Kd.R_mono (ok' := fun k_ => ((fun k_ => k_ ≠ gb204)) k_ ∧ some k_ ≠ (u3 : Value).ownBlock) (Kd.R_types (Kd.R_apart' (HO210.out) (Kd.S_typed HO_3.out) (by decide)) BK204.out (by decide)) (fun k_ hk => ⟨hk.2, hk.1.2⟩))).1 k_ hk_.symm) ?aF ?aO ?aB ?aS ?aL ?_; (case aP => exact k43_mkM _ _ _ (⟨(rd_T43 l0 x4_1).f0, (rd_T43 l0 x4_1).f1, (rd_T43 l0 x4_1).f2, (⟨(rd_T43 l0 x4_1).f3.f0, (rd_T43 l0 x4_1).f3.f1, (rd_T43 l0 x4_1).f3.f2, (rd_T43 l0 x4_1).f3.f3⟩ : S40), y208⟩ : S43) (Kd.R_mono (Kd.R_tight rfl (Kd.R_mono (ok' := fun k_ => ((fun k_ => k_ ≠ gb204)) k_ ∧ some k_ ≠ (u3 : Value).ownBlock) (Kd.R_types (Kd.R_apart' (HO210.out) (Kd.S_typed HO_3.out) (by decide)) BK204.out (by decide)) (fun k_ hk => ⟨hk.2, hk.1.2⟩))) (fun _ h_ => h_))); (case aB => exact (wb1_ HB.out GE204.out)); (case aF => exact (fun k_ hk => Kd.freshB (g := gb204) (o := .cells #[.string ((rd_T43 l0 x4_1).f0), .string ((rd_T43 l0 x4_1).f1), .int .u8 ((rd_T43 l0 x4_1).f2), .int .i64 ((rd_T43 l0 x4_1).f3.f0), .int .i64 ((rd_T43 l0 x4_1).f3.f1), .int .i64 ((rd_T43 l0 x4_1).f3.f2), .int .i64 ((rd_T43 l0 x4_1).f3.f3), .slice Ao12 y208.length co12] 43 (0, 0)) (wB_ BK204.out) k_ hk)); (case aO => exact (by (with_reducible repeat (first | apply Sa_ | apply SN_ | apply S1_)); exact Kd.S_mono HO_3.out (fun k_ hk => ⟨hk.2, fun e_ => hk.1 e_⟩))); (case aS => exact (below_size (wb1_ HB.out GE204.out))); (case aL => have := LMc5.out; omega); intro v212 w16 ho hb hg hat; rw [← Ny211.out] at ho; have n0_ := A0_ (blk_grown (g := gb204) (o := .cells #[.string ((rd_T43 l0 x4_1).f0), .string ((rd_T43 l0 x4_1).f1), .int .u8 ((rd_T43 l0 x4_1).f2), .int .i64 ((rd_T43 l0 x4_1).f3.f0), .int .i64 ((rd_T43 l0 x4_1).f3.f1), .int .i64 ((rd_T43 l0 x4_1).f3.f2), .int .i64 ((rd_T43 l0 x4_1).f3.f3), .slice Ao12 y208.length co12] 43 (0, 0)) (wB_ BK204.out) hg (Kd.S_away HO_3.out (fun _ hk => hk.2))); have n1_ := A0_ (hb); have n2_ := A0_ (ho); clear BK204; clear HB; clear HO_3; clear HO210; have BK204 := n0_; have HB := n1_; have HO213 := n2_; clear n0_ n1_ n2_; clear ho hb hg hat))
   go_roundg k1
   case measure => have := HK1.out; omega
   case rel => exact ⟨(y211), (wrap64 (x4_1 + 1)), wr_, H', ⟨by have := HK1.out; omega⟩, ⟨by (with_reducible repeat (first | apply Sa_ | apply SN_ | apply S1_)); exact Kd.S_mono HO213.out (fun _ hk => trivial)⟩, ⟨wb1_ HB.out GE204.out⟩⟩
end Go.Proofs.YtiijbmaamblidaaGreatDoor.Print

namespace Go.Proofs.YtiijbmaamblidaaGreatDoor
open Go.RowKit Go.Proofs.YtiijbmaamblidaaGreatDoor.Print Go.Proofs.YtiijbmaamblidaaGreatDoorW.PrintWords
set_option linter.unusedVariables false
theorem rdM_p (l : List Mem) (j : Nat) (h : j < l.length) : rd_T43 l (j : Int) = l[j] := by rw [rdM_at l j (by omega) (by omega)]; simp
theorem own_l (l : List Mem) (h60 : l.length ≤ 60) (hb : ∀ x ∈ l, x.f4.length ≤ 1000000000) : ∀ (d i : Nat), i + d = l.length → Ev (fun k => bindleref08_Own.l0 k l (l.take i) (i : Int)) l := by
 intro d
 induction d with
 | zero =>
  intro i hi
  have e : l.take i = l := List.take_of_length_le (by omega)
  exact Ev.step (f := fun _ => some l) (fun k => by rw [bindleref08_Own.l0, if_neg (by omega), e]) (Ev.now _)
 | succ d ih =>
  intro i hi
  have hil : i < l.length := by omega
  have hr := rdM_p l i hil
  have hx := hb _ (List.getElem_mem hil)
  refine Ev.step (fun k => ?_) (ih (i + 1) (by omega))
  rw [bindleref08_Own.l0, if_pos (by omega), if_pos (by omega), hr]
  simp only [Option.bind_some, List.length_nil, Nat.zero_add, List.nil_append]
  rw [if_pos (by omega), if_pos (by rw [List.length_take]; omega)]
  rw [show wrap64 ((i : Int) + 1) = ((i + 1 : Nat) : Int) by unfold wrap64; omega, List.take_succ_eq_append_getElem hil]
theorem own_is (l : List Mem) (h60 : l.length ≤ 60) (hb : ∀ x ∈ l, x.f4.length ≤ 1000000000) : Ev (fun k => bindleref08_Own.f k l) l := own_l l h60 hb l.length 0 (by omega)
end Go.Proofs.YtiijbmaamblidaaGreatDoor

namespace Go.Proofs.YtiijbmaamblidaaGreatDoor.Print
open Go.RowKit Go.Proofs.YtiijbmaamblidaaGreatDoorW.PrintWords Go.Proofs.YtiijbmaamblidaaGreatDoorW.PrintLast Go.Proofs.YtiijbmaamblidaaGreatDoorW.PrintMore
attribute [local go_sem] max2_int min2_int max_two min_two max_three min_three max_four min_four   -- for this text's walks alone
set_option linter.unusedVariables false
set_option linter.unusedSimpArgs false
def bindleref08_Find.l0 : Nat → List (S49) → ByteArray → Int → Option (ByteArray × ByteArray × ByteArray × Int × Int × Int × Int × Int × List Int × Bool)
 | 0, _, _, _ => none
 | k + 1, x0, x1, x6 => if x6 < (x0.length : Int) then (if 0 ≤ x6 then (if ((rd_T49 x0 x6).f0).toList = x1.toList then (some ((rd_T49 x0 x6).f0, (rd_T49 x0 x6).f1, (rd_T49 x0 x6).f2, (rd_T49 x0 x6).f3, (rd_T49 x0 x6).f4.f0, (rd_T49 x0 x6).f4.f1, (rd_T49 x0 x6).f4.f2, (rd_T49 x0 x6).f4.f3, (rd_T49 x0 x6).f5, true)) else (bindleref08_Find.l0 k x0 x1 (wrap64 (x6 + 1)))) else (none)) else (some ((⟨#[]⟩ : ByteArray), (⟨#[]⟩ : ByteArray), (⟨#[]⟩ : ByteArray), 0, 0, 0, 0, 0, ([] : List Int), false))
def bindleref08_Find.f (k : Nat) (l0 : List (S49)) (a1 : ByteArray) : Option (ByteArray × ByteArray × ByteArray × Int × Int × Int × Int × Int × List Int × Bool) := bindleref08_Find.l0 k l0 a1 0
set_option maxHeartbeats 8000000 in
set_option maxRecDepth 100000 in
theorem bindleref08_Find.calls (k : Nat) (P0_ : Nat → Prop) (A0 : Option Addr) (c0 : Nat) (l0 : List (S49)) (a1 : ByteArray) (r1 : ByteArray) (r2 : ByteArray) (r3 : ByteArray) (r4 : Int) (r5 : Int) (r6 : Int) (r7 : Int) (r8 : Int) (r9 : List Int) (r10 : Bool) (w : World) (hs0 : Kd.V k49 49 w w.heap.size (fun k_ => P0_ k_) (.slice A0 l0.length c0) l0) (h : bindleref08_Find.f k l0 a1 = some (r1, r2, r3, r4, r5, r6, r7, r8, r9, r10)) :
  Calls Tryz.prog 23 #[.slice A0 l0.length c0, .string a1] w fun e w' => ∃ v8_ : Value, e = .returned (.tuple #[.agg #[.string r1, .string r2, .string r3, .int .u8 r4, .int .i64 r5, .int .i64 r6, .int .i64 r7, .int .i64 r8, v8_], .bool r10]) ∧ Kd.V (Kd.int .u8) 5 w' w.heap.size (fun k_ => (P0_ k_ ∨ w.heap.size ≤ k_)) v8_ r9 ∧ Below w.heap.size w w' := by
 have hu49 := Tryz.underlying49
 have HO0 := A0_ (show Kd.V k49 49 w w.heap.size (fun k_ => (P0_ k_ ∨ w.heap.size ≤ k_)) (.slice A0 l0.length c0) l0 from Kd.V_mono hs0 (fun k_ hk => .inl hk))
 have HB := A0_ (Below.refl w.heap.size w)
 have H : (bindleref08_Find.l0 k l0 a1 0) = some (r1, r2, r3, r4, r5, r6, r7, r8, r9, r10) := h
 clear h
 have H' := A0_ H
 clear H
 go_enter Tryz.func23, Tryz.ntmps23
 go_wp2_with (first | ((with_reducible refine gate_dst (N := 4) rfl ?_); refine box_event ?hg (N := 4) ?hd (cs := #[.string (⟨#[]⟩ : ByteArray), .string (⟨#[]⟩ : ByteArray), .string (⟨#[]⟩ : ByteArray), .int .u8 0, .int .i64 0, .int .i64 0, .int .i64 0, .int .i64 0, .slice none 0 0]) (t := 49) ?hr ?_; (case hd => rfl); (case hg => rfl); (case hr => first | (go_simp; done) | (go_simp; rfl)); intro gb219 hg w3 hbox hb; have n0_ := A0_ (Vb_ (Kd.V_elderB (wV_ HO0.out) gb219 (Nat.le_of_eq hg.symm)) hb); have n1_ := A0_ (below_step (wb_ HB.out) hb); have n2_ := A0_ (hbox); have n3_ := A0_ ((by rw [hg]; exact (below_size (wb_ HB.out)) : w.heap.size ≤ gb219)); have n4_ := A0_ ((by rw [hg]; exact (below_size (wb_ HB.out)) : w.heap.size ≤ gb219)); clear HO0; clear HB; have HO0 := n0_; have HB := n1_; have BK219 := n2_; have GW219 := n3_; have GE219 := n4_; clear n0_ n1_ n2_ n3_ n4_; clear hb hbox hg))
 go_loopg [6] k (fun kq v6 w' => ∃ (x6_1 : Int) (x220000_1 : ByteArray) (x220001_1 : ByteArray) (x220002_1 : ByteArray) (x220003_1 : Int) (x220004_1 : Int) (x220005_1 : Int) (x220006_1 : Int) (x220007_1 : Int), v6 = .int .i64 x6_1 ∧ Aside0 (bindleref08_Find.l0 kq l0 a1 x6_1 = some (r1, r2, r3, r4, r5, r6, r7, r8, r9, r10)) ∧ Aside0 (kq ≤ k) ∧ Aside0 (Kd.V k49 49 w' w.heap.size (fun k_ => (P0_ k_ ∨ w.heap.size ≤ k_) ∧ k_ ≠ gb219) (.slice A0 l0.length c0) l0) ∧ Aside0 (w'.heap[gb219]? = some (.cells #[.string x220000_1, .string x220001_1, .string x220002_1, .int .u8 x220003_1, .int .i64 x220004_1, .int .i64 x220005_1, .int .i64 x220006_1, .int .i64 x220007_1, (.slice none 0 0)] 49 (0, 0))) ∧ Aside0 (Below w.heap.size w w'))
 case atStart => exact ⟨(0), ((⟨#[]⟩ : ByteArray)), ((⟨#[]⟩ : ByteArray)), ((⟨#[]⟩ : ByteArray)), (0), (0), (0), (0), (0), wr_, H', ⟨Nat.le_refl _⟩, ⟨wV_ HO0.out⟩, ⟨wB_ BK219.out⟩, ⟨wb1_ HB.out GE219.out⟩⟩
 case round =>
  clear H'
  try clear c2
  try clear p2
  obtain ⟨x6_1, x220000_1, x220001_1, x220002_1, x220003_1, x220004_1, x220005_1, x220006_1, x220007_1, rfl, HA, HK1, HO_0, BK219, HB⟩ := hrel
  cases gk with
  | zero => exact absurd HA.out (by simp [bindleref08_Find.l0])
  | succ k1 =>
   have H := HA.out
   clear HA
   simp only [bindleref08_Find.l0] at H
   by_cases c4 : x6_1 < (l0.length : Int)
   rotate_left
   ·rw [if_neg c4] at H
    have c4b0 : decide (x6_1 < (l0.length : Int)) = false := decide_eq_false c4
    clear c4
    simp only [Option.some.injEq, Prod.mk.injEq] at H
    obtain ⟨rfl, rfl, rfl, rfl, rfl, rfl, rfl, rfl, rfl, rfl⟩ := H
    have hcz8_0 : wr.cell? ⟨gb219, 0, none⟩ = some (.string x220000_1) := (bc_ BK219.out 0).trans rfl
    have hcz8_1 : wr.cell? ⟨gb219, 1, none⟩ = some (.string x220001_1) := (bc_ BK219.out 1).trans rfl
    have hcz8_2 : wr.cell? ⟨gb219, 2, none⟩ = some (.string x220002_1) := (bc_ BK219.out 2).trans rfl
    have hcz8_3 : wr.cell? ⟨gb219, 3, none⟩ = some (.int .u8 x220003_1) := (bc_ BK219.out 3).trans rfl
    have hcz8_4 : wr.cell? ⟨gb219, 4, none⟩ = some (.int .i64 x220004_1) := (bc_ BK219.out 4).trans rfl
    have hcz8_5 : wr.cell? ⟨gb219, 5, none⟩ = some (.int .i64 x220005_1) := (bc_ BK219.out 5).trans rfl
    have hcz8_6 : wr.cell? ⟨gb219, 6, none⟩ = some (.int .i64 x220006_1) := (bc_ BK219.out 6).trans rfl
    have hcz8_7 : wr.cell? ⟨gb219, 7, none⟩ = some (.int .i64 x220007_1) := (bc_ BK219.out 7).trans rfl
    have hcz8_8 : wr.cell? ⟨gb219, 8, none⟩ = some (.slice none 0 0) := (bc_ BK219.out 8).trans rfl
    have hfz8_0 := bf_ BK219.out 0
    have hfz8_1 := bf_ BK219.out 1
    have hfz8_2 := bf_ BK219.out 2
    have hfz8_3 := bf_ BK219.out 3
    have hfz8_4 := bf_ BK219.out 4
    have hfz8_5 := bf_ BK219.out 5
    have hfz8_6 := bf_ BK219.out 6
    have hfz8_7 := bf_ BK219.out 7
    have hfz8_8 := bf_ BK219.out 8
    go_wp2
    refine bodyPost_ret (results_ct rfl _ _ gb219 49 #[.string (⟨#[]⟩ : ByteArray), .string (⟨#[]⟩ : ByteArray), .string (⟨#[]⟩ : ByteArray), .int .u8 0, .int .i64 0, .int .i64 0, .int .i64 0, .int .i64 0, .slice none 0 0] (0, 0) _ rfl (by (with_reducible repeat (first | refine blk_drewN ?_ _ | refine blk_drew ?_ | refine blk_alloc ?_ _)); refine blk_put (cs := #[.string (⟨#[]⟩ : ByteArray), .string (⟨#[]⟩ : ByteArray), .string (⟨#[]⟩ : ByteArray), .int .u8 0, .int .i64 0, .int .i64 0, .int .i64 0, .int .i64 0, .slice none 0 0]) ?_ 8 _ rfl; (with_reducible repeat (first | refine blk_drewN ?_ _ | refine blk_drew ?_ | refine blk_alloc ?_ _)); refine blk_put (cs := #[.string (⟨#[]⟩ : ByteArray), .string (⟨#[]⟩ : ByteArray), .string (⟨#[]⟩ : ByteArray), .int .u8 0, .int .i64 0, .int .i64 0, .int .i64 0, .int .i64 x220007_1, .slice none 0 0]) ?_ 7 _ rfl; (with_reducible repeat (first | refine blk_drewN ?_ _ | refine blk_drew ?_ | refine blk_alloc ?_ _)); refine blk_put (cs := #[.string (⟨#[]⟩ : ByteArray), .string (⟨#[]⟩ : ByteArray), .string (⟨#[]⟩ : ByteArray), .int .u8 0, .int .i64 0, .int .i64 0, .int .i64 x220006_1, .int .i64 x220007_1, .slice none 0 0]) ?_ 6 _ rfl; (with_reducible repeat (first | refine blk_drewN ?_ _ | refine blk_drew ?_ | refine blk_alloc ?_ _)); refine blk_put (cs := #[.string (⟨#[]⟩ : ByteArray), .string (⟨#[]⟩ : ByteArray), .string (⟨#[]⟩ : ByteArray), .int .u8 0, .int .i64 0, .int .i64 x220005_1, .int .i64 x220006_1, .int .i64 x220007_1, .slice none 0 0]) ?_ 5 _ rfl; (with_reducible repeat (first | refine blk_drewN ?_ _ | refine blk_drew ?_ | refine blk_alloc ?_ _)); refine blk_put (cs := #[.string (⟨#[]⟩ : ByteArray), .string (⟨#[]⟩ : ByteArray), .string (⟨#[]⟩ : ByteArray), .int .u8 0, .int .i64 x220004_1, .int .i64 x220005_1, .int .i64 x220006_1, .int .i64 x220007_1, .slice none 0 0]) ?_ 4 _ rfl; (with_reducible repeat (first | refine blk_drewN ?_ _ | refine blk_drew ?_ | refine blk_alloc ?_ _)); refine blk_put (cs := #[.string (⟨#[]⟩ : ByteArray), .string (⟨#[]⟩ : ByteArray), .string (⟨#[]⟩ : ByteArray), .int .u8 x220003_1, .int .i64 x220004_1, .int .i64 x220005_1, .int .i64 x220006_1, .int .i64 x220007_1, .slice none 0 0]) ?_ 3 _ rfl; (with_reducible repeat (first | refine blk_drewN ?_ _ | refine blk_drew ?_ | refine blk_alloc ?_ _)); refine blk_put (cs := #[.string (⟨#[]⟩ : ByteArray), .string (⟨#[]⟩ : ByteArray), .string x220002_1, .int .u8 x220003_1, .int .i64 x220004_1, .int .i64 x220005_1, .int .i64 x220006_1, .int .i64 x220007_1, .slice none 0 0]) ?_ 2 _ rfl; (with_reducible repeat (first | refine blk_drewN ?_ _ | refine blk_drew ?_ | refine blk_alloc ?_ _)); refine blk_put (cs := #[.string (⟨#[]⟩ : ByteArray), .string x220001_1, .string x220002_1, .int .u8 x220003_1, .int .i64 x220004_1, .int .i64 x220005_1, .int .i64 x220006_1, .int .i64 x220007_1, .slice none 0 0]) ?_ 1 _ rfl; (with_reducible repeat (first | refine blk_drewN ?_ _ | refine blk_drew ?_ | refine blk_alloc ?_ _)); refine blk_put (cs := #[.string x220000_1, .string x220001_1, .string x220002_1, .int .u8 x220003_1, .int .i64 x220004_1, .int .i64 x220005_1, .int .i64 x220006_1, .int .i64 x220007_1, .slice none 0 0]) ?_ 0 _ rfl; (with_reducible repeat (first | refine blk_drewN ?_ _ | refine blk_drew ?_ | refine blk_alloc ?_ _)); exact BK219.out) Tryz.underlying49 rfl (by kernel_rfl)) rfl ?_
    exact ⟨_, we_, (Kd.V_nil _ _ _ _ _), wb1_ HB.out GE219.out⟩
   rw [if_pos c4] at H
   have c4b0 : decide (x6_1 < (l0.length : Int)) = true := decide_eq_true c4
   clear c4
   by_cases c5 : 0 ≤ x6_1
   rotate_left
   ·rw [if_neg c5] at H
    exact absurd H (by simp)
   rw [if_pos c5] at H
   have c5b0 : decide (0 ≤ x6_1) = true := decide_eq_true c5
   clear c5
   by_cases c6 : ((rd_T49 l0 x6_1).f0).toList = a1.toList
   rotate_left
   ·rw [if_neg c6] at H
    have c6b0 : (((rd_T49 l0 x6_1).f0).toList == a1.toList) = false := beq_eq_false_iff_ne.mpr c6
    have c6b1 : (((rd_T49 l0 x6_1).f0).toList != a1.toList) = true := bne_iff_ne.mpr c6
    have H' := A0_ H
    clear H
    have p220 : 0 ≤ (x6_1 : Int) := wd_
    have q220 : x6_1 < (l0.length : Int) := wd_
    obtain ⟨ad220, A220_8, c220_8, e220, hx220_0, hx220_1, hx220_2, hx220_3, hx220_4, hx220_5, hx220_6, hx220_7, hx220_8, hl220_8, hi220_8⟩ := at_T49 (Kd.V_reads' HO_0.out).2.2 x6_1 p220 q220
    cases e220
    obtain ⟨ce220, hce220, hMe220, hcc220⟩ := Kd.V_get HO_0.out z49 x6_1 p220 (by first | exact q220 | exact wd_ | (have e_ := (Kd.V_reads' HO_0.out).1; omega))
    obtain ⟨ua220_8, uc220_8, rfl, ul220_8, ge220_8⟩ := k49_openF hMe220
    have hv220_8 := hcc220 8 _ rfl
    rw [add_field _ _ 8 (by omega)] at hv220_8
    replace hv220_8 := Option.some.inj (hv220_8.symm.trans hx220_8)
    injection hv220_8 with hva_ hvn_ hvc_
    rw [hva_] at ge220_8
    rw [hvc_] at ul220_8
    have HL220_8 := A0_ (show Kd.V (Kd.int .u8) 5 _ w.heap.size _ _ ((rd_T49 l0 x6_1).f5) from Kd.V_mk ul220_8 ge220_8)
    clear hva_ hvn_ hvc_ ge220_8 ul220_8
    clear hcc220 hce220
    have HR220_8 := A0_ hi220_8
    have HC220_8 := A0_ hl220_8
    clear hi220_8 hl220_8
    replace p220 := eq_true p220
    replace q220 := eq_true q220
    go_wp2
    go_roundg k1
    case measure => have := HK1.out; omega
    case rel => exact ⟨(wrap64 (x6_1 + 1)), (x220000_1), (x220001_1), (x220002_1), (x220003_1), (x220004_1), (x220005_1), (x220006_1), (x220007_1), wr_, H', ⟨by have := HK1.out; omega⟩, ⟨wV_ HO_0.out⟩, ⟨wB_ BK219.out⟩, ⟨wb1_ HB.out GE219.out⟩⟩
   rw [if_pos c6] at H
   have c6b0 : (((rd_T49 l0 x6_1).f0).toList == a1.toList) = true := beq_iff_eq.mpr c6
   have c6b1 : (((rd_T49 l0 x6_1).f0).toList != a1.toList) = false := bne_eq_false_iff_eq.mpr c6
   clear c6
   simp only [Option.some.injEq, Prod.mk.injEq] at H
   obtain ⟨rfl, rfl, rfl, rfl, rfl, rfl, rfl, rfl, rfl, rfl⟩ := H
   have p220 : 0 ≤ (x6_1 : Int) := wd_
   have q220 : x6_1 < (l0.length : Int) := wd_
   obtain ⟨ad220, A220_8, c220_8, e220, hx220_0, hx220_1, hx220_2, hx220_3, hx220_4, hx220_5, hx220_6, hx220_7, hx220_8, hl220_8, hi220_8⟩ := at_T49 (Kd.V_reads' HO_0.out).2.2 x6_1 p220 q220
   cases e220
   obtain ⟨ce220, hce220, hMe220, hcc220⟩ := Kd.V_get HO_0.out z49 x6_1 p220 (by first | exact q220 | exact wd_ | (have e_ := (Kd.V_reads' HO_0.out).1; omega))
   obtain ⟨ua220_8, uc220_8, rfl, ul220_8, ge220_8⟩ := k49_openF hMe220
   have hv220_8 := hcc220 8 _ rfl
   rw [add_field _ _ 8 (by omega)] at hv220_8
   replace hv220_8 := Option.some.inj (hv220_8.symm.trans hx220_8)
   injection hv220_8 with hva_ hvn_ hvc_
   rw [hva_] at ge220_8
   rw [hvc_] at ul220_8
   have HL220_8 := A0_ (show Kd.V (Kd.int .u8) 5 _ w.heap.size _ _ ((rd_T49 l0 x6_1).f5) from Kd.V_mk ul220_8 ge220_8)
   clear hva_ hvn_ hvc_ ge220_8 ul220_8
   clear hcc220 hce220
   have HR220_8 := A0_ hi220_8
   have HC220_8 := A0_ hl220_8
   clear hi220_8 hl220_8
   replace p220 := eq_true p220
   replace q220 := eq_true q220
   have p221 : 0 ≤ (x6_1 : Int) := wd_
   have q221 : x6_1 < (l0.length : Int) := wd_
   obtain ⟨ad221, A221_8, c221_8, e221, hx221_0, hx221_1, hx221_2, hx221_3, hx221_4, hx221_5, hx221_6, hx221_7, hx221_8, hl221_8, hi221_8⟩ := at_T49 (Kd.V_reads' HO_0.out).2.2 x6_1 p221 q221
   obtain rfl : ad220 = ad221 := (by injection e221)
   obtain ⟨ce221, hce221, hMe221, hcc221⟩ := Kd.V_get HO_0.out z49 x6_1 p221 (by first | exact q221 | exact wd_ | (have e_ := (Kd.V_reads' HO_0.out).1; omega))
   obtain ⟨ua221_8, uc221_8, rfl, ul221_8, ge221_8⟩ := k49_openF hMe221
   have hv221_8 := hcc221 8 _ rfl
   rw [add_field _ _ 8 (by omega)] at hv221_8
   replace hv221_8 := Option.some.inj (hv221_8.symm.trans hx221_8)
   injection hv221_8 with hva_ hvn_ hvc_
   rw [hva_] at ge221_8
   rw [hvc_] at ul221_8
   have HL221_8 := A0_ (show Kd.V (Kd.int .u8) 5 _ w.heap.size _ _ ((rd_T49 l0 x6_1).f5) from Kd.V_mk ul221_8 ge221_8)
   clear hva_ hvn_ hvc_ ge221_8 ul221_8
   clear hcc221 hce221
   have HR221_8 := A0_ hi221_8
   have HC221_8 := A0_ hl221_8
   clear hi221_8 hl221_8
   replace p221 := eq_true p221
   replace q221 := eq_true q221
   have ea_ := Option.some.inj (hx220_8.symm.trans hx221_8)
   injection ea_ with ea_ en_ ec_
   subst ea_
   subst ec_
   clear en_
   have hcz7_0 : wr.cell? ⟨gb219, 0, none⟩ = some (.string x220000_1) := (bc_ BK219.out 0).trans rfl
   have hcz7_1 : wr.cell? ⟨gb219, 1, none⟩ = some (.string x220001_1) := (bc_ BK219.out 1).trans rfl
   have hcz7_2 : wr.cell? ⟨gb219, 2, none⟩ = some (.string x220002_1) := (bc_ BK219.out 2).trans rfl
   have hcz7_3 : wr.cell? ⟨gb219, 3, none⟩ = some (.int .u8 x220003_1) := (bc_ BK219.out 3).trans rfl
   have hcz7_4 : wr.cell? ⟨gb219, 4, none⟩ = some (.int .i64 x220004_1) := (bc_ BK219.out 4).trans rfl
   have hcz7_5 : wr.cell? ⟨gb219, 5, none⟩ = some (.int .i64 x220005_1) := (bc_ BK219.out 5).trans rfl
   have hcz7_6 : wr.cell? ⟨gb219, 6, none⟩ = some (.int .i64 x220006_1) := (bc_ BK219.out 6).trans rfl
   have hcz7_7 : wr.cell? ⟨gb219, 7, none⟩ = some (.int .i64 x220007_1) := (bc_ BK219.out 7).trans rfl
   have hcz7_8 : wr.cell? ⟨gb219, 8, none⟩ = some (.slice none 0 0) := (bc_ BK219.out 8).trans rfl
   have hfz7_0 := bf_ BK219.out 0
   have hfz7_1 := bf_ BK219.out 1
   have hfz7_2 := bf_ BK219.out 2
   have hfz7_3 := bf_ BK219.out 3
   have hfz7_4 := bf_ BK219.out 4
   have hfz7_5 := bf_ BK219.out 5
   have hfz7_6 := bf_ BK219.out 6
   have hfz7_7 := bf_ BK219.out 7
   have hfz7_8 := bf_ BK219.out 8
   go_wp2
   refine bodyPost_ret (results_ct rfl _ _ gb219 49 #[.string ((rd_T49 l0 x6_1).f0), .string ((rd_T49 l0 x6_1).f1), .string ((rd_T49 l0 x6_1).f2), .int .u8 ((rd_T49 l0 x6_1).f3), .int .i64 ((rd_T49 l0 x6_1).f4.f0), .int .i64 ((rd_T49 l0 x6_1).f4.f1), .int .i64 ((rd_T49 l0 x6_1).f4.f2), .int .i64 ((rd_T49 l0 x6_1).f4.f3), .slice A220_8 ((rd_T49 l0 x6_1).f5).length c220_8] (0, 0) _ rfl (by (with_reducible repeat (first | refine blk_drewN ?_ _ | refine blk_drew ?_ | refine blk_alloc ?_ _)); refine blk_put (cs := #[.string ((rd_T49 l0 x6_1).f0), .string ((rd_T49 l0 x6_1).f1), .string ((rd_T49 l0 x6_1).f2), .int .u8 ((rd_T49 l0 x6_1).f3), .int .i64 ((rd_T49 l0 x6_1).f4.f0), .int .i64 ((rd_T49 l0 x6_1).f4.f1), .int .i64 ((rd_T49 l0 x6_1).f4.f2), .int .i64 ((rd_T49 l0 x6_1).f4.f3), .slice none 0 0]) ?_ 8 _ rfl; (with_reducible repeat (first | refine blk_drewN ?_ _ | refine blk_drew ?_ | refine blk_alloc ?_ _)); refine blk_put (cs := #[.string ((rd_T49 l0 x6_1).f0), .string ((rd_T49 l0 x6_1).f1), .string ((rd_T49 l0 x6_1).f2), .int .u8 ((rd_T49 l0 x6_1).f3), .int .i64 ((rd_T49 l0 x6_1).f4.f0), .int .i64 ((rd_T49 l0 x6_1).f4.f1), .int .i64 ((rd_T49 l0 x6_1).f4.f2), .int .i64 x220007_1, .slice none 0 0]) ?_ 7 _ rfl; (with_reducible repeat (first | refine blk_drewN ?_ _ | refine blk_drew ?_ | refine blk_alloc ?_ _)); refine blk_put (cs := #[.string ((rd_T49 l0 x6_1).f0), .string ((rd_T49 l0 x6_1).f1), .string ((rd_T49 l0 x6_1).f2), .int .u8 ((rd_T49 l0 x6_1).f3), .int .i64 ((rd_T49 l0 x6_1).f4.f0), .int .i64 ((rd_T49 l0 x6_1).f4.f1), .int .i64 x220006_1, .int .i64 x220007_1, .slice none 0 0]) ?_ 6 _ rfl; (with_reducible repeat (first | refine blk_drewN ?_ _ | refine blk_drew ?_ | refine blk_alloc ?_ _)); refine blk_put (cs := #[.string ((rd_T49 l0 x6_1).f0), .string ((rd_T49 l0 x6_1).f1), .string ((rd_T49 l0 x6_1).f2), .int .u8 ((rd_T49 l0 x6_1).f3), .int .i64 ((rd_T49 l0 x6_1).f4.f0), .int .i64 x220005_1, .int .i64 x220006_1, .int .i64 x220007_1, .slice none 0 0]) ?_ 5 _ rfl; (with_reducible repeat (first | refine blk_drewN ?_ _ | refine blk_drew ?_ | refine blk_alloc ?_ _)); refine blk_put (cs := #[.string ((rd_T49 l0 x6_1).f0), .string ((rd_T49 l0 x6_1).f1), .string ((rd_T49 l0 x6_1).f2), .int .u8 ((rd_T49 l0 x6_1).f3), .int .i64 x220004_1, .int .i64 x220005_1, .int .i64 x220006_1, .int .i64 x220007_1, .slice none 0 0]) ?_ 4 _ rfl; (with_reducible repeat (first | refine blk_drewN ?_ _ | refine blk_drew ?_ | refine blk_alloc ?_ _)); refine blk_put (cs := #[.string ((rd_T49 l0 x6_1).f0), .string ((rd_T49 l0 x6_1).f1), .string ((rd_T49 l0 x6_1).f2), .int .u8 x220003_1, .int .i64 x220004_1, .int .i64 x220005_1, .int .i64 x220006_1, .int .i64 x220007_1, .slice none 0 0]) ?_ 3 _ rfl; (with_reducible repeat (first | refine blk_drewN ?_ _ | refine blk_drew ?_ | refine blk_alloc ?_ _)); refine blk_put (cs := #[.string ((rd_T49 l0 x6_1).f0), .string ((rd_T49 l0 x6_1).f1), .string x220002_1, .int .u8 x220003_1, .int .i64 x220004_1, .int .i64 x220005_1, .int .i64 x220006_1, .int .i64 x220007_1, .slice none 0 0]) ?_ 2 _ rfl; (with_reducible repeat (first | refine blk_drewN ?_ _ | refine blk_drew ?_ | refine blk_alloc ?_ _)); refine blk_put (cs := #[.string ((rd_T49 l0 x6_1).f0), .string x220001_1, .string x220002_1, .int .u8 x220003_1, .int .i64 x220004_1, .int .i64 x220005_1, .int .i64 x220006_1, .int .i64 x220007_1, .slice none 0 0]) ?_ 1 _ rfl; (with_reducible repeat (first | refine blk_drewN ?_ _ | refine blk_drew ?_ | refine blk_alloc ?_ _)); refine blk_put (cs := #[.string x220000_1, .string x220001_1, .string x220002_1, .int .u8 x220003_1, .int .i64 x220004_1, .int .i64 x220005_1, .int .i64 x220006_1, .int .i64 x220007_1, .slice none 0 0]) ?_ 0 _ rfl; (with_reducible repeat (first | refine blk_drewN ?_ _ | refine blk_drew ?_ | refine blk_alloc ?_ _)); exact BK219.out) Tryz.underlying49 rfl (by kernel_rfl)) rfl ?_
   exact ⟨_, we_, by (with_reducible repeat (first | apply Va_ | apply VN_ | apply V1_)); exact Kd.V_mono (Kd.V_far (p := ⟨gb219, 8, none⟩) (Kd.V_far (p := ⟨gb219, 7, none⟩) (Kd.V_far (p := ⟨gb219, 6, none⟩) (Kd.V_far (p := ⟨gb219, 5, none⟩) (Kd.V_far (p := ⟨gb219, 4, none⟩) (Kd.V_far (p := ⟨gb219, 3, none⟩) (Kd.V_far (p := ⟨gb219, 2, none⟩) (Kd.V_far (p := ⟨gb219, 1, none⟩) (Kd.V_far (p := ⟨gb219, 0, none⟩) (Kd.V_mono HL221_8.out (fun k_ hk => (⟨hk, hk.2⟩ : _ ∧ k_ ≠ gb219))) (fun _ hk => hk.2) (.string ((rd_T49 l0 x6_1).f0))) (fun _ hk => hk.2) (.string ((rd_T49 l0 x6_1).f1))) (fun _ hk => hk.2) (.string ((rd_T49 l0 x6_1).f2))) (fun _ hk => hk.2) (.int .u8 ((rd_T49 l0 x6_1).f3))) (fun _ hk => hk.2) (.int .i64 ((rd_T49 l0 x6_1).f4.f0))) (fun _ hk => hk.2) (.int .i64 ((rd_T49 l0 x6_1).f4.f1))) (fun _ hk => hk.2) (.int .i64 ((rd_T49 l0 x6_1).f4.f2))) (fun _ hk => hk.2) (.int .i64 ((rd_T49 l0 x6_1).f4.f3))) (fun _ hk => hk.2) (.slice A220_8 ((rd_T49 l0 x6_1).f5).length c220_8)) (fun _ hk => hk.1.1), wb1_ HB.out GE219.out⟩
end Go.Proofs.YtiijbmaamblidaaGreatDoor.Print

namespace Go.Proofs.YtiijbmaamblidaaGreatDoor
open Go.RowKit Go.Proofs.YtiijbmaamblidaaGreatDoor.Print Go.Proofs.YtiijbmaamblidaaGreatDoorW.PrintWords Go.Proofs.YtiijbmaamblidaaGreatDoorW.PrintLast Go.Proofs.YtiijbmaamblidaaGreatDoorW.PrintMore
set_option linter.unusedVariables false
theorem rfind_l (l : List Node) (p : ByteArray) (hlen : l.length ≤ 1000000000000) : ∀ (d i : Nat), i + d = l.length → Ev (fun k => bindleref08_Find.l0 k l p (i : Int)) (tupN (findF (l.drop i) p)) := by
 intro d
 induction d with
 | zero =>
  intro i hi
  rw [List.drop_of_length_le (by omega)]
  exact Ev.step (f := fun _ => some (tupN none)) (fun k => by rw [bindleref08_Find.l0, if_neg (by omega)]; rfl) (Ev.now _)
 | succ d ih =>
  intro i hi
  have hil : i < l.length := by omega
  have hx : rd_T49 l (i : Int) = l[i] := by rw [rdN_at l (i : Int) (by omega) (by omega)]; simp
  rw [List.drop_eq_getElem_cons hil]
  unfold findF
  rw [List.find?_cons]
  by_cases he : l[i].f0.toList = p.toList
  ·rw [decide_eq_true he]
   exact Ev.step (f := fun _ => some (tupN (some l[i]))) (fun k => by rw [bindleref08_Find.l0, if_pos (by omega), if_pos (by omega), hx, if_pos he]; rfl) (Ev.now _)
  ·rw [decide_eq_false he]
   refine Ev.step (fun k => ?_) (ih (i + 1) (by omega))
   rw [bindleref08_Find.l0, if_pos (by omega), if_pos (by omega), hx, if_neg he]
   rw [show wrap64 ((i : Int) + 1) = ((i + 1 : Nat) : Int) by unfold wrap64; omega]
theorem rfind_eq (l : List Node) (p : ByteArray) (hlen : l.length ≤ 1000000000000) : Ev (fun k => bindleref08_Find.f k l p) (tupN (findF l p)) := rfind_l l p hlen l.length 0 (by omega)
end Go.Proofs.YtiijbmaamblidaaGreatDoor
