/-
  Part of the proof that FlatMore answers true: texts put together (wip/bundle.py).
-/
import Derived.Test.YtiijbmaamblidaaGreatDoorCFlatMore3
import Derived.Sort.OwnSorted
import Derived.Shelf.GgSortFunc.Insertion
import Derived.Shelf.SlGeneric
import Derived.Shelf.SlSortCmp.NoneTotal
import Derived.Shelf.SlicesG.Cmp
import Derived.Ground.SlsfProg
import Derived.Ground.SlgcProg
import Derived.Test.YtiijbmaamblidaaGreatDoorProg
import Derived.Sort.KeysCollected
import Derived.Maps.RangeWalk
import Derived.Deep.RegionHeld3
import Derived.Deep.QuietTactic
import Derived.BigQuiet
import Derived.IntWalk
import Derived.Laws.MakeOwn
namespace Go.Proofs.YtiijbmaamblidaaGreatDoor
open Go.RowKit Go.Maps Go.Proofs.YtiijbmaamblidaaGreatDoor.Print Go.Proofs.YtiijbmaamblidaaGreatDoorW.PrintWords Go.Proofs.YtiijbmaamblidaaGreatDoorW.PrintLast Go.Proofs.YtiijbmaamblidaaGreatDoorW.PrintMore
set_option linter.unusedVariables false
set_option linter.unusedSimpArgs false
theorem good_full {m : Mem} (h : goodM m = true) : m.f0.toList ≠ [] := by
 intro e
 have h1 := (goodM_clean h).1
 unfold cleanOk at h1
 simp only [Bool.and_eq_true, decide_eq_true_iff] at h1
 obtain ⟨h2, h3⟩ := h1
 rw [e] at h3
 unfold cleanF at h2 h3
 split at h2
 ·cases h2
 ·rename_i c1
  rw [if_neg c1] at h3
  split at h2
  ·cases h2
  ·rename_i c2
   rw [if_neg c2] at h3
   split at h2
   ·cases h2
   ·rename_i c3
    rw [if_neg c3] at h3
    split at h2
    ·cases h2
    ·rename_i c4
     rw [if_neg c4] at h3
     apply c4
     rw [← h3]
     rfl
theorem rcell'' {W w1 : World} {row : Option Nat} (hg : W.grownBy w1 row) {g o : Nat} (hlt : g < W.heap.size) (hne : some g ≠ row) : w1.cell? ⟨g, o, none⟩ = W.cell? ⟨g, o, none⟩ := World.cell?_of_block (a := ⟨g, o, none⟩) (hg.block g hlt hne)
theorem rfroz'' {W w1 : World} {row : Option Nat} (hg : W.grownBy w1 row) {g o : Nat} (hlt : g < W.heap.size) (hne : some g ≠ row) : w1.frozen? ⟨g, o, none⟩ = W.frozen? ⟨g, o, none⟩ := World.frozen?_of_block (a := ⟨g, o, none⟩) (hg.block g hlt hne)
theorem FoldBad_calls (x : Mem) (A : Option Addr) (c : Nat) (W : World) (hT : Tabs W) (hz : MemZ x) (hx : Kd.C (Kd.int .u8) W A x.f4.length x.f4) (hc : x.f4.length ≤ c) :
  Calls Tryz.prog 28 #[.agg (memCells x (.slice A x.f4.length c))] W fun e W' => e = .returned (.bool (!goodM x)) ∧ Below W.heap.size W W' := by
 obtain ⟨kg, hkg⟩ := Ev.rounds (member_Good_eq x hz)
 generalize goodM x = g at hkg
 have HK := Aside0.mk hkg
 have HTA := Aside0.mk (fun o => Tabs.below hT (below_alloc (Below.refl _ _) o))
 have HX := Aside0.mk (fun o => Kd.C_alloc hx o)
 clear hkg hT hx hz
 unfold memCells
 go_enter Tryz.func28, Tryz.ntmps28
 go_wp2_with (go_at_call 29; (with_reducible refine (member_Good.calls kg x.f0 x.f1 x.f2 x.f3.f0 x.f3.f1 x.f3.f2 x.f3.f3 A c x.f4 g _ ⟨HTA.out _⟩ (HX.out _) hc HK.out).mono ?_); rintro e w5 ⟨rfl, hb5⟩)
 go_ret
 exact ⟨rfl, ((Below.refl _ _).alloc (Nat.le_refl _) _).trans (hb5.mono (by simp))⟩
def BadRel (l : List Mem) (W : World) (i : Int) (wr : World) : Prop := 0 ≤ i ∧ i ≤ l.length ∧ (∀ (j : Nat) (hj : j < l.length), (j : Int) < i → goodM l[j] = true) ∧ Below W.heap.size W wr
def badAt (l : List Mem) : Int := match l.findIdx? (fun m => !goodM m) with
 | some i => (i : Int)
 | none => -1
theorem badAt_some {l : List Mem} {j : Nat} (hj : j < l.length) (h : ∀ (k : Nat) (hk : k < l.length), k < j → goodM l[k] = true) (hb : goodM l[j] = false) : badAt l = (j : Int) := by
 unfold badAt
 rw [List.findIdx?_eq_some_iff_getElem.2 ⟨hj, by rw [hb]; rfl, fun k hk => by rw [h k (by omega) hk]; simp⟩]
theorem badAt_none {l : List Mem} (h : ∀ (k : Nat) (hk : k < l.length), goodM l[k] = true) : badAt l = -1 := by
 unfold badAt
 rw [List.findIdx?_eq_none_iff.2 (fun x hx => by obtain ⟨i, hi, rfl⟩ := List.getElem_of_mem hx; rw [h i hi]; rfl)]
set_option maxRecDepth 100000 in
set_option maxHeartbeats 2000000 in
theorem Bad_calls (A0 : Option Addr) (c0 : Nat) (l : List Mem) (W : World) (hT : Tabs W) (hC : Kd.C k43 W A0 l.length l) (hz : MemsZ l) :
  Calls Tryz.prog 27 #[.slice A0 l.length c0, .func (.func 28) #[] #[]] W fun e W' => e = .returned (.int .i64 (badAt l)) ∧ Below W.heap.size W W' := by
 have HC := Aside0.mk hC
 have HZ := Aside0.mk hz
 have HT := Aside0.mk hT
 have hlen : (l.length : Int) ≤ 1000000000000 := by have := hz.1; omega
 clear hC hz hT
 generalize hpost : (fun (e : Ending) (W' : World) => e = .returned (.int .i64 (badAt l)) ∧ Below W.heap.size W W') = Q
 have hQ := Aside0.mk hpost
 clear hpost
 go_enter Tryz.func27, Tryz.ntmps27
 go_wp2
 go_loopw [8] (fun i wr => ∃ n : Int, i = .int .i64 n ∧ Aside0 (BadRel l W n wr)) (fun i _ => (l.length - (intOf i)).toNat)
 case atStart => exact ⟨0, rfl, ⟨⟨by omega, by omega, fun j hj h => absurd h (by omega), Below.refl _ _⟩⟩⟩
 case round =>
  obtain ⟨n, rfl, HR⟩ := hrel
  have h0 := HR.out.1
  have h1 := HR.out.2.1
  have HB := Aside0.mk HR.out.2.2.2
  by_cases hlt : n < (l.length : Int)
  ·have c1 : decide (n < (l.length : Int)) = true := decide_eq_true hlt
   have hnl : n.toNat < l.length := by omega
   obtain ⟨ad, A7, c7, rfl, x0, x1, x2, x3, x4, x5, x6, x7, hl7, hC7⟩ := at_T43 (Kd.C_below HC.out HB.out) n h0 hlt
   have hx := rdM_at l n h0 hlt
   have hxz : MemZ (rd_T43 l n) := by rw [hx]; exact HZ.out.2 _ (List.getElem_mem _)
   generalize rd_T43 l n = x at hx hxz x0 x1 x2 x3 x4 x5 x6 x7 hl7 hC7
   have hcl := FoldBad_calls x A7 c7 wr (Tabs.below HT.out HB.out) hxz hC7 hl7
   have HX := Aside0.mk hx
   have HNL := Aside0.mk hnl
   clear hx hC7 hl7 hnl hxz
   cases hb : goodM x with
   | true =>
    rw [hb, Bool.not_true] at hcl
    unfold memCells at hcl
    have HC2 := Aside0.mk hcl
    have HLB := Aside0.mk hb
    clear hcl hb
    go_wp2_with (go_at_call 28; refine HC2.out.mono ?_; rintro e w1 ⟨rfl, hb1⟩)
    have hfin : BadRel l W (n + 1) w1 := by
     refine ⟨by omega, by omega, fun j hj hjn => ?_, HB.out.trans (hb1.mono HB.out.size)⟩
     rcases Nat.lt_or_ge j n.toNat with h | h
     ·exact HR.out.2.2.1 j hj (by omega)
     ·obtain rfl : j = n.toNat := by omega
      rw [← HX.out]; exact HLB.out
    clear hb1
    go_roundw
    case rel => exact ⟨n + 1, by go_num, ⟨hfin⟩⟩
    case measure => simp [intOf]; omega
   | false =>
    rw [hb, Bool.not_false] at hcl
    unfold memCells at hcl
    have HC2 := Aside0.mk hcl
    have HLB := Aside0.mk hb
    clear hcl hb
    go_wp2_with (go_at_call 28; refine HC2.out.mono ?_; rintro e w1 ⟨rfl, hb1⟩)
    rw [← hQ.out]
    refine ⟨?_, HB.out.trans (hb1.mono HB.out.size)⟩
    rw [badAt_some HNL.out (fun k hk hkn => HR.out.2.2.1 k hk (by omega)) (by rw [← HX.out]; exact HLB.out)]
    rw [Int.toNat_of_nonneg h0]
    rfl
  ·have c1 : decide (n < (l.length : Int)) = false := decide_eq_false hlt
   go_wp2
   rw [← hQ.out]
   refine ⟨?_, HB.out⟩
   rw [badAt_none (fun j hj => HR.out.2.2.1 j hj (by omega))]
theorem badAt_neg {l : List Mem} (h : ¬ badAt l ≥ 0) : l.findIdx? (fun m => !goodM m) = none := by
 unfold badAt at h
 cases hf : l.findIdx? (fun m => !goodM m) with
 | none => rfl
 | some i => rw [hf] at h; dsimp only at h; omega
theorem badAt_pos {l : List Mem} (h : badAt l ≥ 0) : ∃ i, l.findIdx? (fun m => !goodM m) = some i ∧ badAt l = (i : Int) := by
 unfold badAt at h ⊢
 cases hf : l.findIdx? (fun m => !goodM m) with
 | none => rw [hf] at h; dsimp only at h; omega
 | some i => exact ⟨i, rfl, rfl⟩
def FoldRel (l : List Mem) (W : World) (d : Nat) (i : Int) (wr : World) : Prop :=
 0 ≤ i ∧ i ≤ l.length ∧ (∃ s B, stepsF l i.toNat = some s ∧ FInv l i.toNat s ∧ DirS wr (W.heap.size + 1) d i.toNat l s B) ∧ Below W.heap.size W wr ∧ wr.cell? ⟨W.heap.size, 0, none⟩ = some (.int .i64 0) ∧ wr.cell? ⟨W.heap.size, 1, none⟩ = some (.int .i64 0) ∧ wr.frozen? ⟨W.heap.size, 0, none⟩ = false ∧ wr.frozen? ⟨W.heap.size, 1, none⟩ = false
def FoldPost (l : List Mem) (W : World) (e : Ending) (W' : World) : Prop := ∃ v, e = .returned (.tuple #[v, .agg #[.int .i64 (foldF l).2.1, .int .i64 (foldF l).2.2]]) ∧ Kd.V k49 49 W' W.heap.size (fun k => W.heap.size ≤ k) v (foldF l).1 ∧ Below W.heap.size W W' ∧ (0 < (foldF l).1.length → ∃ g c, v = .slice (some ⟨g, 0, none⟩) (foldF l).1.length c)
set_option maxRecDepth 100000 in
set_option maxHeartbeats 4000000 in
theorem Fold_calls (A0 : Option Addr) (c0 : Nat) (l : List Mem) (W : World) (hT : Tabs W) (hC : Kd.C k43 W A0 l.length l) (hz : MemsZ l) :
  Calls Tryz.prog 16 #[.slice A0 l.length c0] W (FoldPost l W) := by
 have hmm := @run_makeMap Tryz.prog
 have HBC := Aside0.mk (fun o => Bad_calls A0 c0 l _ (Tabs.below hT (below_alloc (Below.refl _ _) o)) (Kd.C_alloc hC o) hz)
 have HC := Aside0.mk hC
 have HZ := Aside0.mk hz
 have hlen : (l.length : Int) ≤ 1000000000000 := by have := hz.1; omega
 clear hC hz hT
 generalize hpost : FoldPost l W = Q
 have hQ := Aside0.mk hpost
 clear hpost
 by_cases hbad : badAt l ≥ 0
 ·obtain ⟨i, hi, hbi⟩ := badAt_pos hbad
  have hb2 : decide (badAt l ≥ 0) = true := decide_eq_true hbad
  have hb3 : decide (0 ≤ badAt l) = true := decide_eq_true hbad
  have HI := Aside0.mk hi
  have HBI := Aside0.mk hbi
  clear hi hbi
  go_enter Tryz.func16, Tryz.ntmps16
  go_wp2_with (go_at_call 27; refine (HBC.out _).mono ?_; rintro e w1 ⟨rfl, hb1⟩; obtain ⟨hc1, hf1⟩ := bcell hb1; have hz1 : W.heap.size < w1.heap.size := Nat.lt_of_lt_of_le (by simp) hb1.size; have HB1 := Aside0.mk hb1; clear hb1)
  have hB1 := ((Below.refl W.heap.size W).alloc (Nat.le_refl _) (.cells #[.int .i64 0, .int .i64 0] 27)).trans (HB1.out.mono (by simp))
  refine bodyPost_ret (v := .tuple #[.slice none 0 0, .agg #[.int .i64 1, .int .i64 (badAt l)]]) (by simp [results, Tryz.results16, go_sem, hc1, hz1]) rfl ?_
  rw [← hQ.out]
  refine ⟨.slice none 0 0, by rw [foldF_bad HI.out, HBI.out], by rw [foldF_bad HI.out]; exact Kd.V_nil _ _ _ _ _, ?_, by rw [foldF_bad HI.out]; intro h; cases h⟩
  repeat (with_reducible refine below_put ?_ _ _ (Nat.le_refl _) _)
  exact hB1
 ·have hg := badAt_neg hbad
  have hb2 : decide (badAt l ≥ 0) = false := decide_eq_false hbad
  have hb3 : decide (0 ≤ badAt l) = false := decide_eq_false hbad
  have HG := Aside0.mk hg
  clear hg
  go_enter Tryz.func16, Tryz.ntmps16
  go_wp2_with (go_at_call 27; refine (HBC.out _).mono ?_; rintro e w1 ⟨rfl, hb1⟩; obtain ⟨hc1, hf1⟩ := bcell hb1; have hz1 : W.heap.size < w1.heap.size := Nat.lt_of_lt_of_le (by simp) hb1.size; have HB1 := Aside0.mk hb1; clear hb1)
  have hB1 : Below W.heap.size W w1 := ((Below.refl W.heap.size W).alloc (Nat.le_refl _) (.cells #[.int .i64 0, .int .i64 0] 27)).trans (HB1.out.mono (by simp))
  have hstart : FoldRel l W w1.heap.size 0 (w1.alloc (.map #[] 0)) := by
   refine ⟨by omega, by omega, ⟨[], fun _ => 0, rfl, FInv.start l, DirS.start _ _ _ _⟩, hB1.alloc hB1.size _, ?_, ?_, ?_, ?_⟩
   ·exact fcell ((hc1 W.heap.size 0 (by simp)).trans (by simp)) _
   ·exact fcell ((hc1 W.heap.size 1 (by simp)).trans (by simp)) _
   ·exact ((below_alloc (Below.refl _ _) _).frozen (p := ⟨W.heap.size, 0, none⟩) hz1).trans ((hf1 W.heap.size 0 (by simp)).trans (by simp))
   ·exact ((below_alloc (Below.refl _ _) _).frozen (p := ⟨W.heap.size, 1, none⟩) hz1).trans ((hf1 W.heap.size 1 (by simp)).trans (by simp))
  have HST := Aside0.mk hstart
  have HDZ : Aside0 (W.heap.size < w1.heap.size) := ⟨hz1⟩
  clear hstart hB1 hc1 hf1 HB1
  go_loopw [17] (fun i wr => ∃ n : Int, i = .int .i64 n ∧ Aside0 (FoldRel l W w1.heap.size n wr)) (fun i _ => (l.length - (intOf i)).toNat)
  case atStart => exact ⟨0, rfl, HST⟩
  case round =>
   obtain ⟨n, rfl, HR⟩ := hrel
   have h0 := HR.out.1
   have h1 := HR.out.2.1
   obtain ⟨s, B, hs, hI, hD⟩ := HR.out.2.2.1
   have HB := Aside0.mk HR.out.2.2.2.1
   obtain ⟨f0, f1, f2, f3⟩ := HR.out.2.2.2.2
   have hwz := HB.out.size
   have hwlt : W.heap.size < wr.heap.size := World.block_lt_of_cell? wr _ f0
   have HS := Aside0.mk hs
   have HI := Aside0.mk hI
   have HD := Aside0.mk hD
   clear hs hI hD
   by_cases hlt : n < (l.length : Int)
   ·have c1b : decide (n < (l.length : Int)) = true := decide_eq_true hlt
    have hnl : n.toNat < l.length := by omega
    obtain ⟨ad, A7, c7, rfl, x0, x1, x2, x3, x4, x5, x6, x7, hl7, hC7⟩ := at_T43 (Kd.C_below HC.out HB.out) n h0 hlt
    have hx := rdM_at l n h0 hlt
    have hxz : MemZ (rd_T43 l n) := by rw [hx]; exact HZ.out.2 _ (List.getElem_mem _)
    have hxg : goodM (rd_T43 l n) = true := by rw [hx]; exact all_good HG.out (List.getElem_mem _)
    generalize rd_T43 l n = x at hx hxz hxg x0 x1 x2 x3 x4 x5 x6 x7 hl7 hC7
    have HLC := Aside0.mk (fun o => Lay_calls (W.heap.size + 1) w1.heap.size n.toNat l s B x A7 c7 (wr.alloc o) (by rw [hx, List.getElem?_eq_getElem hnl]) (by omega) hxz (HD.out.below (below_alloc (Below.refl _ _) o)) HI.out (by rw [World.size_alloc]; omega) (Kd.C_alloc hC7 o))
    have HX := Aside0.mk hx
    have HXZ := Aside0.mk hxz
    have HXG := Aside0.mk hxg
    have HNL := Aside0.mk hnl
    clear hx hxz hxg hnl hC7 hl7
    unfold memCells at HLC
    have hdn : ¬ W.heap.size = w1.heap.size := by have := HDZ.out; omega
    have hdlt : w1.heap.size < wr.heap.size := HD.out.1.lt
    go_wp2_with (go_at_call 30; refine (HLC.out _).mono ?_; rintro e w2 ⟨(⟨hno, rfl⟩ | ⟨s', B', hst, rfl, hD'⟩), hg2⟩; all_goals (have hc2 : ∀ j, w2.cell? ⟨W.heap.size, j, none⟩ = wr.cell? ⟨W.heap.size, j, none⟩ := (fun j => (rcell'' hg2 (by simp; omega) (fun e => by injection e with e; exact hdn e)).trans (World.cell?_of_block (a := ⟨W.heap.size, j, none⟩) ((below_alloc (Below.refl _ _) _).block _ hwlt))); have hf2 : ∀ j, w2.frozen? ⟨W.heap.size, j, none⟩ = wr.frozen? ⟨W.heap.size, j, none⟩ := (fun j => (rfroz'' hg2 (by simp; omega) (fun e => by injection e with e; exact hdn e)).trans (World.frozen?_of_block (a := ⟨W.heap.size, j, none⟩) ((below_alloc (Below.refl _ _) _).block _ hwlt))); have hz2 := hg2.size; simp only [World.size_alloc] at hz2; have HG2 := Aside0.mk hg2; clear hg2))
    ·rw [← hQ.out]
     have hB2 : Below W.heap.size W w2 := (HB.out.alloc HB.out.size _).grown HG2.out (by rw [World.size_alloc]; omega) (fun j hj => by cases hj; omega)
     have hst := foldF_stop HG.out HNL.out HS.out hno
     rw [Int.toNat_of_nonneg h0] at hst
     refine bodyPost_ret (v := .tuple #[.slice none 0 0, .agg #[.int .i64 7, .int .i64 n]]) (by simp [results, Tryz.results16, go_sem, hc2, f0, f1, hz2]) rfl ?_
     refine ⟨.slice none 0 0, by rw [hst], by rw [hst]; exact Kd.V_nil _ _ _ _ _, ?_, by rw [hst]; intro h; cases h⟩
     repeat (with_reducible refine below_put ?_ _ _ (Nat.le_refl _) _)
     exact hB2
    ·have hB2 : Below W.heap.size W w2 := (HB.out.alloc HB.out.size _).grown HG2.out (by rw [World.size_alloc]; omega) (fun j hj => by cases hj; omega)
     have hxe : l[n.toNat]'HNL.out = x := HX.out.symm
     have hfin : FoldRel l W w1.heap.size (n + 1) w2 := by
      refine ⟨by omega, by have := HNL.out; omega, ⟨s', B', ?_, ?_, ?_⟩, hB2, (hc2 0).trans f0, (hc2 1).trans f1, (hf2 0).trans f2, (hf2 1).trans f3⟩
      ·rw [show (n + 1).toNat = n.toNat + 1 from by omega, stepsF_succ HS.out]; exact hst
      ·rw [show (n + 1).toNat = n.toNat + 1 from by omega]
       exact HI.out.step HNL.out (by rw [hxe]; exact good_full HXG.out) (by rw [hxe]; exact HXZ.out.1) hst
      ·rw [show (n + 1).toNat = n.toNat + 1 from by omega]; exact hD'
     have HF := Aside0.mk hfin
     clear hfin hB2 hxe hst hD' hc2 hf2
     go_roundw
     case rel => exact ⟨n + 1, by go_num, HF⟩
     case measure => simp [intOf]; have := HNL.out; omega
   ·have c1b : decide (n < (l.length : Int)) = false := decide_eq_false hlt
    have hnl : n.toNat = l.length := by omega
    have hs := HS.out
    have hI := HI.out
    have hD := HD.out
    rw [hnl] at hs hI hD
    have hNC := Nodes_calls (W.heap.size + 1) w1.heap.size l s B wr (by omega) (fun m hm => (HZ.out.2 m hm).2.2) hD hI (by omega)
    have HNC := Aside0.mk hNC
    have HSS := Aside0.mk hs
    clear hs hI hD hNC hnl
    go_wp2_with (go_at_call 31; refine HNC.out.mono ?_; rintro e w3 ⟨v, rfl, hN, hb3⟩; obtain ⟨Av, cv, rfl⟩ := Kd.N_slice hN; have hc3 : ∀ j, w3.cell? ⟨W.heap.size, j, none⟩ = wr.cell? ⟨W.heap.size, j, none⟩ := (fun j => hb3.cell (p := ⟨W.heap.size, j, none⟩) (Nat.lt_succ_self _)); have hf3 : ∀ j, w3.frozen? ⟨W.heap.size, j, none⟩ = wr.frozen? ⟨W.heap.size, j, none⟩ := (fun j => hb3.frozen (p := ⟨W.heap.size, j, none⟩) (Nat.lt_succ_self _)); have hz3 : W.heap.size < w3.heap.size := Nat.lt_of_lt_of_le hwlt hb3.size; have HN3 := Aside0.mk hN; have HB3 := Aside0.mk hb3; clear hN hb3)
    have hst := foldF_end HG.out HSS.out
    refine bodyPost_ret (v := .tuple #[.slice Av ((sortP s).map (nodeOf l (sortP s))).length cv, .agg #[.int .i64 0, .int .i64 0]]) (by simp [results, Tryz.results16, go_sem, hc3, f0, f1, hz3]) rfl ?_
    rw [← hQ.out]
    refine ⟨_, by rw [hst], ?_, ?_, ?_⟩
    ·rw [hst]
     refine Kd.V_mono (ok := fun k => wr.heap.size ≤ k) ?_ (fun k hk => by omega)
     repeat (with_reducible refine Kd.V_far ?_ (fun k hk e => by have e' : k = W.heap.size := e; omega) _)
     exact Kd.N_V HN3.out
    ·repeat (with_reducible refine below_put ?_ _ _ (Nat.le_refl _) _)
     exact HB.out.trans (HB3.out.mono (by omega))
    ·rw [hst]
     intro hp
     obtain ⟨g, cap, he, _⟩ := Kd.N_form HN3.out hp
     exact ⟨g, cap, he⟩
end Go.Proofs.YtiijbmaamblidaaGreatDoor

namespace Go.Proofs.YtiijbmaamblidaaGreatDoor.Print
open Go.RowKit Go.Proofs.YtiijbmaamblidaaGreatDoor Go.Proofs.YtiijbmaamblidaaGreatDoorW.PrintWords Go.Proofs.YtiijbmaamblidaaGreatDoorW.PrintLast Go.Proofs.YtiijbmaamblidaaGreatDoorW.PrintMore
set_option linter.unusedVariables false
def tree_Fold.f (l : List S43) : Option (List S49 × Int × Int) := if memsZ l = true then some (foldF l) else none
theorem tree_Fold.calls (A0 : Option Addr) (c0 : Nat) (l0 : List S43) (r1 : List S49) (r2 r3 : Int) (w : World) (hT : Aside0 (Tabs w)) (hr0 : Kd.C k43 w A0 l0.length l0) (hc0 : l0.length ≤ c0) (h : tree_Fold.f l0 = some (r1, r2, r3)) :
  Calls Tryz.prog 16 #[.slice A0 l0.length c0] w fun e w' => ∃ v0_ : Value, e = .returned (.tuple #[v0_, .agg #[.int .i64 r2, .int .i64 r3]]) ∧ Kd.V k49 49 w' w.heap.size (fun k_ => w.heap.size ≤ k_) v0_ r1 ∧ Below w.heap.size w w' := by
 unfold tree_Fold.f at h
 split at h
 ·rename_i hc
  simp only [Option.some.injEq] at h
  refine (Fold_calls A0 c0 l0 w hT.out hr0 ((memsZ_iff l0).1 hc)).mono ?_
  rintro e w' ⟨v, rfl, hV, hB, _⟩
  rw [h] at hV ⊢
  exact ⟨v, rfl, hV, hB⟩
 ·cases h
end Go.Proofs.YtiijbmaamblidaaGreatDoor.Print

namespace Go.Proofs.YtiijbmaamblidaaGreatDoor
open Go.Sort Go.Proofs
variable {α : Type} [Inhabited α]
theorem holds_of_blockE (enc : α → Value) {w : World} {g : Nat} {cur : Array Value} {e : TypeId} {ss : List α} (hb : w.heap[g]? = some (.cells cur e (0, 0))) (ht : cur.toList.take ss.length = ss.map enc) : Holds enc w g 0 ss.toArray := by
 intro j hj
 have hj' : j < ss.length := by simpa using hj
 refine ⟨?_, by simp [World.frozen?, hb]⟩
 have h1 : (cur.toList.take ss.length)[j]? = (ss.map enc)[j]? := by rw [ht]
 rw [List.getElem?_take_of_lt hj'] at h1
 simp only [World.cell?, hb, Nat.zero_add]
 simp only [Option.isSome_none, Bool.false_eq_true, if_false]
 rw [← Array.getElem?_toList, h1]
 simp [hj']
theorem heap_sortedE (enc : α → Value) {w : World} {g n : Nat} {os : Array Obj} {cur : Array Value} {e : TypeId} {fr : Nat × Nat} (d : Array α) (hb : w.heap[g]? = some (.cells cur e fr)) :
  (sortWorld enc w g 0 n d os).heap[g]? = some (.cells (putCells enc 0 d cur) e fr) := by
 have hg : g < w.heap.size := (Array.getElem?_eq_some_iff.1 hb).1
 unfold sortWorld
 rw [heap_grow_old _ _ (by simpa using hg)]
 simp [putRow, mapBlock, Sort.ahead, Array.getElem?_modify, hb, onCells]
theorem grownBy_sortedE (enc : α → Value) {w : World} {g n : Nat} {os : Array Obj} (d : Array α) : w.grownBy (sortWorld enc w g 0 n d os) (some g) := by
 unfold sortWorld
 refine ⟨rfl, rfl, rfl, by simp, fun k hk hne => ?_⟩
 rw [heap_grow_old _ _ (by simpa using hk)]
 have : g ≠ k := fun e => hne (by rw [e])
 simp [putRow, mapBlock, Sort.ahead, Array.getElem?_modify, this]
theorem take_putCellsE (enc : α → Value) (cur : Array Value) (ts : List α) (h : ts.length ≤ cur.size) : (putCells enc 0 ts.toArray cur).toList.take ts.length = ts.map enc := by
 apply List.ext_getElem?
 intro j
 by_cases hj : j < ts.length
 ·rw [List.getElem?_take_of_lt hj, Array.getElem?_toList]
  simp [putCells, hj, show j < cur.size by omega]
 ·rw [List.getElem?_take_eq_none (by omega), List.getElem?_eq_none (by simp; omega)]
theorem ownsRow_sortedE (enc : α → Value) {w : World} {base g cap n : Nat} {e : TypeId} {os : Array Obj} {cur : Array Value} {ss ts : List α} (hl : ts.length = ss.length) (hbase : base ≤ g) (hb : w.heap[g]? = some (.cells cur e (0, 0)))
  (h1 : ss.length ≤ cap) (h2 : cap ≤ maxLen) (h3 : cur.size = cap * 1) :
  (sortWorld enc w g 0 n ts.toArray os).ownsRow base e 1 (.slice (some ⟨g, 0, none⟩) ss.length cap) ss.length (ts.map enc) :=
 ⟨by simp [hl], .inr ⟨g, cap, _, rfl, hbase, heap_sortedE enc _ hb, h1, h2, by simp [putCells, h3], by rw [Nat.mul_one, ← hl]; exact take_putCellsE enc cur ts (by omega)⟩⟩
end Go.Proofs.YtiijbmaamblidaaGreatDoor

namespace Go.Proofs
open Go.Shelf
def Tryz.sortStr_ren : Go.Shelf.Ren := ⟨fun | 6 => 24 | 15 => 38 | 14 => 37 | 28 => 59 | 29 => 60 | 20 => 51 | 21 => 52 | 22 => 53 | 23 => 54 | 24 => 55 | 25 => 56 | 26 => 57 | 27 => 58 | 46 => 68 | 47 => 69 | 48 => 70 | 49 => 71 | 50 => 72 | 57 => 81 | n => n, fun | 22 => 37 | 24 => 9 | 25 => 61 | 3 => 3 | 39 => 75 | 0 => 0 | 53 => 100 | 55 => 102 | 4 => 4 | 46 => 94 | 45 => 93 | 50 => 86 | 5 => 5 | 9 => 9 | 66 => 105 | 70 => 109 | 76 => 116 | 77 => 117 | n => n, fun | n => n⟩
theorem Tryz.sortStr : Go.Proofs.SlLaysF.n6 Tryz.prog Tryz.sortStr_ren := {
 mixed := by kernel_rfl
 f6 := ⟨Tryz.f24.name, by decide, Tryz.func24.trans (congrArg some (by kernel_rfl))⟩
 f14 := ⟨Tryz.f37.name, by decide, Tryz.func37.trans (congrArg some (by kernel_rfl))⟩
 f15 := Tryz.func38.trans (congrArg some (by kernel_rfl))
 f20 := ⟨Tryz.f51.name, by decide, Tryz.func51.trans (congrArg some (by kernel_rfl))⟩
 f21 := ⟨Tryz.f52.name, by decide, Tryz.func52.trans (congrArg some (by kernel_rfl))⟩
 f22 := ⟨Tryz.f53.name, by decide, Tryz.func53.trans (congrArg some (by kernel_rfl))⟩
 f23 := ⟨Tryz.f54.name, by decide, Tryz.func54.trans (congrArg some (by kernel_rfl))⟩
 f24 := ⟨Tryz.f55.name, by decide, Tryz.func55.trans (congrArg some (by kernel_rfl))⟩
 f25 := ⟨Tryz.f56.name, by decide, Tryz.func56.trans (congrArg some (by kernel_rfl))⟩
 f26 := ⟨Tryz.f57.name, by decide, Tryz.func57.trans (congrArg some (by kernel_rfl))⟩
 f27 := ⟨Tryz.f58.name, by decide, Tryz.func58.trans (congrArg some (by kernel_rfl))⟩
 f28 := Tryz.func59.trans (congrArg some (by kernel_rfl))
 f29 := Tryz.func60.trans (congrArg some (by kernel_rfl))
 f46 := ⟨Tryz.f68.name, by decide, Tryz.func68.trans (congrArg some (by kernel_rfl))⟩
 f47 := Tryz.func69.trans (congrArg some (by kernel_rfl))
 f48 := Tryz.func70.trans (congrArg some (by kernel_rfl))
 f49 := ⟨Tryz.f71.name, by decide, Tryz.func71.trans (congrArg some (by kernel_rfl))⟩
 f50 := ⟨Tryz.f72.name, by decide, Tryz.func72.trans (congrArg some (by kernel_rfl))⟩
 f57 := ⟨Tryz.f81.name, by decide, Tryz.func81.trans (congrArg some (by kernel_rfl))⟩
 t0 := Tryz.underlying0
 a0 := Tryz.isAgg0
 z0 := Tryz.sizeOf0
 v0 := Tryz.zeroValue0
 t3 := Tryz.underlying3
 a3 := Tryz.isAgg3
 z3 := Tryz.sizeOf3
 v3 := Tryz.zeroValue3
 t4 := Tryz.underlying4
 a4 := Tryz.isAgg4
 z4 := Tryz.sizeOf4
 v4 := Tryz.zeroValue4
 t5 := Tryz.underlying5
 a5 := Tryz.isAgg5
 z5 := Tryz.sizeOf5
 v5 := Tryz.zeroValue5
 t9 := Tryz.underlying9
 a9 := Tryz.isAgg9
 z9 := Tryz.sizeOf9
 v9 := Tryz.zeroValue9
 t22 := Tryz.underlying37
 a22 := Tryz.isAgg37
 z22 := Tryz.sizeOf37
 v22 := Tryz.zeroValue37
 a24 := Tryz.isAgg9
 z24 := Tryz.sizeOf9
 t25 := Tryz.underlying61
 a25 := Tryz.isAgg61
 z25 := Tryz.sizeOf61
 v25 := Tryz.zeroValue61
 t39 := Tryz.underlying75
 a39 := Tryz.isAgg75
 z39 := Tryz.sizeOf75
 v39 := Tryz.zeroValue75
 t45 := Tryz.underlying93
 a45 := Tryz.isAgg93
 z45 := Tryz.sizeOf93
 v45 := Tryz.zeroValue93
 t46 := Tryz.underlying94
 a46 := Tryz.isAgg94
 z46 := Tryz.sizeOf94
 v46 := Tryz.zeroValue94
 t50 := Tryz.underlying86
 a50 := Tryz.isAgg86
 z50 := Tryz.sizeOf86
 v50 := Tryz.zeroValue86
 t53 := Tryz.underlying100
 a53 := Tryz.isAgg100
 z53 := Tryz.sizeOf100
 v53 := Tryz.zeroValue100
 t55 := Tryz.underlying102
 a55 := Tryz.isAgg102
 z55 := Tryz.sizeOf102
 v55 := Tryz.zeroValue102
 t66 := Tryz.underlying105
 a66 := Tryz.isAgg105
 z66 := Tryz.sizeOf105
 v66 := Tryz.zeroValue105
 t70 := Tryz.underlying109
 a70 := Tryz.isAgg109
 z70 := Tryz.sizeOf109
 v70 := Tryz.zeroValue109
 t76 := Tryz.underlying116
 a76 := Tryz.isAgg116
 z76 := Tryz.sizeOf116
 v76 := Tryz.zeroValue116
 t77 := Tryz.underlying117
 a77 := Tryz.isAgg117
 z77 := Tryz.sizeOf117
 v77 := Tryz.zeroValue117 }
def Tryz.cmpInt_ren : Go.Shelf.Ren := ⟨fun | 5 => 26 | 7 => 39 | n => n, fun | 22 => 3 | 3 => 3 | 4 => 4 | n => n, fun | n => n⟩
theorem Tryz.cmpInt : Go.Proofs.SlLaysC2.n5 Tryz.prog Tryz.cmpInt_ren := {
 mixed := by kernel_rfl
 f5 := ⟨Tryz.f26.name, by decide, Tryz.func26.trans (congrArg some (by kernel_rfl))⟩
 f7 := ⟨Tryz.f39.name, by decide, Tryz.func39.trans (congrArg some (by kernel_rfl))⟩
 t3 := Tryz.underlying3
 a3 := Tryz.isAgg3
 z3 := Tryz.sizeOf3
 v3 := Tryz.zeroValue3
 t4 := Tryz.underlying4
 a4 := Tryz.isAgg4
 z4 := Tryz.sizeOf4
 v4 := Tryz.zeroValue4
 t22 := Tryz.underlying3
 a22 := Tryz.isAgg3
 z22 := Tryz.sizeOf3
 v22 := Tryz.zeroValue3 }
end Go.Proofs

namespace Go.Proofs.YtiijbmaamblidaaGreatDoor
open Go.RowKit Go.Maps Go.Shelf Go.Proofs Go.Proofs.YtiijbmaamblidaaGreatDoor.Print Go.Proofs.YtiijbmaamblidaaGreatDoorW.PrintWords Go.Proofs.YtiijbmaamblidaaGreatDoorW.PrintLast Go.Proofs.YtiijbmaamblidaaGreatDoorW.PrintMore
set_option linter.unusedVariables false
set_option linter.unusedSimpArgs false
theorem zeroIntO (w : World) : (zeroValue 3).run Tryz.prog w = .ok (.int .i64 0) w := by kernel_rfl
def lastV (l : List Mem) (n : Nat) : List UInt8 → Option Value := fun k => (lastN l n k).map (fun (i : Nat) => Value.int .i64 (i : Int))
theorem lastV_put {l : List Mem} {n : Nat} (h : n < l.length) (k : List UInt8) : putS (lastV l n) l[n].f0.data.toList (.int .i64 (n : Int)) k = lastV l (n + 1) k := by
 unfold putS lastV
 rw [lastN_succ h]
 by_cases e : k = l[n].f0.data.toList
 ·rw [if_pos e, if_pos e]; rfl
 ·rw [if_neg e, if_neg e]
theorem lastV_zero (l : List Mem) (k : List UInt8) : (none : Option Value) = lastV l 0 k := rfl
abbrev SB := {p : ByteArray // p.size ≤ maxLen}
instance : Inhabited SB := ⟨⟨⟨#[]⟩, Nat.zero_le _⟩⟩
def encB (p : SB) : Value := .string p.1
def cfO (l : List Mem) (x y : SB) : Int := Lib.compareInt (lastD l l.length x.1 : Int) (lastD l l.length y.1 : Int)
theorem ltO (l : List Mem) (x y : SB) : ltOf (cfO l) x y = decide (lastD l l.length x.1 < lastD l l.length y.1) := by
 unfold ltOf cfO Lib.compareInt
 by_cases h1 : (lastD l l.length x.1 : Int) < lastD l l.length y.1
 ·rw [if_pos h1]; simp; omega
 ·rw [if_neg h1]
  by_cases h2 : (lastD l l.length y.1 : Int) < lastD l l.length x.1
  ·rw [if_pos h2]; simp; omega
  ·rw [if_neg h2]; simp; omega
theorem swoO (l : List Mem) : Go.Sort.SWO (ltOf (cfO l)) where
 irrefl x := by rw [ltO]; simp
 trans x y z h1 h2 := by rw [ltO] at *; simp at *; omega
 ntrans x y z h1 h2 := by rw [ltO] at *; simp at *; omega
theorem OrdCmp_calls (l : List Mem) (d B kk : Nat) (x y : SB) (W : World) (hM : MapS Tryz.prog 9 W d kk (lastV l l.length)) (hc : W.cell? ⟨B, 0, none⟩ = some (.map (some d))) :
  Calls Tryz.prog 25 #[.string x.1, .string y.1, .pointer (some ⟨B, 0, none⟩)] W fun e W' => e = .returned (.int .i64 (cfO l x y)) ∧ W' = W := by
 have h1 := hM.look Tryz.underlying9 Tryz.underlying58 (zeroIntO _) x.2
 have h2 := hM.look Tryz.underlying9 Tryz.underlying58 (zeroIntO _) y.2
 have e : ∀ p : ByteArray, (lastV l l.length p.data.toList).getD (.int .i64 0) = .int .i64 (lastD l l.length p : Int) := fun p => by
  unfold lastV lastD
  cases lastN l l.length p.data.toList <;> rfl
 rw [e] at h1 h2
 have hcon := fun w => AnyG.cmp_Compare_int Tryz.cmpInt (lastD l l.length x.1 : Int) (lastD l l.length y.1 : Int) w
 change ∀ w, Calls Tryz.prog 26 _ _ _ at hcon
 unfold cfO
 generalize Lib.compareInt (lastD l l.length x.1 : Int) (lastD l l.length y.1 : Int) = r at hcon ⊢
 have HC := Aside0.mk hcon
 clear hcon hM e
 go_enter Tryz.func25, Tryz.ntmps25
 go_wp2_with (go_at_call 26; (with_reducible refine (HC.out _).mono ?_); rintro e w' ⟨rfl, rfl⟩)
 go_ret
 exact ⟨rfl, rfl⟩
theorem SortF_calls (l : List Mem) (d B kk g cap base : Nat) (ss : List SB) (cur : Array Value) (W : World) (hM : MapS Tryz.prog 9 W d kk (lastV l l.length)) (hc : W.cell? ⟨B, 0, none⟩ = some (.map (some d))) (hdg : d ≠ g) (hBg : B ≠ g)
  (hbase : base ≤ g) (hb : W.heap[g]? = some (.cells cur 9 (0, 0))) (ht : cur.toList.take ss.length = ss.map encB) (h1 : ss.length ≤ cap) (h2 : cap ≤ maxLen) (h3 : cur.size = cap * 1) (hsz : ss.length < 4611686018427387904) :
  Calls Tryz.prog 24 #[.slice (some ⟨g, 0, none⟩) ss.length cap, .func (.func 25) #[] #[.pointer (some ⟨B, 0, none⟩)]] W fun e W' => e = .returned (.tuple #[]) ∧ ∃ ts : List SB, ts.Perm ss ∧ ts.Pairwise (fun x y => lastD l l.length x.1 ≤ lastD l l.length y.1) ∧
   W'.ownsRow base 9 1 (.slice (some ⟨g, 0, none⟩) ss.length cap) ss.length (ts.map encB) ∧ W.grownBy W' (some g) := by
 have eg : ∀ args w, (callFunc 25 args).run Tryz.prog w = .ok (.enter 25 args) w := enters_of Tryz.func25 (by kernel_rfl) rfl
 have hBlt := World.block_lt_of_cell? W _ hc
 dsimp only at hBlt
 have hcmp : CmpLays1 Tryz.prog 25 #[.pointer (some ⟨B, 0, none⟩)] encB (cfO l) g 0 ss.toArray.size W := by
  intro m os dk hdk x y
  have hg := grownBy_sortedE encB (w := W) (g := g) (n := m) (os := os) dk
  have hM' := hM.kept hg (by intro e; injection e with e; exact hdg e)
  have hc' : (sortWorld encB W g 0 m dk os).cell? ⟨B, 0, none⟩ = some (.map (some d)) := (World.cell?_of_block (a := ⟨B, 0, none⟩) (hg.block B hBlt (by intro e; injection e with e; exact hBg e))).trans hc
  exact (OrdCmp_calls l d B kk x y _ hM' hc').mono fun e w' ⟨he, hw⟩ => ⟨he, 0, #[], by rw [hw, Go.Sort.grow_empty]; rfl⟩
 have hH := holds_of_blockE encB hb ht
 have hcon := Any.slices_SortFunc Tryz.sortStr encB (fun _ => rfl) (cfO l) (swoO l) 25 #[.pointer (some ⟨B, 0, none⟩)] g 0 cap ss.toArray W eg hcmp hH (Array.getElem?_eq_some_iff.1 hb).1 (by simpa using hsz)
 change Calls Tryz.prog 24 _ _ _ at hcon
 rw [List.size_toArray] at hcon
 refine hcon.mono ?_
 rintro e w' ⟨he, d', n, os, ⟨hp1, _, hp3⟩, hs, rfl⟩
 have hl : d'.size = ss.length := by rw [hp1]; simp
 have hpl : d'.toList.Perm ss := by
  have e1 : d'.extract 0 ss.length = d' := by rw [← hl, Array.extract_size]
  have e2 : ss.toArray.extract 0 ss.length = ss.toArray := by
   have := Array.extract_size (xs := ss.toArray)
   rwa [List.size_toArray] at this
  rw [e1, e2] at hp3
  simpa using hp3
 refine ⟨he, d'.toList, hpl, ?_, ?_, grownBy_sortedE encB d'⟩
 ·rw [List.pairwise_iff_getElem]
  intro i j hi hj hij
  have hij2 := hs i j (Nat.zero_le _) hij (by rw [← hl]; simpa using hj)
  rw [ltO, decide_eq_false_iff_not] at hij2
  rw [getElem!_pos d' i (by simpa using hi), getElem!_pos d' j (by simpa using hj)] at hij2
  simp only [Array.getElem_toList]
  omega
 ·have h := ownsRow_sortedE encB (os := os) (n := n) (ss := ss) (ts := d'.toList) (by rw [Array.length_toList, hl]) hbase hb h1 h2 h3
  simpa using h
def OrdRel1 (l : List Mem) (W : World) (n : Int) (wr : World) : Prop :=
 0 ≤ n ∧ n ≤ l.length ∧ MapS Tryz.prog 9 wr W.heap.size n.toNat (lastV l n.toNat) ∧ Below W.heap.size W wr ∧ wr.cell? ⟨W.heap.size + 1, 0, none⟩ = some (.map (some W.heap.size))
def keysB (ss : List (List UInt8)) : List ByteArray := ss.map (fun s => ⟨s.toArray⟩)
theorem keysB_mem {ss : List (List UInt8)} {p : ByteArray} : p ∈ keysB ss ↔ p.data.toList ∈ ss := by
 unfold keysB
 rw [List.mem_map]
 constructor
 ·rintro ⟨s, hs, rfl⟩; exact hs
 ·intro h; exact ⟨_, h, by cases p; rfl⟩
def OrdRel2 (W : World) (d k r : Nat) (D : DataW Value) (left : Lit → Bool) (cnt : Nat) (o : Value) (ss : List (List UInt8)) (wr : World) : Prop :=
 wr.ranges Tryz.prog 9 heldE d r k D left cnt ∧ Collected D left ss ∧ (∀ s ∈ ss, s.length ≤ maxLen) ∧ ss.length + cnt ≤ k ∧ Kd.R Kd.string 9 wr W.heap.size (fun k => W.heap.size + 2 ≤ k ∧ k ≠ r) o (keysB ss) ∧ Below W.heap.size W wr ∧ wr.cell? ⟨W.heap.size + 1, 0, none⟩ = some (.map (some d)) ∧ W.heap.size + 2 ≤ wr.heap.size
set_option maxRecDepth 100000 in
set_option maxHeartbeats 4000000 in
theorem Order_calls (A0 : Option Addr) (c0 : Nat) (l : List Mem) (W : World) (hC : Kd.C k43 W A0 l.length l) (hz : MemsZ l) :
  Calls Tryz.prog 15 #[.slice A0 l.length c0] W fun e W' => ∃ v, e = .returned v ∧ Kd.R Kd.string 9 W' W.heap.size (fun _ => True) v (orderF l) ∧ Below W.heap.size W W' := by
 have hmm := @run_makeMap Tryz.prog
 have HC := Aside0.mk hC
 have HZ := Aside0.mk hz
 have hlen : (l.length : Int) ≤ 1000000000000 := by have := hz.1; omega
 clear hC hz
 generalize hpost : (fun (e : Ending) (W' : World) => ∃ v, e = .returned v ∧ Kd.R Kd.string 9 W' W.heap.size (fun _ => True) v (orderF l) ∧ Below W.heap.size W W') = Q
 have hQ := Aside0.mk hpost
 clear hpost
 go_enter Tryz.func15, Tryz.ntmps15
 go_wp2
 go_loopw [11] (fun i wr => ∃ n : Int, i = .int .i64 n ∧ Aside0 (OrdRel1 l W n wr)) (fun i _ => (l.length - (intOf i)).toNat)
 case atStart =>
  refine ⟨0, rfl, ⟨⟨by omega, by omega, ((MapS.made _ _ _).alloc _).ext (lastV_zero l), ?_, by go_simp⟩⟩⟩
  exact ((Below.refl _ _).alloc (Nat.le_refl _) _).alloc (by simp) _
 case round =>
  obtain ⟨n, rfl, HR⟩ := hrel
  have h0 := HR.out.1
  have h1 := HR.out.2.1
  have HM := Aside0.mk HR.out.2.2.1
  have HB := Aside0.mk HR.out.2.2.2.1
  have hbx := HR.out.2.2.2.2
  have hwlt := World.block_lt_of_cell? wr _ hbx
  dsimp only at hwlt
  by_cases hlt : n < (l.length : Int)
  ·have c1b : decide (n < (l.length : Int)) = true := decide_eq_true hlt
   have hnl : n.toNat < l.length := by omega
   obtain ⟨ad, A7, c7, rfl, x0, x1, x2, x3, x4, x5, x6, x7, hl7, hC7⟩ := at_T43 (Kd.C_below HC.out HB.out) n h0 hlt
   have hx := rdM_at l n h0 hlt
   have hxz : MemZ (rd_T43 l n) := by rw [hx]; exact HZ.out.2 _ (List.getElem_mem _)
   generalize rd_T43 l n = x at hx hxz x0 x1 x2 x3 x4 x5 x6 x7 hl7 hC7
   have hs0 : x.f0.size ≤ maxLen := by have := hxz.1; unfold maxLen; omega
   have HX := Aside0.mk hx
   have HNL := Aside0.mk hnl
   have HS0 := Aside0.mk hs0
   clear hx hxz hl7 hC7 hs0 hnl
   go_wp2_with (at_mapUpdate; refine MapS.wpput (HM.out.alloc _) rfl _ _ _ rfl Tryz.underlying9 Tryz.underlying58 (by unfold maxLen; omega) rfl rfl HS0.out rfl ?_; intro w6 hM6 hturn6)
   have hg6 := hturn6.grown
   have hfin : OrdRel1 l W (n + 1) w6 := by
    have e1 : (n + 1).toNat = n.toNat + 1 := by omega
    have e2 : n = (n.toNat : Int) := by omega
    refine ⟨by omega, by omega, ?_, (HB.out.alloc HB.out.size _).grown hg6 (by have := HB.out.size; simp; omega) (fun j hj => by cases hj; exact Nat.le_refl _), ?_⟩
    ·rw [e1]
     have hput : ∀ s, putS (lastV l n.toNat) x.f0.data.toList (.int .i64 n) s = lastV l (n.toNat + 1) s := fun s => by
      rw [← lastV_put HNL.out, HX.out, ← e2]
     exact hM6.ext hput
    ·refine (World.cell?_of_block (a := ⟨W.heap.size + 1, 0, none⟩) (hg6.block (W.heap.size + 1) (by rw [World.size_alloc]; omega) (fun e => by injection e with e; omega))).trans ?_
     exact (World.cell?_of_block (a := ⟨W.heap.size + 1, 0, none⟩) ((below_alloc (Below.refl _ _) _).block _ hwlt)).trans hbx
   have HFIN := Aside0.mk hfin
   clear hfin hM6 hturn6 hg6
   go_roundw
   case rel => exact ⟨n + 1, by go_num, HFIN⟩
   case measure => simp [intOf]; omega
  ·have c1b : decide (n < (l.length : Int)) = false := decide_eq_false hlt
   obtain ⟨w1, rfl⟩ : ∃ w1 : World, w1 = wr := ⟨_, rfl⟩
   have en : n.toNat = l.length := by omega
   have hM := HM.out
   rw [en] at hM
   obtain ⟨D, hown, hh, ha⟩ := hM
   have HM1 : Aside0 (MapS Tryz.prog 9 w1 W.heap.size l.length (lastV l l.length)) := ⟨⟨D, hown, hh, ha⟩⟩
   have HH := Aside0.mk hh
   have hsz : Maps.size D ≤ l.length := hown.size_le
   have HSZ := Aside0.mk hsz
   have HB1 := Aside0.mk HB.out
   have HA := Aside0.mk ha
   clear ha hh hsz en
   go_wp2_with (first
    | (at_range; refine wpList_range_own _ rfl _ 58 rfl 9 3 (string_keyed Tryz.underlying9) Tryz.underlying58 heldE W.heap.size l.length _ rfl hown ?_; intro w0 hrg0 hg0 hs0)
    | go_in)
   try go_frame
   have hstart : OrdRel2 W W.heap.size l.length w1.heap.size D (Maps.has D) (Maps.size D) (.slice none 0 0) [] w0 := by
    refine ⟨hrg0, Collected.start D, fun s hs => (by cases hs), by simpa using HSZ.out, Kd.R_nil _ _ _ _ _, HB1.out.grown hg0 HB1.out.size (fun j hj => (by cases hj)), ?_, by omega⟩
    exact (World.cell?_of_block (a := ⟨W.heap.size + 1, 0, none⟩) (hg0.block (W.heap.size + 1) hwlt (by simp))).trans hbx
   have HST := Aside0.mk hstart
   clear hstart hrg0 hg0 hown
   obtain ⟨r, hr⟩ : ∃ r, r = w1.heap.size := ⟨_, rfl⟩
   rw [← hr] at HST ⊢
   have HRZ := Aside0.mk (show W.heap.size + 1 < r by omega)
   clear hs0 hwlt hbx hr
   go_loopw [6] (fun o wr => ∃ (left : Lit → Bool) (cnt : Nat) (ss : List (List UInt8)), Aside0 (OrdRel2 W W.heap.size l.length r D left cnt o ss wr)) (fun _ wr => wr.rangeLeft W.heap.size r)
   case atStart => exact ⟨_, _, _, HST⟩
   case round =>
    obtain ⟨left, cnt, ss, HR2⟩ := hrel
    have hrg := HR2.out.1
    have hbx := HR2.out.2.2.2.2.2.2.1
    obtain ⟨Ao, co, hv⟩ := Kd.R_slice HR2.out.2.2.2.2.1
    subst hv
    go_wp2_with (first
     | (at_next; refine wpList_next_ranges _ rfl _ rfl 9 (string_keyed Tryz.underlying9) heldE encStr id (fun key kl h => by obtain ⟨x, hx, _⟩ := Maps.keyOf_str Tryz.underlying9 h; exact ⟨x, hx⟩) (fun v y _ => ⟨v, rfl⟩) W.heap.size r l.length _ _ _ rfl hrg ?_ ?_)
     | go_in)
    ·intro hc0 hl0
     have hown2 := hrg.owns
     have hM2 : MapS Tryz.prog 9 wr W.heap.size l.length (lastV l l.length) := ⟨D, hown2, HH.out, HA.out⟩
     have hcol := HR2.out.2.1
     have hmem : ∀ p, p ∈ keysB ss ↔ p ∈ orderF l := fun p => by
      rw [keysB_mem, hcol.2, hl0, and_iff_left rfl, HH.out]
      have := lastN_is (l := l) (n := l.length) (Nat.le_refl _) p
      rw [List.take_length] at this
      rw [← this]
      unfold lastV
      rw [Option.isSome_map]
     have hnd : (keysB ss).Nodup := by
      unfold keysB
      rw [List.nodup_iff_pairwise_ne, List.pairwise_map]
      have := hcol.1
      rw [List.nodup_iff_pairwise_ne] at this
      exact this.imp (fun {a b} h e => h (by injection e with e; exact List.toArray_inj e))
     have hperm : (keysB ss).Perm (orderF l) := (List.perm_ext_iff_of_nodup hnd (order_nodup l)).2 hmem
     have hR2 := HR2.out.2.2.2.2.1
     have hBw := HR2.out.2.2.2.2.2.1
     have hsl : ∀ p ∈ keysB ss, p.size ≤ maxLen := fun p hp => by
      have := HR2.out.2.2.1 _ (keysB_mem.1 hp)
      rwa [Array.length_toList] at this
     have hkl : (keysB ss).length ≤ l.length := by rw [hperm.length_eq]; exact order_len l
     rcases Nat.eq_zero_or_pos (keysB ss).length with hz0 | hpos
     ·have hk0 : keysB ss = [] := List.eq_nil_of_length_eq_zero hz0
      have ho : orderF l = [] := by
       have := hperm.length_eq
       rw [hz0] at this
       exact List.eq_nil_of_length_eq_zero this.symm
      have hcon := fun w => AnyF.slices_SortFunc_none { Tryz.sortStr with } Ao co (.func (.func 25) #[] #[.pointer (some ⟨W.heap.size + 1, 0, none⟩)]) w
      change ∀ w, Calls Tryz.prog 24 _ _ _ at hcon
      rw [hk0] at hR2 ⊢
      have HCN := Aside0.mk hcon
      have HOL := Aside0.mk ho
      have HR := Aside0.mk hR2
      have HBW := Aside0.mk hBw
      clear hcon ho hR2 hBw hsl hkl hz0 hk0 hperm hnd hmem hcol hM2 hown2 hrg hc0 hl0
      go_wp2_with (go_at_call 24; (with_reducible refine (HCN.out _).mono ?_); rintro e w' ⟨rfl, rfl⟩)
      rw [← hQ.out]
      refine ⟨_, rfl, ?_, HBW.out⟩
      rw [HOL.out]
      exact Kd.R_mono HR.out (fun _ _ => trivial)
     ·obtain ⟨gA, hgA⟩ : ∃ g, Ao = some ⟨g, 0, none⟩ := by
       obtain ⟨g, cap, he, _⟩ := Kd.R_form hR2 hpos
       injection he with h1 _ _
       exact ⟨g, h1⟩
      subst hgA
      have hown3 := Kd.own_of_R (enc := Value.string) (h1 := fun _ => rfl) hR2
      rcases hown3.2 with ⟨hn, _⟩ | ⟨g, cap, cur, hv, hbase, hb, h1, h2, h3, h4⟩
      ·cases hn
      cases hv
      have hgl2 : W.heap.size + 2 ≤ gA := (hR2.1 gA rfl).1
      have hl2 : ((keysB ss).pmap Subtype.mk hsl).length = (keysB ss).length := List.length_pmap
      have hm2 : ((keysB ss).pmap Subtype.mk hsl).map encB = encs Value.string (keysB ss) := by
       unfold encs encB
       rw [List.map_pmap]
       rw [List.pmap_eq_map]
      have hcon := SortF_calls l W.heap.size (W.heap.size + 1) l.length gA co W.heap.size ((keysB ss).pmap Subtype.mk hsl) cur wr hM2 hbx (by omega) (by omega) hbase hb (by rw [hl2, hm2]; rw [Nat.mul_one] at h4; exact h4) (by rw [hl2]; exact h1) h2 h3 (by rw [hl2]; omega)
      rw [hl2] at hcon
      have hfin : ∀ ts : List SB, ts.Perm ((keysB ss).pmap Subtype.mk hsl) → ts.Pairwise (fun x y => lastD l l.length x.1 ≤ lastD l l.length y.1) → ts.map (fun x => x.1) = orderF l := fun ts hts hpw => by
       have e1 : ((keysB ss).pmap Subtype.mk hsl).map (fun x => x.1) = keysB ss := by
        rw [List.map_pmap, List.pmap_eq_map, List.map_id']
       have hp2 : (ts.map (fun x => x.1)).Perm (orderF l) := by
        have := hts.map (fun x : SB => x.1)
        rw [e1] at this
        exact this.trans hperm
       refine order_unique hp2 ?_
       have hdist : ∀ a ∈ orderF l, ∀ b ∈ orderF l, lastD l l.length a = lastD l l.length b → a = b := by
        have h5 := order_last (l := l) l.length (Nat.le_refl _)
        rw [List.take_length] at h5
        intro a ha b hb2 e
        obtain ⟨i, hi, rfl⟩ := List.getElem_of_mem ha
        obtain ⟨j, hj, rfl⟩ := List.getElem_of_mem hb2
        rw [List.pairwise_iff_getElem] at h5
        rcases Nat.lt_trichotomy i j with h6 | h6 | h6
        ·have := h5 i j hi hj h6; omega
        ·subst h6; rfl
        ·have := h5 j i hj hi h6; omega
       have hnd2 : (ts.map (fun x => x.1)).Nodup := hp2.nodup_iff.2 (order_nodup l)
       rw [List.pairwise_map]
       rw [List.nodup_iff_pairwise_ne, List.pairwise_map] at hnd2
       refine (hpw.and hnd2).imp_of_mem (fun {a b} ha hb2 h => ?_)
       have m1 := hp2.mem_iff.1 (List.mem_map.2 ⟨a, ha, rfl⟩)
       have m2 := hp2.mem_iff.1 (List.mem_map.2 ⟨b, hb2, rfl⟩)
       rcases Nat.lt_or_ge (lastD l l.length a.1) (lastD l l.length b.1) with h7 | h7
       ·exact h7
       ·exact absurd (hdist _ m1 _ m2 (by have := h.1; omega)) h.2
      have hlen3 : (keysB ss).length = (orderF l).length := hperm.length_eq
      have HCN := Aside0.mk hcon
      have HFIN := Aside0.mk hfin
      have HBW := Aside0.mk hBw
      have HL3 := Aside0.mk hlen3
      have hgle : W.heap.size + 2 ≤ gA := hgl2
      have hwz := HR2.out.2.2.2.2.2.2.2
      clear hgl2 hcon hfin hR2 hBw hlen3 hkl hperm hnd hmem hcol hM2 hown2 hrg hc0 hl0 hown3 hb h1 h2 h3 h4 hl2 hm2 hbase hpos
      go_wp2_with (go_at_call 24; refine HCN.out.mono ?_; rintro e w2 ⟨rfl, ts, hts, hpw, hor, hg2⟩; have HTS := Aside0.mk (HFIN.out ts hts hpw); have HOR := Aside0.mk hor; have HG2 := Aside0.mk hg2; clear hts hpw hor hg2)
      rw [← hQ.out]
      refine ⟨_, rfl, ?_, HBW.out.grown HG2.out (by omega) (fun j hj => by cases hj; omega)⟩
      rw [← HTS.out]
      have e5 : ts.map encB = encs Value.string (ts.map (fun x => x.1)) := by
       unfold encs
       rw [List.map_map]
       rfl
      have hor := HOR.out
      rw [e5] at hor
      have e6 : (keysB ss).length = (ts.map (fun x => x.1)).length := by rw [HTS.out]; exact HL3.out
      rw [e6] at hor ⊢
      exact Kd.R_of_own hor (fun _ _ => trivial)
    ·intro x c kl ya yb w2 cnt2 hkey hlk hheld hat hrg2 hlt2 hg2 hs2 hen
     obtain ⟨x', ex, rfl, hxl⟩ := Maps.keyOf_str Tryz.underlying9 hkey
     obtain rfl := encStr_inj ex
     have hrlt := hrg.lt
     have hR2 := HR2.out.2.2.2.2.1
     have hok := hR2.1
     have hRw := Kd.R_grown hR2 hg2 (fun k hk e => by injection e with e; exact hk.2 e)
     have hrz := HRZ.out
     have hwz := HR2.out.2.2.2.2.2.2.2
     have hBw := HR2.out.2.2.2.2.2.1.grown hg2 (by omega) (fun j hj => by cases hj; omega)
     have hkl : (keysB ss).length = ss.length := by unfold keysB; rw [List.length_map]
     have hsz := HR2.out.2.2.2.1
     have hcol := HR2.out.2.1.step hlk hat
     have hss := HR2.out.2.2.1
     have HRW := Aside0.mk hRw
     have HBW := Aside0.mk hBw
     have HOK := Aside0.mk hok
     have HCOL := Aside0.mk hcol
     have HSS := Aside0.mk hss
     have HXL := Aside0.mk hxl
     have HRG2 := Aside0.mk hrg2
     have HRG := Aside0.mk hrg
     have HKL := Aside0.mk hkl
     have hbx2 : w2.cell? ⟨W.heap.size + 1, 0, none⟩ = some (.map (some W.heap.size)) := (World.cell?_of_block (a := ⟨W.heap.size + 1, 0, none⟩) (hg2.block (W.heap.size + 1) (by omega) (fun e => by injection e with e; omega))).trans hbx
     have HBX := Aside0.mk hbx2
     have hszl : ss.length + 1 ≤ l.length := by omega
     have hcc : cnt2 < cnt := hlt2
     have hz2 : W.heap.size + 2 ≤ w2.heap.size := by omega
     have hr2 : r < w2.heap.size := by omega
     clear hRw hBw hok hcol hss hxl hrg2 hrg hkl hbx2 hbx hkey hlk hheld hat hg2 ex hR2 hlt2 hs2 hwz hrlt
     go_wp2_with (at_builtin; refine Kd.R_append Kd.string (w0 := W) (W := w2) W.heap.size rfl _ _ 37 9 (.string ⟨#[]⟩) 16 rfl Tryz.underlying37 infoStr rfl (by decide) (by decide) (.slice Ao (keysB ss).length co) (keysB ss) ⟨x.toArray⟩ [.string ⟨x.toArray⟩] (fun k => W.heap.size + 2 ≤ k ∧ k ≠ r) (fun _ => False) rfl rfl rfl (fun _ h => h.elim) (fun k hk => ⟨by omega, by omega⟩) HRW.out HBW.out (by omega) (by rw [HKL.out]; omega) ?_; intro v3 w3 hR3 hB3 hg3 hat3)
     have hne : ∀ k, (Value.slice Ao (keysB ss).length co).ownBlock = some k → W.heap.size + 2 ≤ k ∧ k ≠ r := HOK.out
     have hfin : OrdRel2 W W.heap.size l.length r D (fun z => left z && !z.sameKey (.string x)) cnt2 v3 (ss ++ [x]) w3 := by
      refine ⟨HRG2.out.kept hg3 (fun e => by have := (hne _ e.symm).1; omega) (fun e => (hne _ e.symm).2 rfl), HCOL.out, fun s hs => ?_, by rw [List.length_append, List.length_singleton]; omega, ?_, hB3, ?_, by have := hg3.size; omega⟩
      ·rcases List.mem_append.1 hs with h | h
       ·exact HSS.out s h
       ·rw [List.mem_singleton] at h; rw [h]; exact HXL.out
      ·have e : keysB (ss ++ [x]) = keysB ss ++ [⟨x.toArray⟩] := by unfold keysB; rw [List.map_append]; rfl
       rw [e]
       exact hR3
      ·exact (World.cell?_of_block (a := ⟨W.heap.size + 1, 0, none⟩) (hg3.block (W.heap.size + 1) (by omega) (fun e => by have := (hne _ e.symm).1; omega))).trans HBX.out
     have hle1 := hfin.1.left_eq
     have hle2 := HRG.out.left_eq
     have HFIN := Aside0.mk hfin
     have HL1 := Aside0.mk hle1
     have HL2 := Aside0.mk hle2
     clear hfin hR3 hB3 hg3 hat3 hle1 hle2 hne
     go_roundw
     case rel => exact ⟨_, _, _, HFIN⟩
     case measure => rw [HL1.out, HL2.out]; omega
end Go.Proofs.YtiijbmaamblidaaGreatDoor

namespace Go.Proofs.YtiijbmaamblidaaGreatDoor.Print
open Go.RowKit Go.Proofs.YtiijbmaamblidaaGreatDoor Go.Proofs.YtiijbmaamblidaaGreatDoorW.PrintWords Go.Proofs.YtiijbmaamblidaaGreatDoorW.PrintLast Go.Proofs.YtiijbmaamblidaaGreatDoorW.PrintMore
set_option linter.unusedVariables false
def flat_Order.f (l : List S43) : Option (List ByteArray) := if memsZ l = true then some (orderF l) else none
theorem flat_Order.calls (A0 : Option Addr) (c0 : Nat) (l0 : List S43) (r : List ByteArray) (w : World) (hr0 : Kd.C k43 w A0 l0.length l0) (hc0 : l0.length ≤ c0) (h : flat_Order.f l0 = some r) :
  Calls Tryz.prog 15 #[.slice A0 l0.length c0] w fun e w' => ∃ v0_ : Value, e = .returned (v0_) ∧ Kd.R Kd.string 9 w' w.heap.size (fun _ => True) v0_ r ∧ Below w.heap.size w w' := by
 unfold flat_Order.f at h
 split at h
 ·rename_i hc
  simp only [Option.some.injEq] at h
  subst h
  exact Order_calls A0 c0 l0 w hr0 ((memsZ_iff l0).1 hc)
 ·cases h
end Go.Proofs.YtiijbmaamblidaaGreatDoor.Print

namespace Go.Proofs.YtiijbmaamblidaaGreatDoor.Print
open Go.RowKit Go.Proofs.YtiijbmaamblidaaGreatDoorW.PrintWords Go.Proofs.YtiijbmaamblidaaGreatDoorW.PrintLast Go.Proofs.YtiijbmaamblidaaGreatDoorW.PrintMore
attribute [local go_sem] max2_int min2_int max_two min_two max_three min_three max_four min_four   -- for this text's walks alone
set_option linter.unusedVariables false
set_option linter.unusedSimpArgs false
def bindlelaw18_light.l0 : Nat → List (S43) → Int → Int → Option (Bool)
 | 0, _, _, _ => none
 | k + 1, x0, x3, x4 => if x4 < (x0.length : Int) then (if 0 ≤ x4 then (bindlelaw18_light.l0 k x0 (wrap64 ((wrap64 ((wrap64 (x3 + (((rd_T43 x0 x4).f4).length : Int))) + (((rd_T43 x0 x4).f0).size : Int))) + (((rd_T43 x0 x4).f1).size : Int))) (wrap64 (x4 + 1))) else (none)) else (if (x0.length : Int) ≤ 60 then (some (decide (x3 ≤ 200000))) else (some false))
def bindlelaw18_light.f (k : Nat) (l0 : List (S43)) : Option (Bool) := bindlelaw18_light.l0 k l0 0 0
set_option maxHeartbeats 8000000 in
set_option maxRecDepth 100000 in
theorem bindlelaw18_light.calls (k : Nat) (A0 : Option Addr) (c0 : Nat) (l0 : List (S43)) (r : Bool) (w : World) (hr0 : Kd.C k43 w A0 l0.length l0) (hc0 : l0.length ≤ c0) (h : bindlelaw18_light.f k l0 = some r) :
  Calls Tryz.prog 6 #[.slice A0 l0.length c0] w fun e w' => e = .returned (.bool r) ∧ Drawn0 w w' := by
 have HR0 := A0_ hr0
 have HC0 := A0_ hc0
 clear hr0 hc0
 have H : (bindlelaw18_light.l0 k l0 0 0) = some r := h
 clear h
 have H' := A0_ H
 clear H
 go_enter Tryz.func6, Tryz.ntmps6
 go_wp2
 repeat (go_quiet (fail); try go_wp2)
 go_loopg [3, 4] k (fun kq v3 v4 w' => ∃ (x3_1 : Int) (x4_1 : Int), v3 = .int .i64 x3_1 ∧ v4 = .int .i64 x4_1 ∧ Aside0 (bindlelaw18_light.l0 kq l0 x3_1 x4_1 = some r) ∧ Aside0 (kq ≤ k) ∧ Drawn0 w w')
 case atStart => exact ⟨(0), (0), wr_, wr_, H', ⟨Nat.le_refl _⟩, by repeat (first | exact Drawn0.refl _ | apply Drawn0.step)⟩
 case round =>
  clear H'
  obtain ⟨x3_1, x4_1, rfl, rfl, HA, HK1, ⟨m1, rfl⟩⟩ := hrel
  cases gk with
  | zero => exact absurd HA.out (by simp [bindlelaw18_light.l0])
  | succ k1 =>
   have H := HA.out
   clear HA
   simp only [bindlelaw18_light.l0] at H
   by_cases c2 : x4_1 < (l0.length : Int)
   rotate_left
   ·rw [if_neg c2] at H
    have c2b0 : decide (x4_1 < (l0.length : Int)) = false := decide_eq_false c2
    clear c2
    by_cases c4 : (l0.length : Int) ≤ 60
    ·rw [if_pos c4] at H
     have c4b0 : decide ((l0.length : Int) ≤ 60) = true := decide_eq_true c4
     have c4b1 : decide (l0.length ≤ 60) = true := decide_eq_true (by omega)
     clear c4
     obtain rfl := Option.some.inj H
     go_wp2
     repeat (go_quiet (fail); try go_wp2)
     go_ret
     exact ⟨by first | rfl | (simp; done) | (simp [*]; done), by repeat (first | exact Drawn0.refl _ | apply Drawn0.step)⟩
    rw [if_neg c4] at H
    have c4b0 : decide ((l0.length : Int) ≤ 60) = false := decide_eq_false c4
    have c4b1 : decide (l0.length ≤ 60) = false := decide_eq_false (by omega)
    clear c4
    obtain rfl := Option.some.inj H
    go_wp2
    repeat (go_quiet (fail); try go_wp2)
    go_ret
    exact ⟨by first | rfl | (simp; done) | (simp [*]; done), by repeat (first | exact Drawn0.refl _ | apply Drawn0.step)⟩
   rw [if_pos c2] at H
   have c2b0 : decide (x4_1 < (l0.length : Int)) = true := decide_eq_true c2
   clear c2
   by_cases c3 : 0 ≤ x4_1
   rotate_left
   ·rw [if_neg c3] at H
    exact absurd H (by simp)
   rw [if_pos c3] at H
   have c3b0 : decide (0 ≤ x4_1) = true := decide_eq_true c3
   clear c3
   have H' := A0_ H
   clear H
   have p101 : 0 ≤ (x4_1 : Int) := wd_
   have q101 : x4_1 < (l0.length : Int) := wd_
   obtain ⟨ad101, A101_7, c101_7, e101, hx101_0, hx101_1, hx101_2, hx101_3, hx101_4, hx101_5, hx101_6, hx101_7, hl101_7, hi101_7⟩ := at_T43 HR0.out x4_1 p101 q101
   cases e101
   have HR101_7 := A0_ hi101_7
   have HC101_7 := A0_ hl101_7
   clear hi101_7 hl101_7
   replace p101 := eq_true p101
   replace q101 := eq_true q101
   have p102 : 0 ≤ (x4_1 : Int) := wd_
   have q102 : x4_1 < (l0.length : Int) := wd_
   obtain ⟨ad102, A102_7, c102_7, e102, hx102_0, hx102_1, hx102_2, hx102_3, hx102_4, hx102_5, hx102_6, hx102_7, hl102_7, hi102_7⟩ := at_T43 HR0.out x4_1 p102 q102
   obtain rfl : ad101 = ad102 := (by injection e102)
   have HR102_7 := A0_ hi102_7
   have HC102_7 := A0_ hl102_7
   clear hi102_7 hl102_7
   replace p102 := eq_true p102
   replace q102 := eq_true q102
   have ea_ := Option.some.inj (hx101_7.symm.trans hx102_7)
   injection ea_ with ea_ en_ ec_
   subst ea_
   subst ec_
   clear en_
   have p103 : 0 ≤ (x4_1 : Int) := wd_
   have q103 : x4_1 < (l0.length : Int) := wd_
   obtain ⟨ad103, A103_7, c103_7, e103, hx103_0, hx103_1, hx103_2, hx103_3, hx103_4, hx103_5, hx103_6, hx103_7, hl103_7, hi103_7⟩ := at_T43 HR0.out x4_1 p103 q103
   obtain rfl : ad101 = ad103 := (by injection e103)
   have HR103_7 := A0_ hi103_7
   have HC103_7 := A0_ hl103_7
   clear hi103_7 hl103_7
   replace p103 := eq_true p103
   replace q103 := eq_true q103
   have ea_ := Option.some.inj (hx101_7.symm.trans hx103_7)
   injection ea_ with ea_ en_ ec_
   subst ea_
   subst ec_
   clear en_
   go_wp2
   repeat (go_quiet (fail); try go_wp2)
   go_roundg k1
   case measure => have := HK1.out; omega
   case rel => exact ⟨(wrap64 ((wrap64 ((wrap64 (x3_1 + (((rd_T43 l0 x4_1).f4).length : Int))) + (((rd_T43 l0 x4_1).f0).size : Int))) + (((rd_T43 l0 x4_1).f1).size : Int))), (wrap64 (x4_1 + 1)), wr_, wr_, H', ⟨by have := HK1.out; omega⟩, by repeat (first | exact Drawn0.refl _ | apply Drawn0.step)⟩
end Go.Proofs.YtiijbmaamblidaaGreatDoor.Print

namespace Go.Proofs.YtiijbmaamblidaaGreatDoor.Print
open Go.RowKit Go.Proofs.YtiijbmaamblidaaGreatDoorW.PrintWords Go.Proofs.YtiijbmaamblidaaGreatDoorW.PrintLast Go.Proofs.YtiijbmaamblidaaGreatDoorW.PrintMore
attribute [local go_sem] max2_int min2_int max_two min_two max_three min_three max_four min_four   -- for this text's walks alone
set_option linter.unusedVariables false
set_option linter.unusedSimpArgs false
def flat_Flatten.f (l0 : List (S43)) : Option ((List (S43)) × Int × Int) := (tree_Fold.f l0).bind fun bt105 => (if bt105.2.1 = 0 then ((flat_Order.f l0).bind fun t111 => ((links_Members.f bt105.1 t111).bind fun bt114 => (some (bt114.1, bt114.2, 0)))) else (some (([] : List (S43)), bt105.2.1, bt105.2.2)))
set_option maxHeartbeats 8000000 in
set_option maxRecDepth 100000 in
theorem flat_Flatten.calls (A0 : Option Addr) (c0 : Nat) (l0 : List (S43)) (r1 : List (S43)) (r2 : Int) (r3 : Int) (w : World) (hT : Aside0 (Tabs w)) (hr0 : Kd.C k43 w A0 l0.length l0) (hc0 : l0.length ≤ c0) (h : flat_Flatten.f l0 = some (r1, r2, r3)) :
  Calls Tryz.prog 8 #[.slice A0 l0.length c0] w fun e w' => ∃ v0_ : Value, e = .returned (.tuple #[v0_, .agg #[.int .i64 r2, .int .i64 r3]]) ∧ Kd.V k43 43 w' w.heap.size (fun k_ => (w.heap.size ≤ k_)) v0_ r1 ∧ Below w.heap.size w w' := by
 have hu27 := Tryz.underlying27
 have HR0 := A0_ hr0
 have HC0 := A0_ hc0
 clear hr0 hc0
 have HB := A0_ (Below.refl w.heap.size w)
 have H : ((tree_Fold.f l0).bind fun bt105 => (if bt105.2.1 = 0 then ((flat_Order.f l0).bind fun t111 => ((links_Members.f bt105.1 t111).bind fun bt114 => (some (bt114.1, bt114.2, 0)))) else (some (([] : List (S43)), bt105.2.1, bt105.2.2)))) = some (r1, r2, r3) := h
 clear h
 replace H := Option.bind_eq_some_iff.mp H
 obtain ⟨⟨t105, t108, t109⟩, A20, H⟩ := H
 replace H : (if t108 = 0 then ((flat_Order.f l0).bind fun t111 => ((links_Members.f t105 t111).bind fun bt114 => (some (bt114.1, bt114.2, 0)))) else (some (([] : List (S43)), t108, t109))) = some (r1, r2, r3) := H
 have A2 := A0_ A20
 clear A20
 by_cases c3 : t108 = 0
 rotate_left
 ·rw [if_neg c3] at H
  have c3b0 : (t108 == 0) = false := beq_eq_false_iff_ne.mpr c3
  have c3b1 : (t108 != 0) = true := bne_iff_ne.mpr c3
  simp only [Option.some.injEq, Prod.mk.injEq] at H
  obtain ⟨rfl, rfl, rfl⟩ := H
  go_enter Tryz.func8, Tryz.ntmps8
  try go_wp2_with (first | ((with_reducible refine gate_dst (N := 3) rfl ?_); refine box_event ?hg (N := 3) ?hd (cs := #[.int .i64 0, .int .i64 0]) (t := 27) ?hr ?_; (case hd => rfl); (case hg => rfl); (case hr => first | (go_simp; done) | (go_simp; rfl)); intro gb104 hg w16 hbox hb; have n0_ := A0_ (below_step (wb_ HB.out) hb); have n1_ := A0_ (hbox); have n2_ := A0_ ((by rw [hg]; exact (below_size (wb_ HB.out)) : w.heap.size ≤ gb104)); have n3_ := A0_ ((by rw [hg]; exact (below_size (wb_ HB.out)) : w.heap.size ≤ gb104)); clear HB; have HB := n0_; have BK104 := n1_; have GW104 := n2_; have GE104 := n3_; clear n0_ n1_ n2_ n3_; clear hb hbox hg) | ((with_reducible refine gate_callee (f := 16) rfl ?_); refine goesL_ (some 10) rfl rfl Tryz.func16 (by kernel_rfl) rfl #[.slice A0 l0.length c0] rfl wm_ ?_; (with_reducible refine (tree_Fold.calls _ _ l0 t105 t108 t109 _ ?side1 ?side2 ?side3 A2.out).mono ?_); (case side1 => exact A0_ (Tabs.below hT.out (wb1_ HB.out GE104.out))); (case side2 => exact wc_ (Kd.C_below HR0.out HB.out)); (case side3 => exact HC0.out); rintro e w17 ⟨v106, rfl, ho0, hb⟩; refine ⟨_, rfl, ?_⟩; have n0_ := A0_ (Kd.V_lower (Kd.V_mono (ok' := fun k_ => (w.heap.size ≤ k_) ∧ k_ ≠ gb104) ho0 (fun k_ hk_ => ⟨(Nat.le_trans (below_size (wb1_ HB.out GE104.out)) hk_), (Kd.freshB (g := gb104) (o := .cells #[.int .i64 0, .int .i64 0] 27 (0, 0)) (wB_ BK104.out) k_ hk_)⟩)) (below_size (wb1_ HB.out GE104.out))); have n1_ := A0_ (blk_below (g := gb104) (o := .cells #[.int .i64 0, .int .i64 0] 27 (0, 0)) (wB_ BK104.out) hb); have n2_ := A0_ (below_step (wb1_ HB.out GE104.out) hb); clear BK104; clear HB; have HO107 := n0_; have BK104 := n1_; have HB := n2_; clear n0_ n1_ n2_; (try clear hb); (try clear hb2); (try clear hk); (try clear hi); (try clear ho0)) | ((with_reducible refine gate_dst (N := 5) rfl ?_); refine box_event ?hg (N := 5) ?hd (cs := #[.int .i64 0, .int .i64 0]) (t := 27) ?hr ?_; (case hd => rfl); (case hg => rfl); (case hr => first | (go_simp; done) | (go_simp; rfl)); intro gb110 hg w18 hbox hb; have n0_ := A0_ (Vb_ (Kd.V_elderB (wV_ HO107.out) gb110 (Nat.le_of_eq hg.symm)) hb); have n1_ := A0_ (blk_below (g := gb104) (o := .cells #[.int .i64 0, .int .i64 0] 27 (0, 0)) (wB_ BK104.out) hb); have n2_ := A0_ (below_step (wb1_ HB.out GE104.out) hb); have n3_ := A0_ (hbox); have n4_ := A0_ ((by rw [hg]; exact (below_size (wb1_ HB.out GE104.out)) : w.heap.size ≤ gb110)); have n5_ := A0_ ((by rw [hg]; exact (below_size (wb1_ HB.out GE104.out)) : w.heap.size ≤ gb110)); have n6_ := A0_ ((by rw [hg]; exact Nat.ne_of_lt (blk_lt (g := gb104) (o := .cells #[.int .i64 0, .int .i64 0] 27 (0, 0)) (wB_ BK104.out)) : gb104 ≠ gb110)); have n7_ := A0_ ((by rw [hg]; exact Nat.ne_of_gt (blk_lt (g := gb104) (o := .cells #[.int .i64 0, .int .i64 0] 27 (0, 0)) (wB_ BK104.out)) : gb110 ≠ gb104)); clear HO107; clear BK104; clear HB; have HO107 := n0_; have BK104 := n1_; have HB := n2_; have BK110 := n3_; have GW110 := n4_; have GE110 := n5_; have NB104_110 := n6_; have NB110_104 := n7_; clear n0_ n1_ n2_ n3_ n4_ n5_ n6_ n7_; clear hb hbox hg; have hnb19 := NB110_104.out; have hnc19 := NB104_110.out; have hcz20_0 : w18.cell? ⟨gb110, 0, none⟩ = some (.int .i64 0) := (bc_ BK110.out 0).trans rfl; have hcz20_1 : w18.cell? ⟨gb110, 1, none⟩ = some (.int .i64 0) := (bc_ BK110.out 1).trans rfl; have hfz20_0 := bf_ BK110.out 0; have hfz20_1 := bf_ BK110.out 1))
  have n0_ : Aside0 (Kd.V k49 49 ((w18.setCell ⟨gb110, 0, none⟩ (.int .i64 t108)).setCell ⟨gb110, 1, none⟩ (.int .i64 t109)) w.heap.size (fun k_ => (w.heap.size ≤ k_) ∧ k_ ≠ gb104 ∧ k_ ≠ gb110) v106 t105) := ⟨by (with_reducible repeat (first | apply Va_ | apply VN_ | apply V1_)); exact Kd.V_mono (Kd.V_far (p := ⟨gb110, 1, none⟩) (Kd.V_far (p := ⟨gb110, 0, none⟩) (Kd.V_mono HO107.out (fun k_ hk => (⟨hk, hk.2⟩ : _ ∧ k_ ≠ gb110))) (fun _ hk => hk.2) (.int .i64 t108)) (fun _ hk => hk.2) (.int .i64 t109)) (fun _ hk => ⟨hk.1.1.1, ⟨hk.1.1.2, hk.1.2⟩⟩)⟩
  have n1_ : Aside0 (((w18.setCell ⟨gb110, 0, none⟩ (.int .i64 t108)).setCell ⟨gb110, 1, none⟩ (.int .i64 t109)).heap[gb104]? = some (.cells #[.int .i64 0, .int .i64 0] 27 (0, 0))) := ⟨by (with_reducible repeat (first | refine blk_drewN ?_ _ | refine blk_drew ?_ | refine blk_alloc ?_ _)); refine blk_far ?_ NB104_110.out _; (with_reducible repeat (first | refine blk_drewN ?_ _ | refine blk_drew ?_ | refine blk_alloc ?_ _)); refine blk_far ?_ NB104_110.out _; (with_reducible repeat (first | refine blk_drewN ?_ _ | refine blk_drew ?_ | refine blk_alloc ?_ _)); exact BK104.out⟩
  have n2_ : Aside0 (((w18.setCell ⟨gb110, 0, none⟩ (.int .i64 t108)).setCell ⟨gb110, 1, none⟩ (.int .i64 t109)).heap[gb110]? = some (.cells #[.int .i64 t108, .int .i64 t109] 27 (0, 0))) := ⟨by (with_reducible repeat (first | refine blk_drewN ?_ _ | refine blk_drew ?_ | refine blk_alloc ?_ _)); refine blk_put (cs := #[.int .i64 t108, .int .i64 0]) ?_ 1 _ rfl; (with_reducible repeat (first | refine blk_drewN ?_ _ | refine blk_drew ?_ | refine blk_alloc ?_ _)); refine blk_put (cs := #[.int .i64 0, .int .i64 0]) ?_ 0 _ rfl; (with_reducible repeat (first | refine blk_drewN ?_ _ | refine blk_drew ?_ | refine blk_alloc ?_ _)); exact BK110.out⟩
  have n3_ : Aside0 (Below w.heap.size w ((w18.setCell ⟨gb110, 0, none⟩ (.int .i64 t108)).setCell ⟨gb110, 1, none⟩ (.int .i64 t109))) := ⟨wb2_ HB.out GE104.out GE110.out⟩
  (try clear HO107)
  (try clear BK104)
  (try clear BK110)
  (try clear HB)
  generalize ((w18.setCell ⟨gb110, 0, none⟩ (.int .i64 t108)).setCell ⟨gb110, 1, none⟩ (.int .i64 t109)) = w21 at n0_ n1_ n2_ n3_ ⊢
  have HO107 := n0_
  have BK104 := n1_
  have BK110 := n2_
  have HB := n3_
  clear n0_ n1_ n2_ n3_
  have n0_ := A0_ (V1_ HO107.out)
  have n1_ := A0_ (blk_drew BK104.out)
  have n2_ := A0_ (blk_drew BK110.out)
  have n3_ := A0_ (b1_ HB.out)
  clear HO107
  clear BK104
  clear BK110
  clear HB
  have HO107 := n0_
  have BK104 := n1_
  have BK110 := n2_
  have HB := n3_
  clear n0_ n1_ n2_ n3_
  refine start_ (n := 3) (S := fun w' => w'.cell? ⟨gb110, 0, none⟩ = some (.int .i64 t108) ∧ w'.cell? ⟨gb110, 1, none⟩ = some (.int .i64 t109)) (ds := []) #[false, false, false] (by kernel_rfl) rfl rfl ⟨(bc_ BK110.out 0).trans rfl, (bc_ BK110.out 1).trans rfl⟩ (fun hHeld => ?_)
  generalize w21.drew = w22 at HO107 BK104 BK110 HB hHeld ⊢
  refine pur_ (i := 1) (N := some 2) #[false, true, false] (by kernel_rfl) ?_
  refine tak_ (i := 0) (N := some 16) #[true, true, false] (by kernel_rfl) hHeld ?_
  refine one_ (i := 2) (N := none) #[true, true, true] rfl rfl (by kernel_rfl) (by decide) (fun K hK => ?_)
  have hs23 : w22.cell? ⟨gb104, 0, none⟩ = some (.int .i64 0) := (bc_ BK104.out 0).trans rfl
  have hfs23 := bf_ BK104.out 0
  have hns23_1 := NB110_104.out
  have hms23_1 := NB104_110.out
  have hs24 : w22.cell? ⟨gb104, 1, none⟩ = some (.int .i64 0) := (bc_ BK104.out 1).trans rfl
  have hfs24 := bf_ BK104.out 1
  have hns24_1 := NB110_104.out
  have hms24_1 := NB104_110.out
  refine skip_ (w1 := ?_) (by rfl) rfl ?_ ?_
  rotate_left
  ·go_simp
   rfl
  refine hK.out _ _ ⟨((cF_ NB110_104.out).trans (((cF_ NB110_104.out).trans (hHeld.1)))), ((cF_ NB110_104.out).trans (((cF_ NB110_104.out).trans (hHeld.2))))⟩ (fun hHeld => ?_)
  clear hK K
  refine done_ (by kernel_rfl) ?_
  try go_wp2
  refine bodyPost_ret (results_tc rfl _ _ gb104 27 #[.int .i64 t108, .int .i64 t109] (0, 0) _ rfl (by (with_reducible repeat (first | refine blk_drewN ?_ _ | refine blk_drew ?_ | refine blk_alloc ?_ _)); refine blk_put (cs := #[.int .i64 t108, .int .i64 0]) ?_ 1 _ rfl; (with_reducible repeat (first | refine blk_drewN ?_ _ | refine blk_drew ?_ | refine blk_alloc ?_ _)); refine blk_put (cs := #[.int .i64 0, .int .i64 0]) ?_ 0 _ rfl; (with_reducible repeat (first | refine blk_drewN ?_ _ | refine blk_drew ?_ | refine blk_alloc ?_ _)); exact BK104.out) Tryz.underlying27 rfl (by kernel_rfl)) rfl ?_
  exact ⟨_, we_, (Kd.V_nil _ _ _ _ _), wb2_ HB.out GE104.out GE110.out⟩
 rw [if_pos c3] at H
 have c3b0 : (t108 == 0) = true := beq_iff_eq.mpr c3
 have c3b1 : (t108 != 0) = false := bne_eq_false_iff_eq.mpr c3
 clear c3
 replace H := Option.bind_eq_some_iff.mp H
 obtain ⟨t111, A40, H⟩ := H
 replace H : ((links_Members.f t105 t111).bind fun bt114 => (some (bt114.1, bt114.2, 0))) = some (r1, r2, r3) := H
 have A4 := A0_ A40
 clear A40
 replace H := Option.bind_eq_some_iff.mp H
 obtain ⟨⟨t114, t117⟩, A50, H⟩ := H
 replace H : (some (t114, t117, 0)) = some (r1, r2, r3) := H
 have A5 := A0_ A50
 clear A50
 simp only [Option.some.injEq, Prod.mk.injEq] at H
 obtain ⟨rfl, rfl, rfl⟩ := H
 go_enter Tryz.func8, Tryz.ntmps8
 go_wp2_with (first | ((with_reducible refine gate_dst (N := 3) rfl ?_); refine box_event ?hg (N := 3) ?hd (cs := #[.int .i64 0, .int .i64 0]) (t := 27) ?hr ?_; (case hd => rfl); (case hg => rfl); (case hr => first | (go_simp; done) | (go_simp; rfl)); intro gb104 hg w6 hbox hb; have n0_ := A0_ (below_step (wb_ HB.out) hb); have n1_ := A0_ (hbox); have n2_ := A0_ ((by rw [hg]; exact (below_size (wb_ HB.out)) : w.heap.size ≤ gb104)); have n3_ := A0_ ((by rw [hg]; exact (below_size (wb_ HB.out)) : w.heap.size ≤ gb104)); clear HB; have HB := n0_; have BK104 := n1_; have GW104 := n2_; have GE104 := n3_; clear n0_ n1_ n2_ n3_; clear hb hbox hg) | ((with_reducible refine gate_callee (f := 16) rfl ?_); refine goesL_ (some 10) rfl rfl Tryz.func16 (by kernel_rfl) rfl #[.slice A0 l0.length c0] rfl wm_ ?_; (with_reducible refine (tree_Fold.calls _ _ l0 t105 t108 t109 _ ?side1 ?side2 ?side3 A2.out).mono ?_); (case side1 => exact A0_ (Tabs.below hT.out (wb1_ HB.out GE104.out))); (case side2 => exact wc_ (Kd.C_below HR0.out HB.out)); (case side3 => exact HC0.out); rintro e w7 ⟨v106, rfl, ho0, hb⟩; refine ⟨_, rfl, ?_⟩; have n0_ := A0_ (Kd.V_lower (Kd.V_mono (ok' := fun k_ => (w.heap.size ≤ k_) ∧ k_ ≠ gb104) ho0 (fun k_ hk_ => ⟨(Nat.le_trans (below_size (wb1_ HB.out GE104.out)) hk_), (Kd.freshB (g := gb104) (o := .cells #[.int .i64 0, .int .i64 0] 27 (0, 0)) (wB_ BK104.out) k_ hk_)⟩)) (below_size (wb1_ HB.out GE104.out))); have n1_ := A0_ (blk_below (g := gb104) (o := .cells #[.int .i64 0, .int .i64 0] 27 (0, 0)) (wB_ BK104.out) hb); have n2_ := A0_ (below_step (wb1_ HB.out GE104.out) hb); clear BK104; clear HB; have HO107 := n0_; have BK104 := n1_; have HB := n2_; clear n0_ n1_ n2_; (try clear hb); (try clear hb2); (try clear hk); (try clear hi); (try clear ho0)) | ((with_reducible refine gate_dst (N := 5) rfl ?_); refine box_event ?hg (N := 5) ?hd (cs := #[.int .i64 0, .int .i64 0]) (t := 27) ?hr ?_; (case hd => rfl); (case hg => rfl); (case hr => first | (go_simp; done) | (go_simp; rfl)); intro gb110 hg w8 hbox hb; have n0_ := A0_ (Vb_ (Kd.V_elderB (wV_ HO107.out) gb110 (Nat.le_of_eq hg.symm)) hb); have n1_ := A0_ (blk_below (g := gb104) (o := .cells #[.int .i64 0, .int .i64 0] 27 (0, 0)) (wB_ BK104.out) hb); have n2_ := A0_ (below_step (wb1_ HB.out GE104.out) hb); have n3_ := A0_ (hbox); have n4_ := A0_ ((by rw [hg]; exact (below_size (wb1_ HB.out GE104.out)) : w.heap.size ≤ gb110)); have n5_ := A0_ ((by rw [hg]; exact (below_size (wb1_ HB.out GE104.out)) : w.heap.size ≤ gb110)); have n6_ := A0_ ((by rw [hg]; exact Nat.ne_of_lt (blk_lt (g := gb104) (o := .cells #[.int .i64 0, .int .i64 0] 27 (0, 0)) (wB_ BK104.out)) : gb104 ≠ gb110)); have n7_ := A0_ ((by rw [hg]; exact Nat.ne_of_gt (blk_lt (g := gb104) (o := .cells #[.int .i64 0, .int .i64 0] 27 (0, 0)) (wB_ BK104.out)) : gb110 ≠ gb104)); clear HO107; clear BK104; clear HB; have HO107 := n0_; have BK104 := n1_; have HB := n2_; have BK110 := n3_; have GW110 := n4_; have GE110 := n5_; have NB104_110 := n6_; have NB110_104 := n7_; clear n0_ n1_ n2_ n3_ n4_ n5_ n6_ n7_; clear hb hbox hg; have hnb9 := NB110_104.out; have hnc9 := NB104_110.out; have hcz10_0 : w8.cell? ⟨gb110, 0, none⟩ = some (.int .i64 0) := (bc_ BK110.out 0).trans rfl; have hcz10_1 : w8.cell? ⟨gb110, 1, none⟩ = some (.int .i64 0) := (bc_ BK110.out 1).trans rfl; have hfz10_0 := bf_ BK110.out 0; have hfz10_1 := bf_ BK110.out 1) | ((with_reducible refine gate_callee (f := 15) rfl ?_); refine goesL_ (some 20) rfl rfl Tryz.func15 (by kernel_rfl) rfl #[.slice A0 l0.length c0] rfl wm_ ?_; (with_reducible refine (flat_Order.calls _ _ l0 t111 _ ?side1 ?side2 A4.out).mono ?_); (case side1 => exact Kd.C_below HR0.out (wb2_ HB.out GE104.out GE110.out)); (case side2 => exact HC0.out); rintro e w11 ⟨v112, rfl, ho0, hb⟩; refine ⟨_, rfl, ?_⟩; have n0_ := A0_ (Kd.V_elder' (by (with_reducible repeat (first | apply Va_ | apply VN_ | apply V1_)); exact (Kd.V_mono (Kd.V_far (p := ⟨gb110, 1, none⟩) (Kd.V_far (p := ⟨gb110, 0, none⟩) (Kd.V_mono HO107.out (fun k_ hk => (⟨hk, hk.2⟩ : _ ∧ k_ ≠ gb110))) (fun _ hk => hk.2) (.int .i64 t108)) (fun _ hk => hk.2) (.int .i64 t109)) (fun _ h_ => h_.1))) (Kd.R_base ho0) hb); have n1_ := A0_ (Kd.R_lower (Kd.R_newM (M := fun k_ => (w.heap.size ≤ k_)) ho0 (below_size (wb2_ HB.out GE104.out GE110.out)) (fun k_ h_ => h_)) (below_size (wb2_ HB.out GE104.out GE110.out))); have n2_ := A0_ (blk_below (g := gb104) (o := .cells #[.int .i64 0, .int .i64 0] 27 (0, 0)) (by (with_reducible repeat (first | refine blk_drewN ?_ _ | refine blk_drew ?_ | refine blk_alloc ?_ _)); refine blk_far ?_ NB104_110.out _; (with_reducible repeat (first | refine blk_drewN ?_ _ | refine blk_drew ?_ | refine blk_alloc ?_ _)); refine blk_far ?_ NB104_110.out _; (with_reducible repeat (first | refine blk_drewN ?_ _ | refine blk_drew ?_ | refine blk_alloc ?_ _)); exact BK104.out) hb); have n3_ := A0_ (blk_below (g := gb110) (o := .cells #[.int .i64 t108, .int .i64 t109] 27 (0, 0)) (by (with_reducible repeat (first | refine blk_drewN ?_ _ | refine blk_drew ?_ | refine blk_alloc ?_ _)); refine blk_put (cs := #[.int .i64 t108, .int .i64 0]) ?_ 1 _ rfl; (with_reducible repeat (first | refine blk_drewN ?_ _ | refine blk_drew ?_ | refine blk_alloc ?_ _)); refine blk_put (cs := #[.int .i64 0, .int .i64 0]) ?_ 0 _ rfl; (with_reducible repeat (first | refine blk_drewN ?_ _ | refine blk_drew ?_ | refine blk_alloc ?_ _)); exact BK110.out) hb); have n4_ := A0_ (below_step (wb2_ HB.out GE104.out GE110.out) hb); clear HO107; clear BK104; clear BK110; clear HB; have HO107 := n0_; have HO113 := n1_; have BK104 := n2_; have BK110 := n3_; have HB := n4_; clear n0_ n1_ n2_ n3_ n4_; (try clear hb); (try clear hb2); (try clear hk); (try clear hi); (try clear ho0); obtain ⟨Ao12, co12, eo12⟩ := Kd.V_slice HO107.out; subst eo12; obtain ⟨Ao13, co13, eo13⟩ := Kd.R_slice HO113.out; subst eo13) | ((with_reducible refine gate_callee (f := 17) rfl ?_); refine goesL_ (some 21) rfl rfl Tryz.func17 (by kernel_rfl) rfl #[.slice Ao12 t105.length co12, .slice Ao13 t111.length co13] rfl wm_ ?_; (with_reducible refine (links_Members.calls _ _ t105 _ _ t111 t114 t117 _ ?side1 ?side2 ?side3 ?side4 A5.out).mono ?_); (case side1 => exact wc_ (Kd.V_reads' HO107.out).2.2); (case side2 => exact (Kd.V_reads' HO107.out).2.1); (case side3 => exact wc_ (Kd.R_reads' HO113.out).2.2); (case side4 => exact (Kd.R_reads' HO113.out).2.1); rintro e w14 ⟨v115, rfl, ho0, hb⟩; refine ⟨_, rfl, ?_⟩; have n0_ := A0_ (Vb_ (wV_ HO107.out) hb); have n1_ := A0_ (Rb_ (wR_ HO113.out) hb); have n2_ := A0_ (Kd.V_lower (Kd.V_mono (ok' := fun k_ => (w.heap.size ≤ k_) ∧ some k_ ≠ (.slice Ao13 t111.length co13 : Value).ownBlock ∧ k_ ≠ gb104 ∧ k_ ≠ gb110) ho0 (fun k_ hk_ => ⟨(Nat.le_trans (below_size (wb2_ HB.out GE104.out GE110.out)) hk_), (Kd.fresh' (Kd.R_lt (wR_ HO113.out)) k_ hk_), (Kd.freshB (g := gb104) (o := .cells #[.int .i64 0, .int .i64 0] 27 (0, 0)) (wB_ BK104.out) k_ hk_), (Kd.freshB (g := gb110) (o := .cells #[.int .i64 t108, .int .i64 t109] 27 (0, 0)) (wB_ BK110.out) k_ hk_)⟩)) (below_size (wb2_ HB.out GE104.out GE110.out))); have n3_ := A0_ (blk_below (g := gb104) (o := .cells #[.int .i64 0, .int .i64 0] 27 (0, 0)) (wB_ BK104.out) hb); have n4_ := A0_ (blk_below (g := gb110) (o := .cells #[.int .i64 t108, .int .i64 t109] 27 (0, 0)) (wB_ BK110.out) hb); have n5_ := A0_ (below_step (wb2_ HB.out GE104.out GE110.out) hb); clear HO107; clear HO113; clear BK104; clear BK110; clear HB; have HO107 := n0_; have HO113 := n1_; have HO116 := n2_; have BK104 := n3_; have BK110 := n4_; have HB := n5_; clear n0_ n1_ n2_ n3_ n4_ n5_; (try clear hb); (try clear hb2); (try clear hk); (try clear hi); (try clear ho0); have hcz15_0 : w14.cell? ⟨gb104, 0, none⟩ = some (.int .i64 0) := (bc_ BK104.out 0).trans rfl; have hcz15_1 : w14.cell? ⟨gb104, 1, none⟩ = some (.int .i64 0) := (bc_ BK104.out 1).trans rfl; have hfz15_0 := bf_ BK104.out 0; have hfz15_1 := bf_ BK104.out 1))
 refine bodyPost_ret (results_tc rfl _ _ gb104 27 #[.int .i64 t117, .int .i64 0] (0, 0) _ rfl (by (with_reducible repeat (first | refine blk_drewN ?_ _ | refine blk_drew ?_ | refine blk_alloc ?_ _)); refine blk_put (cs := #[.int .i64 t117, .int .i64 0]) ?_ 1 _ rfl; (with_reducible repeat (first | refine blk_drewN ?_ _ | refine blk_drew ?_ | refine blk_alloc ?_ _)); refine blk_put (cs := #[.int .i64 0, .int .i64 0]) ?_ 0 _ rfl; (with_reducible repeat (first | refine blk_drewN ?_ _ | refine blk_drew ?_ | refine blk_alloc ?_ _)); exact BK104.out) Tryz.underlying27 rfl (by kernel_rfl)) rfl ?_
 exact ⟨_, we_, by (with_reducible repeat (first | apply Va_ | apply VN_ | apply V1_)); exact Kd.V_mono (Kd.V_far (p := ⟨gb104, 1, none⟩) (Kd.V_far (p := ⟨gb104, 0, none⟩) (Kd.V_mono HO116.out (fun k_ hk => (⟨hk, hk.2.2.1⟩ : _ ∧ k_ ≠ gb104))) (fun _ hk => hk.2) (.int .i64 t117)) (fun _ hk => hk.2) (.int .i64 0)) (fun _ hk => hk.1.1), wb2_ HB.out GE104.out GE110.out⟩
end Go.Proofs.YtiijbmaamblidaaGreatDoor.Print

namespace Go.Proofs.YtiijbmaamblidaaGreatDoor
open Go.RowKit Go.Proofs.YtiijbmaamblidaaGreatDoor.Print Go.Proofs.YtiijbmaamblidaaGreatDoorW.PrintWords
set_option linter.unusedVariables false
theorem rdM_n (l : List Mem) (j : Nat) (h : j < l.length) : rd_T43 l (j : Int) = l[j] := by rw [rdM_at l j (by omega) (by omega)]; simp
def sizeM (m : Mem) : Nat := m.f4.length + m.f0.size + m.f1.size
def sumTo (l : List Mem) (i : Nat) : Nat := ((l.take i).map sizeM).sum
theorem sumTo_succ {l : List Mem} {i : Nat} (h : i < l.length) : sumTo l (i + 1) = sumTo l i + sizeM l[i] := by
 unfold sumTo
 rw [List.take_succ_eq_append_getElem h, List.map_append, List.sum_append]
 simp
theorem sumTo_le {l : List Mem} {i j : Nat} (h : i ≤ j) (hj : j ≤ l.length) : sumTo l i ≤ sumTo l j := by
 induction j with
 | zero =>
  obtain rfl : i = 0 := (by omega)
  exact Nat.le_refl _
 | succ j ih =>
  rcases Nat.lt_or_ge i (j + 1) with h1 | h1
  ·have := ih (by omega) (by omega)
   rw [sumTo_succ (by omega)]
   omega
  ·obtain rfl : i = j + 1 := by omega
   exact Nat.le_refl _
theorem light18_no (l : List Mem) (h60 : ¬ l.length ≤ 60) (hlen : l.length ≤ 140737488351232) : ∀ (d i : Nat) (s : Int), i + d = l.length → Ev (fun k => bindlelaw18_light.l0 k l s (i : Int)) false := by
 intro d
 induction d with
 | zero =>
  intro i s hi
  exact Ev.step (f := fun _ => some false) (fun k => by rw [bindlelaw18_light.l0, if_neg (by omega), if_neg (by omega)]) (Ev.now _)
 | succ d ih =>
  intro i s hi
  refine Ev.step (fun k => ?_) (ih (i + 1) (wrap64 ((wrap64 ((wrap64 (s + (((rd_T43 l (i : Int)).f4).length : Int))) + (((rd_T43 l (i : Int)).f0).size : Int))) + (((rd_T43 l (i : Int)).f1).size : Int))) (by omega))
  rw [bindlelaw18_light.l0, if_pos (by omega), if_pos (by omega), show wrap64 ((i : Int) + 1) = ((i + 1 : Nat) : Int) by unfold wrap64; omega]
theorem w_plus {a b : Nat} (h : a + b ≤ 4611686018427387904) : wrap64 ((a : Int) + (b : Int)) = ((a + b : Nat) : Int) := by unfold wrap64; omega
theorem light18_yes (l : List Mem) (h60 : l.length ≤ 60) (hz : ∀ x ∈ l, MemR x) : ∀ (d i : Nat), i + d = l.length → sumTo l i ≤ i * 600000000000000 → Ev (fun k => bindlelaw18_light.l0 k l (sumTo l i : Int) (i : Int)) (decide (sumTo l l.length ≤ 200000)) := by
 intro d
 induction d with
 | zero =>
  intro i hi hs
  obtain rfl : i = l.length := by omega
  refine Ev.step (f := fun _ => some (decide (sumTo l l.length ≤ 200000))) (fun k => ?_) (Ev.now _)
  rw [bindlelaw18_light.l0, if_neg (by omega), if_pos (by omega)]
  congr 1
  rw [decide_eq_decide]
  omega
 | succ d ih =>
  intro i hi hs
  have hil : i < l.length := by omega
  obtain ⟨z0, z1, z2⟩ := hz l[i] (List.getElem_mem hil)
  have hsz : sizeM l[i] = l[i].f4.length + l[i].f0.size + l[i].f1.size := rfl
  have h1 := sumTo_succ hil
  have hs' : sumTo l (i + 1) ≤ (i + 1) * 600000000000000 := by omega
  refine Ev.step (fun k => ?_) (ih (i + 1) (by omega) hs')
  rw [bindlelaw18_light.l0, if_pos (by omega), if_pos (by omega), rdM_n l i hil]
  rw [show wrap64 ((i : Int) + 1) = ((i + 1 : Nat) : Int) by unfold wrap64; omega]
  rw [w_plus (by omega), w_plus (by omega), w_plus (by omega), show sumTo l i + l[i].f4.length + l[i].f0.size + l[i].f1.size = sumTo l (i + 1) by omega]
theorem light18_eq (l : List Mem) (hz : ∀ x ∈ l, MemR x) (hlen : l.length ≤ 140737488351232) : ∃ b, Ev (fun k => bindlelaw18_light.f k l) b ∧ (b = true → l.length ≤ 60 ∧ MemsZ l ∧ sumTo l l.length ≤ 200000) := by
 by_cases h60 : l.length ≤ 60
 ·refine ⟨_, light18_yes l h60 hz l.length 0 (by omega) (by unfold sumTo; simp), fun h => ?_⟩
  have h := of_decide_eq_true h
  refine ⟨h60, ⟨by omega, fun x hx => ?_⟩, h⟩
  obtain ⟨i, hi, rfl⟩ := List.getElem_of_mem hx
  have h1 := sumTo_succ hi
  have h2 := sumTo_le (l := l) (i := i + 1) (j := l.length) (by omega) (Nat.le_refl _)
  have hsz : sizeM l[i] = l[i].f4.length + l[i].f0.size + l[i].f1.size := rfl
  exact ⟨by omega, by omega, by omega⟩
 ·exact ⟨false, light18_no l h60 hlen l.length 0 0 (by omega), fun h => by cases h⟩
theorem flatten_f {l : List Mem} (hz : MemsZ l) (h4 : l.length ≤ 4096) : flat_Flatten.f l = some (flatF l) := by
 unfold flat_Flatten.f tree_Fold.f flat_Order.f
 rw [if_pos ((memsZ_iff l).2 hz), Option.bind_some]
 by_cases h0 : (foldF l).2.1 = 0
 ·have H := flat_ok hz h4 h0
  rw [if_pos h0, if_pos ((memsZ_iff l).2 hz), Option.bind_some]
  unfold links_Members.f
  rw [if_pos ⟨(good_parts H.good).1, (nodesZ_iff _).2 H.nodes.1⟩, Option.bind_some, H.is, H.zero]
 ·rw [if_neg h0, flat_bad h0]
end Go.Proofs.YtiijbmaamblidaaGreatDoor

namespace Go.Proofs.YtiijbmaamblidaaGreatDoor
open Go.RowKit Go.Proofs.YtiijbmaamblidaaGreatDoor.Print Go.Proofs.YtiijbmaamblidaaGreatDoorW.PrintWords
set_option linter.unusedVariables false
theorem stepF_app {l r : List Mem} {s : PS} {i : Nat} (hI : FInv l i s) (hi : i < l.length) : stepF (l ++ r) s i = stepF l s i := by
 rw [stepF_eq _ _ _ (by rw [List.length_append]; omega), stepF_eq _ _ _ hi, List.getElem_append_left hi]
 split
 ·cases h : atD s l[i].f1.data.toList with
  | none => rfl
  | some c =>
   dsimp only
   obtain ⟨q, hq, _, h2⟩ := atD_mem h
   have hc : c < l.length := by have := (hI.cls q hq).1; omega
   rw [List.getElem?_append_left hc]
 ·rfl
theorem stepsF_app {l r : List Mem} (hg : l.findIdx? (fun m => !goodM m) = none) (hz : MemsZ l) (i : Nat) : i ≤ l.length → stepsF (l ++ r) i = stepsF l i := by
 induction i with
 | zero => intro _; rfl
 | succ i ih =>
  intro hi
  rw [stepsF, stepsF, ih (by omega)]
  cases h : stepsF l i with
  | none => rfl
  | some s =>
   dsimp only
   exact stepF_app (finv_of hg hz i s h (by omega)) (by omega)
theorem good_app {l r : List Mem} : (l ++ r).findIdx? (fun m => !goodM m) = none ↔ l.findIdx? (fun m => !goodM m) = none ∧ r.findIdx? (fun m => !goodM m) = none := by
 simp only [List.findIdx?_eq_none_iff]
 exact ⟨fun h => ⟨fun x hx => h x (List.mem_append.2 (.inl hx)), fun x hx => h x (List.mem_append.2 (.inr hx))⟩, fun h x hx => (List.mem_append.1 hx).elim (h.1 x) (h.2 x)⟩
theorem memsZ_left {l r : List Mem} (h : MemsZ (l ++ r)) : MemsZ l := ⟨by have := h.1; rw [List.length_append] at this; omega, fun x hx => h.2 x (List.mem_append.2 (.inl hx))⟩
theorem fold_bad_app {a b : List Mem} (hz : MemsZ (a ++ b)) (h : ¬ (foldF a).2.1 = 0) : ¬ (foldF (a ++ b)).2.1 = 0 := by
 intro h0
 obtain ⟨hg, s, hs, _, _⟩ := fold_ok hz h0
 have hga := (good_app.1 hg).1
 apply h
 obtain ⟨t, ht⟩ := stepsF_le (i := a.length) hs (by rw [List.length_append]; omega)
 rw [stepsF_app hga (memsZ_left hz) _ (Nat.le_refl _)] at ht
 rw [foldF_end hga ht]
theorem lead_inj {sp : PS} (h : RiseP sp) {q r : ByteArray × Nat} (hq : q ∈ sp) (hr : r ∈ sp) (e : leadOf sp q.2 = leadOf sp r.2) : q.2 = r.2 := by
 obtain ⟨a, ha, ha2, hal, _⟩ := lead_first h hq
 obtain ⟨b, hb, hb2, hbl, _⟩ := lead_first h hr
 have hn := rise_nodup h
 have h1 := atD_of_mem hn ha
 have h2 := atD_of_mem hn hb
 rw [← hal, e, hbl, h2] at h1
 injection h1 with h1
 rw [← ha2, ← hb2, h1]
theorem side_run {l1 l2 : List Mem} {n1 n2 : Nat} {z : ZS} (h : Side l1 l2 n1 n2 z) (h1 : stepsF l1 n1 = some (z1 z)) (h2 : stepsF l2 n2 = some (z2 z)) {b : List Mem} (e1 : l1.drop n1 = b) (e2 : l2.drop n2 = b) (hn1 : n1 ≤ l1.length) (hn2 : n2 ≤ l2.length) :
  ∀ i, i ≤ b.length → (stepsF l1 (n1 + i) = none ∧ stepsF l2 (n2 + i) = none) ∨ ∃ z', stepsF l1 (n1 + i) = some (z1 z') ∧ stepsF l2 (n2 + i) = some (z2 z') ∧ Side l1 l2 (n1 + i) (n2 + i) z' := by
 have b1 : b.length = l1.length - n1 := by rw [← e1, List.length_drop]
 have b2 : b.length = l2.length - n2 := by rw [← e2, List.length_drop]
 intro i
 induction i with
 | zero => intro _; exact .inr ⟨z, h1, h2, h⟩
 | succ i ih =>
  intro hi
  rcases ih (by omega) with ⟨k1, k2⟩ | ⟨z', k1, k2, hs⟩
  ·refine .inl ⟨?_, ?_⟩
   ·show stepsF l1 (n1 + i + 1) = none; rw [stepsF, k1]
   ·show stepsF l2 (n2 + i + 1) = none; rw [stepsF, k2]
  ·have g1 : l1[n1 + i]'(by omega) = b[i]'(by omega) := by
    have : (l1.drop n1)[i]'(by rw [e1]; omega) = b[i]'(by omega) := by congr 1
    rw [List.getElem_drop] at this
    exact this
   have g2 : l2[n2 + i]'(by omega) = b[i]'(by omega) := by
    have : (l2.drop n2)[i]'(by rw [e2]; omega) = b[i]'(by omega) := by congr 1
    rw [List.getElem_drop] at this
    exact this
   rcases side_step hs (by omega) (by omega) (g1.trans g2.symm) with ⟨m1, m2⟩ | ⟨z2', m1, m2, hs2⟩
   ·refine .inl ⟨?_, ?_⟩
    ·show stepsF l1 (n1 + i + 1) = none; rw [stepsF_succ k1, m1]
    ·show stepsF l2 (n2 + i + 1) = none; rw [stepsF_succ k2, m2]
   ·refine .inr ⟨z2', ?_, ?_, hs2⟩
    ·show stepsF l1 (n1 + i + 1) = _; rw [stepsF_succ k1, m1]
    ·show stepsF l2 (n2 + i + 1) = _; rw [stepsF_succ k2, m2]
theorem flat_more {a b : List Mem} (hz : MemsZ (a ++ b)) (h4 : (a ++ b).length ≤ 4096) (hab : (foldF (a ++ b)).2.1 = 0) : (foldF ((flatF a).1 ++ b)).2.1 = 0 ∧ sameB (foldF (a ++ b)).1 (foldF ((flatF a).1 ++ b)).1 = true := by
 have ha : (foldF a).2.1 = 0 := Decidable.byContradiction fun h => fold_bad_app hz h hab
 have hza := memsZ_left hz
 have h4a : a.length ≤ 4096 := by rw [List.length_append] at h4; omega
 have H := flat_ok hza h4a ha
 obtain ⟨hgab, sab, hsab, hIab, hfab⟩ := fold_ok hz hab
 obtain ⟨hga, s, hs, hI, hfa⟩ := fold_ok hza ha
 have hq := order_steps a.length s hs (Nat.le_refl _)
 rw [List.take_length] at hq
 obtain ⟨hr, hgm, _, hled⟩ := good_parts H.good
 have hpm := order_paths hza ha
 have hqn := order_nodup a
 have hsx := H.sound
 have hxz := H.z
 generalize hqe : orderF a = q at hq hpm hqn
 have hql : q.length = (foldF a).1.length := by rw [hpm.length_eq, List.length_map]
 have hRp := sortP_rise hI.nodup
 have hsq : ∀ (j : Nat) (hj : j < q.length), ∃ hj2 : j < s.length, s[j].1 = q[j] := fun j hj => by
  subst hq
  rw [List.length_map] at hj
  exact ⟨hj, by rw [List.getElem_map]⟩
 have hsl : s.length = q.length := by rw [← hq, List.length_map]
 have hfs : ∀ (j : Nat) (hj : j < s.length), findF (foldF a).1 s[j].1 = some (nodeOf a (sortP s) s[j]) := fun j hj => by
  rw [hfa]
  exact find_map (rise_nodup hRp) ((sortP_perm s).mem_iff.2 (List.getElem_mem hj))
 obtain ⟨xs, hxs⟩ : ∃ xs : List Node, xs = s.map (fun t => nodeOf a (sortP s) t) := ⟨_, rfl⟩
 have hxl : xs.length = s.length := by rw [hxs, List.length_map]
 have hgx : ∀ (j : Nat) (hj : j < s.length), gx xs j = nodeOf a (sortP s) s[j] := fun j hj => by
  rw [gx_at (by omega)]
  subst hxs
  rw [List.getElem_map]
 have hf : ∀ (i : Nat) (h : i < q.length), findF (foldF a).1 q[i] = some (gx xs i) := by
  intro i h
  obtain ⟨h1, h2⟩ := hsq i h
  rw [← h2, hgx i h1]
  exact hfs i h1
 have hM := membersF_is hql hf hqn
 have hx : (flatF a).1 = (List.range q.length).map (memAt xs) := by
  rw [H.is, hqe]
  dsimp only
  rw [hM]
 have hgp : ∀ i, i < q.length → ∃ h : i < q.length, (gx xs i).f0 = q[i] := fun i hi => ⟨hi, (findF_mem (hf i hi)).2⟩
 have hd : ∀ i j, i < q.length → j < q.length → (gx xs i).f0 = (gx xs j).f0 → i = j := by
  intro i j hi hj e
  obtain ⟨_, h1⟩ := hgp i hi
  obtain ⟨_, h2⟩ := hgp j hj
  rw [h1, h2] at e
  exact nodup_at hqn hi hj e
 have h49 : ∀ i, i < q.length → ¬ (gx xs i).f3 = 49 := fun i hi => (hgm _ (findF_mem (hf i hi)).1).1
 have hstx := steps_mems hd h49 q.length (Nat.le_refl _)
 rw [← hx] at hstx
 have hxlen : (flatF a).1.length = q.length := by rw [hx, List.length_map, List.length_range]
 have hgx0 : (flatF a).1.findIdx? (fun m => !goodM m) = none := by
  rw [List.findIdx?_eq_none_iff]
  intro m hm
  obtain ⟨i, hi, rfl⟩ := List.getElem_of_mem hm
  rw [(sound_at hsx i hi).2.1]
  rfl
 -- one class
 have hK : ∀ (j : Nat) (hj : j < s.length) (hc : clsAt xs j < s.length), s[clsAt xs j].2 = s[j].2 := by
  intro j hj hc
  by_cases h48 : (gx xs j).f3 = 48
  ·obtain ⟨c1, c2⟩ := cls_one h48
   have e1 : (gx xs j).f2 = leadOf (sortP s) s[j].2 := by
    rw [hgx j hj] at h48 ⊢
    unfold nodeOf at h48 ⊢
    dsimp only at h48 ⊢
    rw [if_pos h48]
   have e2 : (gx xs (clsAt xs j)).f2 = leadOf (sortP s) s[clsAt xs j].2 := by
    rw [hgx _ hc] at c1 ⊢
    unfold nodeOf at c1 ⊢
    dsimp only at c1 ⊢
    rw [if_pos c1]
   exact lead_inj hRp ((sortP_perm s).mem_iff.2 (List.getElem_mem hc)) ((sortP_perm s).mem_iff.2 (List.getElem_mem hj)) (by rw [← e1, ← e2, c2])
  ·have := cls_plain h48
   congr 2
 obtain ⟨z, hzz⟩ : ∃ z : ZS, z = (List.range q.length).map (fun j => (q.getD j emp, (s.getD j (emp, 0)).2, clsAt xs j)) := ⟨_, rfl⟩
 have hsg : ∀ (j : Nat) (hj : j < s.length), s.getD j (emp, 0) = s[j] := fun j hj => by rw [List.getD_eq_getElem?_getD, List.getElem?_eq_getElem hj]; rfl
 have hqg : ∀ (j : Nat) (hj : j < q.length), q.getD j emp = q[j] := fun j hj => by rw [List.getD_eq_getElem?_getD, List.getElem?_eq_getElem hj]; rfl
 have hz1 : z1 z = s := by
  unfold z1
  rw [hzz, List.map_map]
  apply List.ext_getElem
  ·simp [hsl]
  ·intro j h1 h2
   rw [List.getElem_map, List.getElem_range]
   have hjq : j < q.length := by omega
   obtain ⟨_, h3⟩ := hsq j hjq
   show (q.getD j emp, (s.getD j (emp, 0)).2) = s[j]
   rw [hsg j h2, hqg j hjq, ← h3]
 have hz2 : z2 z = (List.range q.length).map (nameAt xs) := by
  unfold z2
  rw [hzz, List.map_map]
  refine List.map_congr_left (fun j hj => ?_)
  rw [List.mem_range] at hj
  show (q.getD j emp, clsAt xs j) = nameAt xs j
  unfold nameAt
  obtain ⟨_, h3⟩ := hgp j hj
  rw [hqg j hj, ← h3]
 have hdat1 : ∀ (j : Nat) (hj : j < s.length), (a ++ b).getD s[j].2 zM = a.getD s[j].2 zM := fun j hj => by
  have h1 := (hI.cls s[j] (List.getElem_mem hj)).1
  rw [List.getD_eq_getElem?_getD, List.getD_eq_getElem?_getD, List.getElem?_append_left h1]
 have hdat2 : ∀ (j : Nat) (hj : j < q.length), ((flatF a).1 ++ b).getD (clsAt xs j) zM = ⟨(gx xs (clsAt xs j)).f0, (gx xs (clsAt xs j)).f1, (gx xs (clsAt xs j)).f3, (gx xs (clsAt xs j)).f4, (gx xs (clsAt xs j)).f5⟩ := fun j hj => by
  have hc := cls_le xs j
  rw [List.getD_eq_getElem?_getD, List.getElem?_append_left (by omega), hx, List.getElem?_map, List.getElem?_range (by omega)]
  show memAt xs (clsAt xs j) = _
  unfold memAt
  rw [cls_first]
 have hmz : ∀ t ∈ z, ∃ (j : Nat) (hj : j < s.length), t = (q.getD j emp, s[j].2, clsAt xs j) := fun t ht => by
  rw [hzz] at ht
  obtain ⟨j, hj, rfl⟩ := List.mem_map.1 ht
  rw [List.mem_range] at hj
  exact ⟨j, by omega, by rw [hsg j (by omega)]⟩
 have hside : Side (a ++ b) ((flatF a).1 ++ b) a.length (flatF a).1.length z := by
  refine ⟨fun t ht => ?_, fun t ht => ?_, fun t ht u hu e1 e2 => ?_⟩
  ·obtain ⟨j, hj, rfl⟩ := hmz t ht
   have h1 := (hI.cls s[j] (List.getElem_mem hj)).1
   have h2 := cls_le xs j
   exact ⟨h1, by show clsAt xs j < _; omega⟩
  ·obtain ⟨j, hj, rfl⟩ := hmz t ht
   dsimp only
   have hc := cls_le xs j
   rw [hdat1 j hj, hdat2 j (by omega), hgx (clsAt xs j) (by omega)]
   unfold nodeOf
   dsimp only
   rw [hK j hj (by omega)]
   exact SameD.refl _ |> fun h => ⟨h.f1, h.f2, h.f3, h.f4⟩
  ·obtain ⟨j, hj, rfl⟩ := hmz t ht
   obtain ⟨k, hk, rfl⟩ := hmz u hu
   dsimp only at e1 e2 ⊢
   have hcj := cls_le xs j
   have hck := cls_le xs k
   rw [hdat1 j hj] at e1
   rw [hdat1 k hk] at e2
   have n1 : (gx xs j).f3 = 48 ∧ (gx xs j).f2 = leadOf (sortP s) s[j].2 := by
    rw [hgx j hj]
    unfold nodeOf
    dsimp only
    rw [if_pos e1]
    exact ⟨e1, rfl⟩
   have n2 : (gx xs k).f3 = 48 ∧ (gx xs k).f2 = leadOf (sortP s) s[k].2 := by
    rw [hgx k hk]
    unfold nodeOf
    dsimp only
    rw [if_pos e2]
    exact ⟨e2, rfl⟩
   constructor
   ·intro e
    exact cls_same n1.1 n2.1 (by rw [n1.2, n2.2, e])
   ·intro e
    rw [← hK j hj (by omega), ← hK k hk (by omega)]
    congr 2
 have hr1 : stepsF (a ++ b) a.length = some (z1 z) := by rw [stepsF_app hga hza _ (Nat.le_refl _), hs, hz1]
 have hr2 : stepsF ((flatF a).1 ++ b) (flatF a).1.length = some (z2 z) := by rw [stepsF_app hgx0 hxz _ (Nat.le_refl _), hxlen, hstx, hz2]
 have hrun := side_run hside hr1 hr2 (b := b) (by simp) (by simp) (by simp) (by simp) b.length (Nat.le_refl _)
 rw [← List.length_append, ← List.length_append] at hrun
 rw [hsab] at hrun
 rcases hrun with ⟨h1, _⟩ | ⟨z', k1, k2, hs'⟩
 ·cases h1
 ·have hgx2 : ((flatF a).1 ++ b).findIdx? (fun m => !goodM m) = none := good_app.2 ⟨hgx0, (good_app.1 hgab).2⟩
  rw [foldF_end hgx2 k2, hfab]
  injection k1 with k1
  subst k1
  exact ⟨rfl, side_end hs'⟩
end Go.Proofs.YtiijbmaamblidaaGreatDoor

namespace Go.Proofs.YtiijbmaamblidaaGreatDoor.Print
open Go.RowKit Go.Proofs.YtiijbmaamblidaaGreatDoorW.PrintWords Go.Proofs.YtiijbmaamblidaaGreatDoorW.PrintLast Go.Proofs.YtiijbmaamblidaaGreatDoorW.PrintMore
attribute [local go_sem] max2_int min2_int max_two min_two max_three min_three max_four min_four   -- for this text's walks alone
set_option linter.unusedVariables false
set_option linter.unusedSimpArgs false
end Go.Proofs.YtiijbmaamblidaaGreatDoor.Print

namespace Go.Proofs.YtiijbmaamblidaaGreatDoor.Print
open Go.RowKit Go.Proofs.YtiijbmaamblidaaGreatDoorW.PrintWords Go.Proofs.YtiijbmaamblidaaGreatDoorW.PrintLast Go.Proofs.YtiijbmaamblidaaGreatDoorW.PrintMore
attribute [local go_sem] max2_int min2_int max_two min_two max_three min_three max_four min_four   -- for this text's walks alone
set_option linter.unusedVariables false
set_option linter.unusedSimpArgs false
end Go.Proofs.YtiijbmaamblidaaGreatDoor.Print

namespace Go.Proofs.YtiijbmaamblidaaGreatDoor
open Go.RowKit Go.Proofs.YtiijbmaamblidaaGreatDoor.Print Go.Proofs.YtiijbmaamblidaaGreatDoorW.PrintWords
theorem metHeap : Kd.Heap k40 := Kd.heap_iso _ (Kd.heap_pair (Kd.heap_int _) (Kd.heap_pair (Kd.heap_int _) (Kd.heap_pair (Kd.heap_int _) (Kd.heap_int _))))
theorem memHeap : Kd.Heap k43 := Kd.heap_iso _ (Kd.heap_pair Kd.heap_string (Kd.heap_pair Kd.heap_string (Kd.heap_pair (Kd.heap_int _) (Kd.heap_pair metHeap (Kd.heap_slice _ (Kd.heap_int _))))))
end Go.Proofs.YtiijbmaamblidaaGreatDoor

namespace Go.Proofs.YtiijbmaamblidaaGreatDoor.Print
open Go.RowKit Go.Proofs.YtiijbmaamblidaaGreatDoorW.PrintWords Go.Proofs.YtiijbmaamblidaaGreatDoorW.PrintLast Go.Proofs.YtiijbmaamblidaaGreatDoorW.PrintMore
attribute [local go_sem] max2_int min2_int max_two min_two max_three min_three max_four min_four   -- for this text's walks alone
set_option linter.unusedVariables false
set_option linter.unusedSimpArgs false
end Go.Proofs.YtiijbmaamblidaaGreatDoor.Print

namespace Go.Proofs.YtiijbmaamblidaaGreatDoor.Print
open Go.RowKit Go.Proofs.YtiijbmaamblidaaGreatDoorW.PrintWords Go.Proofs.YtiijbmaamblidaaGreatDoorW.PrintLast Go.Proofs.YtiijbmaamblidaaGreatDoorW.PrintMore
attribute [local go_sem] max2_int min2_int max_two min_two max_three min_three max_four min_four   -- for this text's walks alone
set_option linter.unusedVariables false
set_option linter.unusedSimpArgs false
end Go.Proofs.YtiijbmaamblidaaGreatDoor.Print

namespace Go.Proofs.YtiijbmaamblidaaGreatDoor.Print
open Go.RowKit Go.Proofs.YtiijbmaamblidaaGreatDoorW.PrintWords Go.Proofs.YtiijbmaamblidaaGreatDoorW.PrintLast Go.Proofs.YtiijbmaamblidaaGreatDoorW.PrintMore
attribute [local go_sem] max2_int min2_int max_two min_two max_three min_three max_four min_four   -- for this text's walks alone
set_option linter.unusedVariables false
set_option linter.unusedSimpArgs false
theorem eqA40 (d : Nat) (w : World) (x0 y0 : Int) (x1 y1 : Int) (x2 y2 : Int) (x3 y3 : Int) :
  (Op.equalIn (d + 2) 40 (.agg #[.int .i64 x0, .int .i64 x1, .int .i64 x2, .int .i64 x3]) (.agg #[.int .i64 y0, .int .i64 y1, .int .i64 y2, .int .i64 y3])).run Tryz.prog w = .ok (x0 == y0 && (x1 == y1 && (x2 == y2 && (x3 == y3)))) w := by
 refine eqA_of Tryz.underlying40 (by kernel_rfl) ?_
 refine eqf_cons (by rfl) (by go_simp; rfl) (by go_simp; rfl) (by go_simp) ?_
 refine eqf_cons (by rfl) (by go_simp; rfl) (by go_simp; rfl) (by go_simp) ?_
 refine eqf_cons (by rfl) (by go_simp; rfl) (by go_simp; rfl) (by go_simp) ?_
 exact eqf_last (by rfl) (by go_simp; rfl) (by go_simp; rfl) (by go_simp)
end Go.Proofs.YtiijbmaamblidaaGreatDoor.Print

namespace Go.Proofs.YtiijbmaamblidaaGreatDoor.Print
open Go.RowKit Go.Proofs.YtiijbmaamblidaaGreatDoorW.PrintWords Go.Proofs.YtiijbmaamblidaaGreatDoorW.PrintLast Go.Proofs.YtiijbmaamblidaaGreatDoorW.PrintMore
attribute [local go_sem] max2_int min2_int max_two min_two max_three min_three max_four min_four   -- for this text's walks alone
set_option linter.unusedVariables false
set_option linter.unusedSimpArgs false
attribute [local go_sem high] eqA40
end Go.Proofs.YtiijbmaamblidaaGreatDoor.Print

namespace Go.Proofs.YtiijbmaamblidaaGreatDoor.Print
open Go.RowKit Go.Proofs.YtiijbmaamblidaaGreatDoorW.PrintWords Go.Proofs.YtiijbmaamblidaaGreatDoorW.PrintLast Go.Proofs.YtiijbmaamblidaaGreatDoorW.PrintMore
attribute [local go_sem] max2_int min2_int max_two min_two max_three min_three max_four min_four   -- for this text's walks alone
set_option linter.unusedVariables false
set_option linter.unusedSimpArgs false
end Go.Proofs.YtiijbmaamblidaaGreatDoor.Print

namespace Go.Proofs.YtiijbmaamblidaaGreatDoor
open Go.RowKit Go.Proofs.YtiijbmaamblidaaGreatDoor.Print Go.Proofs.YtiijbmaamblidaaGreatDoorW.PrintWords
theorem equal_chain (a b : Node) {r : Option Bool} (h : r = some ((strOfNums a.f5).toList == (strOfNums b.f5).toList)) : (if a.f0.toList = b.f0.toList then (if a.f3 = b.f3 then (if (a.f4.f0 == b.f4.f0 && (a.f4.f1 == b.f4.f1 && (a.f4.f2 == b.f4.f2 && (a.f4.f3 == b.f4.f3)))) = true then (if a.f1.toList = b.f1.toList then r else (some false)) else (some false)) else (some false)) else (some false)) = some (equalB a b) := by
 subst h
 unfold equalB
 by_cases h0 : a.f0.toList = b.f0.toList
 ·rw [if_pos h0]
  by_cases h1 : a.f3 = b.f3
  ·rw [if_pos h1]
   by_cases h2 : (a.f4.f0 == b.f4.f0 && (a.f4.f1 == b.f4.f1 && (a.f4.f2 == b.f4.f2 && (a.f4.f3 == b.f4.f3)))) = true
   ·rw [if_pos h2]
    simp only [Bool.and_eq_true, beq_iff_eq] at h2
    by_cases h3 : a.f1.toList = b.f1.toList
    ·rw [if_pos h3]
     congr 1
     rw [Bool.eq_iff_iff, beq_iff_eq, decide_eq_true_iff]
     exact ⟨fun h => ⟨h0, h1, h2.1, h2.2.1, h2.2.2.1, h2.2.2.2, h3, h⟩, fun h => h.2.2.2.2.2.2.2⟩
    ·rw [if_neg h3, decide_eq_false]
     exact fun h => h3 h.2.2.2.2.2.2.1
   ·rw [if_neg h2, decide_eq_false]
    intro h
    apply h2
    simp only [Bool.and_eq_true, beq_iff_eq]
    exact ⟨h.2.2.1, h.2.2.2.1, h.2.2.2.2.1, h.2.2.2.2.2.1⟩
  ·rw [if_neg h1, decide_eq_false]
   exact fun h => h1 h.2.1
 ·rw [if_neg h0, decide_eq_false]
  exact fun h => h0 h.1
end Go.Proofs.YtiijbmaamblidaaGreatDoor

namespace Go.Proofs.YtiijbmaamblidaaGreatDoor.Print
open Go.RowKit Go.Proofs.YtiijbmaamblidaaGreatDoorW.PrintWords Go.Proofs.YtiijbmaamblidaaGreatDoorW.PrintLast Go.Proofs.YtiijbmaamblidaaGreatDoorW.PrintMore
attribute [local go_sem] max2_int min2_int max_two min_two max_three min_three max_four min_four   -- for this text's walks alone
set_option linter.unusedVariables false
set_option linter.unusedSimpArgs false
attribute [local go_sem high] eqA40
def bindleref08_Equal.f (a0_0 : ByteArray) (a0_1 : ByteArray) (a0_2 : ByteArray) (a0_3 : Int) (a0_4 : Int) (a0_5 : Int) (a0_6 : Int) (a0_7 : Int) (l0_8 : List Int) (a1_0 : ByteArray) (a1_1 : ByteArray) (a1_2 : ByteArray) (a1_3 : Int) (a1_4 : Int) (a1_5 : Int) (a1_6 : Int) (a1_7 : Int) (l1_8 : List Int) : Option (Bool) := if a0_0.toList = a1_0.toList then (if a0_3 = a1_3 then (if (a0_4 == a1_4 && (a0_5 == a1_5 && (a0_6 == a1_6 && (a0_7 == a1_7)))) = true then (if a0_1.toList = a1_1.toList then (some ((strOfNums l0_8).toList == (strOfNums l1_8).toList)) else (some false)) else (some false)) else (some false)) else (some false)
set_option maxHeartbeats 8000000 in
set_option maxRecDepth 100000 in
theorem bindleref08_Equal.calls (a0_0 : ByteArray) (a0_1 : ByteArray) (a0_2 : ByteArray) (a0_3 : Int) (a0_4 : Int) (a0_5 : Int) (a0_6 : Int) (a0_7 : Int) (A0_8 : Option Addr) (c0_8 : Nat) (l0_8 : List Int) (a1_0 : ByteArray) (a1_1 : ByteArray) (a1_2 : ByteArray) (a1_3 : Int) (a1_4 : Int) (a1_5 : Int) (a1_6 : Int) (a1_7 : Int) (A1_8 : Option Addr) (c1_8 : Nat) (l1_8 : List Int) (r : Bool) (w : World) (hr0_8 : Kd.C (Kd.int .u8) w A0_8 l0_8.length l0_8) (hc0_8 : l0_8.length ≤ c0_8) (hr1_8 : Kd.C (Kd.int .u8) w A1_8 l1_8.length l1_8) (hc1_8 : l1_8.length ≤ c1_8) (h : bindleref08_Equal.f a0_0 a0_1 a0_2 a0_3 a0_4 a0_5 a0_6 a0_7 l0_8 a1_0 a1_1 a1_2 a1_3 a1_4 a1_5 a1_6 a1_7 l1_8 = some r) :
  Calls Tryz.prog 21 #[.agg #[.string a0_0, .string a0_1, .string a0_2, .int .u8 a0_3, .int .i64 a0_4, .int .i64 a0_5, .int .i64 a0_6, .int .i64 a0_7, .slice A0_8 l0_8.length c0_8], .agg #[.string a1_0, .string a1_1, .string a1_2, .int .u8 a1_3, .int .i64 a1_4, .int .i64 a1_5, .int .i64 a1_6, .int .i64 a1_7, .slice A1_8 l1_8.length c1_8]] w fun e w' => e = .returned (.bool r) ∧ Below w.heap.size w w' := by
 have hu49 := Tryz.underlying49
 have hu40 := Tryz.underlying40
 have HR0_8 := A0_ hr0_8
 have HC0_8 := A0_ hc0_8
 clear hr0_8 hc0_8
 have HR1_8 := A0_ hr1_8
 have HC1_8 := A0_ hc1_8
 clear hr1_8 hc1_8
 have HB := A0_ (Below.refl w.heap.size w)
 have H : (if a0_0.toList = a1_0.toList then (if a0_3 = a1_3 then (if (a0_4 == a1_4 && (a0_5 == a1_5 && (a0_6 == a1_6 && (a0_7 == a1_7)))) = true then (if a0_1.toList = a1_1.toList then (some ((strOfNums l0_8).toList == (strOfNums l1_8).toList)) else (some false)) else (some false)) else (some false)) else (some false)) = some r := h
 clear h
 by_cases c3 : a0_0.toList = a1_0.toList
 rotate_left
 ·rw [if_neg c3] at H
  have c3b0 : (a0_0.toList == a1_0.toList) = false := beq_eq_false_iff_ne.mpr c3
  have c3b1 : (a0_0.toList != a1_0.toList) = true := bne_iff_ne.mpr c3
  obtain rfl := Option.some.inj H
  go_enter Tryz.func21, Tryz.ntmps21
  go_wp2_with (first | ((with_reducible refine gate_dst (N := 2) rfl ?_); refine box_event ?hg (N := 2) ?hd (cs := #[.string a0_0, .string a0_1, .string a0_2, .int .u8 a0_3, .int .i64 a0_4, .int .i64 a0_5, .int .i64 a0_6, .int .i64 a0_7, .slice A0_8 l0_8.length c0_8]) (t := 49) ?hr ?_; (case hd => rfl); (case hg => rfl); (case hr => first | (go_simp; done) | (go_simp; rfl)); intro gb142 hg w29 hbox hb; have n0_ := A0_ (below_step (wb_ HB.out) hb); have n1_ := A0_ (hbox); have n2_ := A0_ ((by rw [hg]; exact (below_size (wb_ HB.out)) : w.heap.size ≤ gb142)); have n3_ := A0_ ((by rw [hg]; exact (below_size (wb_ HB.out)) : w.heap.size ≤ gb142)); clear HB; have HB := n0_; have BK142 := n1_; have GW142 := n2_; have GE142 := n3_; clear n0_ n1_ n2_ n3_; clear hb hbox hg) | ((with_reducible refine gate_dst (N := 3) rfl ?_); refine box_event ?hg (N := 3) ?hd (cs := #[.string a1_0, .string a1_1, .string a1_2, .int .u8 a1_3, .int .i64 a1_4, .int .i64 a1_5, .int .i64 a1_6, .int .i64 a1_7, .slice A1_8 l1_8.length c1_8]) (t := 49) ?hr ?_; (case hd => rfl); (case hg => rfl); (case hr => first | (go_simp; done) | (go_simp; rfl)); intro gb143 hg w30 hbox hb; have n0_ := A0_ (blk_below (g := gb142) (o := .cells #[.string a0_0, .string a0_1, .string a0_2, .int .u8 a0_3, .int .i64 a0_4, .int .i64 a0_5, .int .i64 a0_6, .int .i64 a0_7, .slice A0_8 l0_8.length c0_8] 49 (0, 0)) (wB_ BK142.out) hb); have n1_ := A0_ (below_step (wb1_ HB.out GE142.out) hb); have n2_ := A0_ (hbox); have n3_ := A0_ ((by rw [hg]; exact (below_size (wb1_ HB.out GE142.out)) : w.heap.size ≤ gb143)); have n4_ := A0_ ((by rw [hg]; exact (below_size (wb1_ HB.out GE142.out)) : w.heap.size ≤ gb143)); have n5_ := A0_ ((by rw [hg]; exact Nat.ne_of_lt (blk_lt (g := gb142) (o := .cells #[.string a0_0, .string a0_1, .string a0_2, .int .u8 a0_3, .int .i64 a0_4, .int .i64 a0_5, .int .i64 a0_6, .int .i64 a0_7, .slice A0_8 l0_8.length c0_8] 49 (0, 0)) (wB_ BK142.out)) : gb142 ≠ gb143)); have n6_ := A0_ ((by rw [hg]; exact Nat.ne_of_gt (blk_lt (g := gb142) (o := .cells #[.string a0_0, .string a0_1, .string a0_2, .int .u8 a0_3, .int .i64 a0_4, .int .i64 a0_5, .int .i64 a0_6, .int .i64 a0_7, .slice A0_8 l0_8.length c0_8] 49 (0, 0)) (wB_ BK142.out)) : gb143 ≠ gb142)); clear BK142; clear HB; have BK142 := n0_; have HB := n1_; have BK143 := n2_; have GW143 := n3_; have GE143 := n4_; have NB142_143 := n5_; have NB143_142 := n6_; clear n0_ n1_ n2_ n3_ n4_ n5_ n6_; clear hb hbox hg; have hnb31 := NB142_143.out; have hnc31 := NB143_142.out; have hcz32_0 : w30.cell? ⟨gb142, 0, none⟩ = some (.string a0_0) := (bc_ BK142.out 0).trans rfl; have hcz32_1 : w30.cell? ⟨gb142, 1, none⟩ = some (.string a0_1) := (bc_ BK142.out 1).trans rfl; have hcz32_2 : w30.cell? ⟨gb142, 2, none⟩ = some (.string a0_2) := (bc_ BK142.out 2).trans rfl; have hcz32_3 : w30.cell? ⟨gb142, 3, none⟩ = some (.int .u8 a0_3) := (bc_ BK142.out 3).trans rfl; have hcz32_4 : w30.cell? ⟨gb142, 4, none⟩ = some (.int .i64 a0_4) := (bc_ BK142.out 4).trans rfl; have hcz32_5 : w30.cell? ⟨gb142, 5, none⟩ = some (.int .i64 a0_5) := (bc_ BK142.out 5).trans rfl; have hcz32_6 : w30.cell? ⟨gb142, 6, none⟩ = some (.int .i64 a0_6) := (bc_ BK142.out 6).trans rfl; have hcz32_7 : w30.cell? ⟨gb142, 7, none⟩ = some (.int .i64 a0_7) := (bc_ BK142.out 7).trans rfl; have hcz32_8 : w30.cell? ⟨gb142, 8, none⟩ = some (.slice A0_8 l0_8.length c0_8) := (bc_ BK142.out 8).trans rfl; have hfz32_0 := bf_ BK142.out 0; have hfz32_1 := bf_ BK142.out 1; have hfz32_2 := bf_ BK142.out 2; have hfz32_3 := bf_ BK142.out 3; have hfz32_4 := bf_ BK142.out 4; have hfz32_5 := bf_ BK142.out 5; have hfz32_6 := bf_ BK142.out 6; have hfz32_7 := bf_ BK142.out 7; have hfz32_8 := bf_ BK142.out 8; have hcz33_0 : w30.cell? ⟨gb143, 0, none⟩ = some (.string a1_0) := (bc_ BK143.out 0).trans rfl; have hcz33_1 : w30.cell? ⟨gb143, 1, none⟩ = some (.string a1_1) := (bc_ BK143.out 1).trans rfl; have hcz33_2 : w30.cell? ⟨gb143, 2, none⟩ = some (.string a1_2) := (bc_ BK143.out 2).trans rfl; have hcz33_3 : w30.cell? ⟨gb143, 3, none⟩ = some (.int .u8 a1_3) := (bc_ BK143.out 3).trans rfl; have hcz33_4 : w30.cell? ⟨gb143, 4, none⟩ = some (.int .i64 a1_4) := (bc_ BK143.out 4).trans rfl; have hcz33_5 : w30.cell? ⟨gb143, 5, none⟩ = some (.int .i64 a1_5) := (bc_ BK143.out 5).trans rfl; have hcz33_6 : w30.cell? ⟨gb143, 6, none⟩ = some (.int .i64 a1_6) := (bc_ BK143.out 6).trans rfl; have hcz33_7 : w30.cell? ⟨gb143, 7, none⟩ = some (.int .i64 a1_7) := (bc_ BK143.out 7).trans rfl; have hcz33_8 : w30.cell? ⟨gb143, 8, none⟩ = some (.slice A1_8 l1_8.length c1_8) := (bc_ BK143.out 8).trans rfl; have hfz33_0 := bf_ BK143.out 0; have hfz33_1 := bf_ BK143.out 1; have hfz33_2 := bf_ BK143.out 2; have hfz33_3 := bf_ BK143.out 3; have hfz33_4 := bf_ BK143.out 4; have hfz33_5 := bf_ BK143.out 5; have hfz33_6 := bf_ BK143.out 6; have hfz33_7 := bf_ BK143.out 7; have hfz33_8 := bf_ BK143.out 8))
  go_ret
  exact ⟨we_, wb2_ HB.out GE142.out GE143.out⟩
 rw [if_pos c3] at H
 have c3b0 : (a0_0.toList == a1_0.toList) = true := beq_iff_eq.mpr c3
 have c3b1 : (a0_0.toList != a1_0.toList) = false := bne_eq_false_iff_eq.mpr c3
 clear c3
 by_cases c4 : a0_3 = a1_3
 rotate_left
 ·rw [if_neg c4] at H
  have c4b0 : (a0_3 == a1_3) = false := beq_eq_false_iff_ne.mpr c4
  have c4b1 : (a0_3 != a1_3) = true := bne_iff_ne.mpr c4
  obtain rfl := Option.some.inj H
  go_enter Tryz.func21, Tryz.ntmps21
  go_wp2_with (first | ((with_reducible refine gate_dst (N := 2) rfl ?_); refine box_event ?hg (N := 2) ?hd (cs := #[.string a0_0, .string a0_1, .string a0_2, .int .u8 a0_3, .int .i64 a0_4, .int .i64 a0_5, .int .i64 a0_6, .int .i64 a0_7, .slice A0_8 l0_8.length c0_8]) (t := 49) ?hr ?_; (case hd => rfl); (case hg => rfl); (case hr => first | (go_simp; done) | (go_simp; rfl)); intro gb142 hg w24 hbox hb; have n0_ := A0_ (below_step (wb_ HB.out) hb); have n1_ := A0_ (hbox); have n2_ := A0_ ((by rw [hg]; exact (below_size (wb_ HB.out)) : w.heap.size ≤ gb142)); have n3_ := A0_ ((by rw [hg]; exact (below_size (wb_ HB.out)) : w.heap.size ≤ gb142)); clear HB; have HB := n0_; have BK142 := n1_; have GW142 := n2_; have GE142 := n3_; clear n0_ n1_ n2_ n3_; clear hb hbox hg) | ((with_reducible refine gate_dst (N := 3) rfl ?_); refine box_event ?hg (N := 3) ?hd (cs := #[.string a1_0, .string a1_1, .string a1_2, .int .u8 a1_3, .int .i64 a1_4, .int .i64 a1_5, .int .i64 a1_6, .int .i64 a1_7, .slice A1_8 l1_8.length c1_8]) (t := 49) ?hr ?_; (case hd => rfl); (case hg => rfl); (case hr => first | (go_simp; done) | (go_simp; rfl)); intro gb143 hg w25 hbox hb; have n0_ := A0_ (blk_below (g := gb142) (o := .cells #[.string a0_0, .string a0_1, .string a0_2, .int .u8 a0_3, .int .i64 a0_4, .int .i64 a0_5, .int .i64 a0_6, .int .i64 a0_7, .slice A0_8 l0_8.length c0_8] 49 (0, 0)) (wB_ BK142.out) hb); have n1_ := A0_ (below_step (wb1_ HB.out GE142.out) hb); have n2_ := A0_ (hbox); have n3_ := A0_ ((by rw [hg]; exact (below_size (wb1_ HB.out GE142.out)) : w.heap.size ≤ gb143)); have n4_ := A0_ ((by rw [hg]; exact (below_size (wb1_ HB.out GE142.out)) : w.heap.size ≤ gb143)); have n5_ := A0_ ((by rw [hg]; exact Nat.ne_of_lt (blk_lt (g := gb142) (o := .cells #[.string a0_0, .string a0_1, .string a0_2, .int .u8 a0_3, .int .i64 a0_4, .int .i64 a0_5, .int .i64 a0_6, .int .i64 a0_7, .slice A0_8 l0_8.length c0_8] 49 (0, 0)) (wB_ BK142.out)) : gb142 ≠ gb143)); have n6_ := A0_ ((by rw [hg]; exact Nat.ne_of_gt (blk_lt (g := gb142) (o := .cells #[.string a0_0, .string a0_1, .string a0_2, .int .u8 a0_3, .int .i64 a0_4, .int .i64 a0_5, .int .i64 a0_6, .int .i64 a0_7, .slice A0_8 l0_8.length c0_8] 49 (0, 0)) (wB_ BK142.out)) : gb143 ≠ gb142)); clear BK142; clear HB; have BK142 := n0_; have HB := n1_; have BK143 := n2_; have GW143 := n3_; have GE143 := n4_; have NB142_143 := n5_; have NB143_142 := n6_; clear n0_ n1_ n2_ n3_ n4_ n5_ n6_; clear hb hbox hg; have hnb26 := NB142_143.out; have hnc26 := NB143_142.out; have hcz27_0 : w25.cell? ⟨gb142, 0, none⟩ = some (.string a0_0) := (bc_ BK142.out 0).trans rfl; have hcz27_1 : w25.cell? ⟨gb142, 1, none⟩ = some (.string a0_1) := (bc_ BK142.out 1).trans rfl; have hcz27_2 : w25.cell? ⟨gb142, 2, none⟩ = some (.string a0_2) := (bc_ BK142.out 2).trans rfl; have hcz27_3 : w25.cell? ⟨gb142, 3, none⟩ = some (.int .u8 a0_3) := (bc_ BK142.out 3).trans rfl; have hcz27_4 : w25.cell? ⟨gb142, 4, none⟩ = some (.int .i64 a0_4) := (bc_ BK142.out 4).trans rfl; have hcz27_5 : w25.cell? ⟨gb142, 5, none⟩ = some (.int .i64 a0_5) := (bc_ BK142.out 5).trans rfl; have hcz27_6 : w25.cell? ⟨gb142, 6, none⟩ = some (.int .i64 a0_6) := (bc_ BK142.out 6).trans rfl; have hcz27_7 : w25.cell? ⟨gb142, 7, none⟩ = some (.int .i64 a0_7) := (bc_ BK142.out 7).trans rfl; have hcz27_8 : w25.cell? ⟨gb142, 8, none⟩ = some (.slice A0_8 l0_8.length c0_8) := (bc_ BK142.out 8).trans rfl; have hfz27_0 := bf_ BK142.out 0; have hfz27_1 := bf_ BK142.out 1; have hfz27_2 := bf_ BK142.out 2; have hfz27_3 := bf_ BK142.out 3; have hfz27_4 := bf_ BK142.out 4; have hfz27_5 := bf_ BK142.out 5; have hfz27_6 := bf_ BK142.out 6; have hfz27_7 := bf_ BK142.out 7; have hfz27_8 := bf_ BK142.out 8; have hcz28_0 : w25.cell? ⟨gb143, 0, none⟩ = some (.string a1_0) := (bc_ BK143.out 0).trans rfl; have hcz28_1 : w25.cell? ⟨gb143, 1, none⟩ = some (.string a1_1) := (bc_ BK143.out 1).trans rfl; have hcz28_2 : w25.cell? ⟨gb143, 2, none⟩ = some (.string a1_2) := (bc_ BK143.out 2).trans rfl; have hcz28_3 : w25.cell? ⟨gb143, 3, none⟩ = some (.int .u8 a1_3) := (bc_ BK143.out 3).trans rfl; have hcz28_4 : w25.cell? ⟨gb143, 4, none⟩ = some (.int .i64 a1_4) := (bc_ BK143.out 4).trans rfl; have hcz28_5 : w25.cell? ⟨gb143, 5, none⟩ = some (.int .i64 a1_5) := (bc_ BK143.out 5).trans rfl; have hcz28_6 : w25.cell? ⟨gb143, 6, none⟩ = some (.int .i64 a1_6) := (bc_ BK143.out 6).trans rfl; have hcz28_7 : w25.cell? ⟨gb143, 7, none⟩ = some (.int .i64 a1_7) := (bc_ BK143.out 7).trans rfl; have hcz28_8 : w25.cell? ⟨gb143, 8, none⟩ = some (.slice A1_8 l1_8.length c1_8) := (bc_ BK143.out 8).trans rfl; have hfz28_0 := bf_ BK143.out 0; have hfz28_1 := bf_ BK143.out 1; have hfz28_2 := bf_ BK143.out 2; have hfz28_3 := bf_ BK143.out 3; have hfz28_4 := bf_ BK143.out 4; have hfz28_5 := bf_ BK143.out 5; have hfz28_6 := bf_ BK143.out 6; have hfz28_7 := bf_ BK143.out 7; have hfz28_8 := bf_ BK143.out 8))
  go_ret
  exact ⟨we_, wb2_ HB.out GE142.out GE143.out⟩
 rw [if_pos c4] at H
 have c4b0 : (a0_3 == a1_3) = true := beq_iff_eq.mpr c4
 have c4b1 : (a0_3 != a1_3) = false := bne_eq_false_iff_eq.mpr c4
 clear c4
 by_cases c5 : (a0_4 == a1_4 && (a0_5 == a1_5 && (a0_6 == a1_6 && (a0_7 == a1_7)))) = true
 rotate_left
 ·rw [if_neg c5] at H
  have c5b0 : (a0_4 == a1_4 && (a0_5 == a1_5 && (a0_6 == a1_6 && (a0_7 == a1_7)))) = false := by simpa using c5
  (try (have c5b1 : decide (a0_4 = a1_4 && (a0_5 == a1_5 && (a0_6 == a1_6 && (a0_7 == a1_7)))) = false := by simpa using c5))
  (try (have c5b2 : (a0_4 == a1_4 && (a0_5 == a1_5 && (a0_6 == a1_6 && (a0_7 == a1_7)))) = false := by simpa using c5))
  (try (have c5b3 : ¬ (a0_4 = a1_4 && (a0_5 == a1_5 && (a0_6 == a1_6 && (a0_7 == a1_7)))) := by simpa using c5))
  clear c5
  obtain rfl := Option.some.inj H
  go_enter Tryz.func21, Tryz.ntmps21
  go_wp2_with (first | ((with_reducible refine gate_dst (N := 2) rfl ?_); refine box_event ?hg (N := 2) ?hd (cs := #[.string a0_0, .string a0_1, .string a0_2, .int .u8 a0_3, .int .i64 a0_4, .int .i64 a0_5, .int .i64 a0_6, .int .i64 a0_7, .slice A0_8 l0_8.length c0_8]) (t := 49) ?hr ?_; (case hd => rfl); (case hg => rfl); (case hr => first | (go_simp; done) | (go_simp; rfl)); intro gb142 hg w19 hbox hb; have n0_ := A0_ (below_step (wb_ HB.out) hb); have n1_ := A0_ (hbox); have n2_ := A0_ ((by rw [hg]; exact (below_size (wb_ HB.out)) : w.heap.size ≤ gb142)); have n3_ := A0_ ((by rw [hg]; exact (below_size (wb_ HB.out)) : w.heap.size ≤ gb142)); clear HB; have HB := n0_; have BK142 := n1_; have GW142 := n2_; have GE142 := n3_; clear n0_ n1_ n2_ n3_; clear hb hbox hg) | ((with_reducible refine gate_dst (N := 3) rfl ?_); refine box_event ?hg (N := 3) ?hd (cs := #[.string a1_0, .string a1_1, .string a1_2, .int .u8 a1_3, .int .i64 a1_4, .int .i64 a1_5, .int .i64 a1_6, .int .i64 a1_7, .slice A1_8 l1_8.length c1_8]) (t := 49) ?hr ?_; (case hd => rfl); (case hg => rfl); (case hr => first | (go_simp; done) | (go_simp; rfl)); intro gb143 hg w20 hbox hb; have n0_ := A0_ (blk_below (g := gb142) (o := .cells #[.string a0_0, .string a0_1, .string a0_2, .int .u8 a0_3, .int .i64 a0_4, .int .i64 a0_5, .int .i64 a0_6, .int .i64 a0_7, .slice A0_8 l0_8.length c0_8] 49 (0, 0)) (wB_ BK142.out) hb); have n1_ := A0_ (below_step (wb1_ HB.out GE142.out) hb); have n2_ := A0_ (hbox); have n3_ := A0_ ((by rw [hg]; exact (below_size (wb1_ HB.out GE142.out)) : w.heap.size ≤ gb143)); have n4_ := A0_ ((by rw [hg]; exact (below_size (wb1_ HB.out GE142.out)) : w.heap.size ≤ gb143)); have n5_ := A0_ ((by rw [hg]; exact Nat.ne_of_lt (blk_lt (g := gb142) (o := .cells #[.string a0_0, .string a0_1, .string a0_2, .int .u8 a0_3, .int .i64 a0_4, .int .i64 a0_5, .int .i64 a0_6, .int .i64 a0_7, .slice A0_8 l0_8.length c0_8] 49 (0, 0)) (wB_ BK142.out)) : gb142 ≠ gb143)); have n6_ := A0_ ((by rw [hg]; exact Nat.ne_of_gt (blk_lt (g := gb142) (o := .cells #[.string a0_0, .string a0_1, .string a0_2, .int .u8 a0_3, .int .i64 a0_4, .int .i64 a0_5, .int .i64 a0_6, .int .i64 a0_7, .slice A0_8 l0_8.length c0_8] 49 (0, 0)) (wB_ BK142.out)) : gb143 ≠ gb142)); clear BK142; clear HB; have BK142 := n0_; have HB := n1_; have BK143 := n2_; have GW143 := n3_; have GE143 := n4_; have NB142_143 := n5_; have NB143_142 := n6_; clear n0_ n1_ n2_ n3_ n4_ n5_ n6_; clear hb hbox hg; have hnb21 := NB142_143.out; have hnc21 := NB143_142.out; have hcz22_0 : w20.cell? ⟨gb142, 0, none⟩ = some (.string a0_0) := (bc_ BK142.out 0).trans rfl; have hcz22_1 : w20.cell? ⟨gb142, 1, none⟩ = some (.string a0_1) := (bc_ BK142.out 1).trans rfl; have hcz22_2 : w20.cell? ⟨gb142, 2, none⟩ = some (.string a0_2) := (bc_ BK142.out 2).trans rfl; have hcz22_3 : w20.cell? ⟨gb142, 3, none⟩ = some (.int .u8 a0_3) := (bc_ BK142.out 3).trans rfl; have hcz22_4 : w20.cell? ⟨gb142, 4, none⟩ = some (.int .i64 a0_4) := (bc_ BK142.out 4).trans rfl; have hcz22_5 : w20.cell? ⟨gb142, 5, none⟩ = some (.int .i64 a0_5) := (bc_ BK142.out 5).trans rfl; have hcz22_6 : w20.cell? ⟨gb142, 6, none⟩ = some (.int .i64 a0_6) := (bc_ BK142.out 6).trans rfl; have hcz22_7 : w20.cell? ⟨gb142, 7, none⟩ = some (.int .i64 a0_7) := (bc_ BK142.out 7).trans rfl; have hcz22_8 : w20.cell? ⟨gb142, 8, none⟩ = some (.slice A0_8 l0_8.length c0_8) := (bc_ BK142.out 8).trans rfl; have hfz22_0 := bf_ BK142.out 0; have hfz22_1 := bf_ BK142.out 1; have hfz22_2 := bf_ BK142.out 2; have hfz22_3 := bf_ BK142.out 3; have hfz22_4 := bf_ BK142.out 4; have hfz22_5 := bf_ BK142.out 5; have hfz22_6 := bf_ BK142.out 6; have hfz22_7 := bf_ BK142.out 7; have hfz22_8 := bf_ BK142.out 8; have hcz23_0 : w20.cell? ⟨gb143, 0, none⟩ = some (.string a1_0) := (bc_ BK143.out 0).trans rfl; have hcz23_1 : w20.cell? ⟨gb143, 1, none⟩ = some (.string a1_1) := (bc_ BK143.out 1).trans rfl; have hcz23_2 : w20.cell? ⟨gb143, 2, none⟩ = some (.string a1_2) := (bc_ BK143.out 2).trans rfl; have hcz23_3 : w20.cell? ⟨gb143, 3, none⟩ = some (.int .u8 a1_3) := (bc_ BK143.out 3).trans rfl; have hcz23_4 : w20.cell? ⟨gb143, 4, none⟩ = some (.int .i64 a1_4) := (bc_ BK143.out 4).trans rfl; have hcz23_5 : w20.cell? ⟨gb143, 5, none⟩ = some (.int .i64 a1_5) := (bc_ BK143.out 5).trans rfl; have hcz23_6 : w20.cell? ⟨gb143, 6, none⟩ = some (.int .i64 a1_6) := (bc_ BK143.out 6).trans rfl; have hcz23_7 : w20.cell? ⟨gb143, 7, none⟩ = some (.int .i64 a1_7) := (bc_ BK143.out 7).trans rfl; have hcz23_8 : w20.cell? ⟨gb143, 8, none⟩ = some (.slice A1_8 l1_8.length c1_8) := (bc_ BK143.out 8).trans rfl; have hfz23_0 := bf_ BK143.out 0; have hfz23_1 := bf_ BK143.out 1; have hfz23_2 := bf_ BK143.out 2; have hfz23_3 := bf_ BK143.out 3; have hfz23_4 := bf_ BK143.out 4; have hfz23_5 := bf_ BK143.out 5; have hfz23_6 := bf_ BK143.out 6; have hfz23_7 := bf_ BK143.out 7; have hfz23_8 := bf_ BK143.out 8))
  go_ret
  exact ⟨we_, wb2_ HB.out GE142.out GE143.out⟩
 rw [if_pos c5] at H
 have c5b0 : (a0_4 == a1_4 && (a0_5 == a1_5 && (a0_6 == a1_6 && (a0_7 == a1_7)))) = true := c5
 (try (have c5b1 : decide (a0_4 = a1_4 && (a0_5 == a1_5 && (a0_6 == a1_6 && (a0_7 == a1_7)))) = true := by simpa using c5))
 (try (have c5b2 : (a0_4 == a1_4 && (a0_5 == a1_5 && (a0_6 == a1_6 && (a0_7 == a1_7)))) = true := by simpa using c5))
 clear c5
 by_cases c6 : a0_1.toList = a1_1.toList
 rotate_left
 ·rw [if_neg c6] at H
  have c6b0 : (a0_1.toList == a1_1.toList) = false := beq_eq_false_iff_ne.mpr c6
  have c6b1 : (a0_1.toList != a1_1.toList) = true := bne_iff_ne.mpr c6
  obtain rfl := Option.some.inj H
  go_enter Tryz.func21, Tryz.ntmps21
  go_wp2_with (first | ((with_reducible refine gate_dst (N := 2) rfl ?_); refine box_event ?hg (N := 2) ?hd (cs := #[.string a0_0, .string a0_1, .string a0_2, .int .u8 a0_3, .int .i64 a0_4, .int .i64 a0_5, .int .i64 a0_6, .int .i64 a0_7, .slice A0_8 l0_8.length c0_8]) (t := 49) ?hr ?_; (case hd => rfl); (case hg => rfl); (case hr => first | (go_simp; done) | (go_simp; rfl)); intro gb142 hg w14 hbox hb; have n0_ := A0_ (below_step (wb_ HB.out) hb); have n1_ := A0_ (hbox); have n2_ := A0_ ((by rw [hg]; exact (below_size (wb_ HB.out)) : w.heap.size ≤ gb142)); have n3_ := A0_ ((by rw [hg]; exact (below_size (wb_ HB.out)) : w.heap.size ≤ gb142)); clear HB; have HB := n0_; have BK142 := n1_; have GW142 := n2_; have GE142 := n3_; clear n0_ n1_ n2_ n3_; clear hb hbox hg) | ((with_reducible refine gate_dst (N := 3) rfl ?_); refine box_event ?hg (N := 3) ?hd (cs := #[.string a1_0, .string a1_1, .string a1_2, .int .u8 a1_3, .int .i64 a1_4, .int .i64 a1_5, .int .i64 a1_6, .int .i64 a1_7, .slice A1_8 l1_8.length c1_8]) (t := 49) ?hr ?_; (case hd => rfl); (case hg => rfl); (case hr => first | (go_simp; done) | (go_simp; rfl)); intro gb143 hg w15 hbox hb; have n0_ := A0_ (blk_below (g := gb142) (o := .cells #[.string a0_0, .string a0_1, .string a0_2, .int .u8 a0_3, .int .i64 a0_4, .int .i64 a0_5, .int .i64 a0_6, .int .i64 a0_7, .slice A0_8 l0_8.length c0_8] 49 (0, 0)) (wB_ BK142.out) hb); have n1_ := A0_ (below_step (wb1_ HB.out GE142.out) hb); have n2_ := A0_ (hbox); have n3_ := A0_ ((by rw [hg]; exact (below_size (wb1_ HB.out GE142.out)) : w.heap.size ≤ gb143)); have n4_ := A0_ ((by rw [hg]; exact (below_size (wb1_ HB.out GE142.out)) : w.heap.size ≤ gb143)); have n5_ := A0_ ((by rw [hg]; exact Nat.ne_of_lt (blk_lt (g := gb142) (o := .cells #[.string a0_0, .string a0_1, .string a0_2, .int .u8 a0_3, .int .i64 a0_4, .int .i64 a0_5, .int .i64 a0_6, .int .i64 a0_7, .slice A0_8 l0_8.length c0_8] 49 (0, 0)) (wB_ BK142.out)) : gb142 ≠ gb143)); have n6_ := A0_ ((by rw [hg]; exact Nat.ne_of_gt (blk_lt (g := gb142) (o := .cells #[.string a0_0, .string a0_1, .string a0_2, .int .u8 a0_3, .int .i64 a0_4, .int .i64 a0_5, .int .i64 a0_6, .int .i64 a0_7, .slice A0_8 l0_8.length c0_8] 49 (0, 0)) (wB_ BK142.out)) : gb143 ≠ gb142)); clear BK142; clear HB; have BK142 := n0_; have HB := n1_; have BK143 := n2_; have GW143 := n3_; have GE143 := n4_; have NB142_143 := n5_; have NB143_142 := n6_; clear n0_ n1_ n2_ n3_ n4_ n5_ n6_; clear hb hbox hg; have hnb16 := NB142_143.out; have hnc16 := NB143_142.out; have hcz17_0 : w15.cell? ⟨gb142, 0, none⟩ = some (.string a0_0) := (bc_ BK142.out 0).trans rfl; have hcz17_1 : w15.cell? ⟨gb142, 1, none⟩ = some (.string a0_1) := (bc_ BK142.out 1).trans rfl; have hcz17_2 : w15.cell? ⟨gb142, 2, none⟩ = some (.string a0_2) := (bc_ BK142.out 2).trans rfl; have hcz17_3 : w15.cell? ⟨gb142, 3, none⟩ = some (.int .u8 a0_3) := (bc_ BK142.out 3).trans rfl; have hcz17_4 : w15.cell? ⟨gb142, 4, none⟩ = some (.int .i64 a0_4) := (bc_ BK142.out 4).trans rfl; have hcz17_5 : w15.cell? ⟨gb142, 5, none⟩ = some (.int .i64 a0_5) := (bc_ BK142.out 5).trans rfl; have hcz17_6 : w15.cell? ⟨gb142, 6, none⟩ = some (.int .i64 a0_6) := (bc_ BK142.out 6).trans rfl; have hcz17_7 : w15.cell? ⟨gb142, 7, none⟩ = some (.int .i64 a0_7) := (bc_ BK142.out 7).trans rfl; have hcz17_8 : w15.cell? ⟨gb142, 8, none⟩ = some (.slice A0_8 l0_8.length c0_8) := (bc_ BK142.out 8).trans rfl; have hfz17_0 := bf_ BK142.out 0; have hfz17_1 := bf_ BK142.out 1; have hfz17_2 := bf_ BK142.out 2; have hfz17_3 := bf_ BK142.out 3; have hfz17_4 := bf_ BK142.out 4; have hfz17_5 := bf_ BK142.out 5; have hfz17_6 := bf_ BK142.out 6; have hfz17_7 := bf_ BK142.out 7; have hfz17_8 := bf_ BK142.out 8; have hcz18_0 : w15.cell? ⟨gb143, 0, none⟩ = some (.string a1_0) := (bc_ BK143.out 0).trans rfl; have hcz18_1 : w15.cell? ⟨gb143, 1, none⟩ = some (.string a1_1) := (bc_ BK143.out 1).trans rfl; have hcz18_2 : w15.cell? ⟨gb143, 2, none⟩ = some (.string a1_2) := (bc_ BK143.out 2).trans rfl; have hcz18_3 : w15.cell? ⟨gb143, 3, none⟩ = some (.int .u8 a1_3) := (bc_ BK143.out 3).trans rfl; have hcz18_4 : w15.cell? ⟨gb143, 4, none⟩ = some (.int .i64 a1_4) := (bc_ BK143.out 4).trans rfl; have hcz18_5 : w15.cell? ⟨gb143, 5, none⟩ = some (.int .i64 a1_5) := (bc_ BK143.out 5).trans rfl; have hcz18_6 : w15.cell? ⟨gb143, 6, none⟩ = some (.int .i64 a1_6) := (bc_ BK143.out 6).trans rfl; have hcz18_7 : w15.cell? ⟨gb143, 7, none⟩ = some (.int .i64 a1_7) := (bc_ BK143.out 7).trans rfl; have hcz18_8 : w15.cell? ⟨gb143, 8, none⟩ = some (.slice A1_8 l1_8.length c1_8) := (bc_ BK143.out 8).trans rfl; have hfz18_0 := bf_ BK143.out 0; have hfz18_1 := bf_ BK143.out 1; have hfz18_2 := bf_ BK143.out 2; have hfz18_3 := bf_ BK143.out 3; have hfz18_4 := bf_ BK143.out 4; have hfz18_5 := bf_ BK143.out 5; have hfz18_6 := bf_ BK143.out 6; have hfz18_7 := bf_ BK143.out 7; have hfz18_8 := bf_ BK143.out 8))
  go_ret
  exact ⟨we_, wb2_ HB.out GE142.out GE143.out⟩
 rw [if_pos c6] at H
 have c6b0 : (a0_1.toList == a1_1.toList) = true := beq_iff_eq.mpr c6
 have c6b1 : (a0_1.toList != a1_1.toList) = false := bne_eq_false_iff_eq.mpr c6
 clear c6
 obtain rfl := Option.some.inj H
 go_enter Tryz.func21, Tryz.ntmps21
 go_wp2_with (first | ((with_reducible refine gate_dst (N := 2) rfl ?_); refine box_event ?hg (N := 2) ?hd (cs := #[.string a0_0, .string a0_1, .string a0_2, .int .u8 a0_3, .int .i64 a0_4, .int .i64 a0_5, .int .i64 a0_6, .int .i64 a0_7, .slice A0_8 l0_8.length c0_8]) (t := 49) ?hr ?_; (case hd => rfl); (case hg => rfl); (case hr => first | (go_simp; done) | (go_simp; rfl)); intro gb142 hg w7 hbox hb; have n0_ := A0_ (below_step (wb_ HB.out) hb); have n1_ := A0_ (hbox); have n2_ := A0_ ((by rw [hg]; exact (below_size (wb_ HB.out)) : w.heap.size ≤ gb142)); have n3_ := A0_ ((by rw [hg]; exact (below_size (wb_ HB.out)) : w.heap.size ≤ gb142)); clear HB; have HB := n0_; have BK142 := n1_; have GW142 := n2_; have GE142 := n3_; clear n0_ n1_ n2_ n3_; clear hb hbox hg) | ((with_reducible refine gate_dst (N := 3) rfl ?_); refine box_event ?hg (N := 3) ?hd (cs := #[.string a1_0, .string a1_1, .string a1_2, .int .u8 a1_3, .int .i64 a1_4, .int .i64 a1_5, .int .i64 a1_6, .int .i64 a1_7, .slice A1_8 l1_8.length c1_8]) (t := 49) ?hr ?_; (case hd => rfl); (case hg => rfl); (case hr => first | (go_simp; done) | (go_simp; rfl)); intro gb143 hg w8 hbox hb; have n0_ := A0_ (blk_below (g := gb142) (o := .cells #[.string a0_0, .string a0_1, .string a0_2, .int .u8 a0_3, .int .i64 a0_4, .int .i64 a0_5, .int .i64 a0_6, .int .i64 a0_7, .slice A0_8 l0_8.length c0_8] 49 (0, 0)) (wB_ BK142.out) hb); have n1_ := A0_ (below_step (wb1_ HB.out GE142.out) hb); have n2_ := A0_ (hbox); have n3_ := A0_ ((by rw [hg]; exact (below_size (wb1_ HB.out GE142.out)) : w.heap.size ≤ gb143)); have n4_ := A0_ ((by rw [hg]; exact (below_size (wb1_ HB.out GE142.out)) : w.heap.size ≤ gb143)); have n5_ := A0_ ((by rw [hg]; exact Nat.ne_of_lt (blk_lt (g := gb142) (o := .cells #[.string a0_0, .string a0_1, .string a0_2, .int .u8 a0_3, .int .i64 a0_4, .int .i64 a0_5, .int .i64 a0_6, .int .i64 a0_7, .slice A0_8 l0_8.length c0_8] 49 (0, 0)) (wB_ BK142.out)) : gb142 ≠ gb143)); have n6_ := A0_ ((by rw [hg]; exact Nat.ne_of_gt (blk_lt (g := gb142) (o := .cells #[.string a0_0, .string a0_1, .string a0_2, .int .u8 a0_3, .int .i64 a0_4, .int .i64 a0_5, .int .i64 a0_6, .int .i64 a0_7, .slice A0_8 l0_8.length c0_8] 49 (0, 0)) (wB_ BK142.out)) : gb143 ≠ gb142)); clear BK142; clear HB; have BK142 := n0_; have HB := n1_; have BK143 := n2_; have GW143 := n3_; have GE143 := n4_; have NB142_143 := n5_; have NB143_142 := n6_; clear n0_ n1_ n2_ n3_ n4_ n5_ n6_; clear hb hbox hg; have hnb9 := NB142_143.out; have hnc9 := NB143_142.out; have hcz10_0 : w8.cell? ⟨gb142, 0, none⟩ = some (.string a0_0) := (bc_ BK142.out 0).trans rfl; have hcz10_1 : w8.cell? ⟨gb142, 1, none⟩ = some (.string a0_1) := (bc_ BK142.out 1).trans rfl; have hcz10_2 : w8.cell? ⟨gb142, 2, none⟩ = some (.string a0_2) := (bc_ BK142.out 2).trans rfl; have hcz10_3 : w8.cell? ⟨gb142, 3, none⟩ = some (.int .u8 a0_3) := (bc_ BK142.out 3).trans rfl; have hcz10_4 : w8.cell? ⟨gb142, 4, none⟩ = some (.int .i64 a0_4) := (bc_ BK142.out 4).trans rfl; have hcz10_5 : w8.cell? ⟨gb142, 5, none⟩ = some (.int .i64 a0_5) := (bc_ BK142.out 5).trans rfl; have hcz10_6 : w8.cell? ⟨gb142, 6, none⟩ = some (.int .i64 a0_6) := (bc_ BK142.out 6).trans rfl; have hcz10_7 : w8.cell? ⟨gb142, 7, none⟩ = some (.int .i64 a0_7) := (bc_ BK142.out 7).trans rfl; have hcz10_8 : w8.cell? ⟨gb142, 8, none⟩ = some (.slice A0_8 l0_8.length c0_8) := (bc_ BK142.out 8).trans rfl; have hfz10_0 := bf_ BK142.out 0; have hfz10_1 := bf_ BK142.out 1; have hfz10_2 := bf_ BK142.out 2; have hfz10_3 := bf_ BK142.out 3; have hfz10_4 := bf_ BK142.out 4; have hfz10_5 := bf_ BK142.out 5; have hfz10_6 := bf_ BK142.out 6; have hfz10_7 := bf_ BK142.out 7; have hfz10_8 := bf_ BK142.out 8; have hcz11_0 : w8.cell? ⟨gb143, 0, none⟩ = some (.string a1_0) := (bc_ BK143.out 0).trans rfl; have hcz11_1 : w8.cell? ⟨gb143, 1, none⟩ = some (.string a1_1) := (bc_ BK143.out 1).trans rfl; have hcz11_2 : w8.cell? ⟨gb143, 2, none⟩ = some (.string a1_2) := (bc_ BK143.out 2).trans rfl; have hcz11_3 : w8.cell? ⟨gb143, 3, none⟩ = some (.int .u8 a1_3) := (bc_ BK143.out 3).trans rfl; have hcz11_4 : w8.cell? ⟨gb143, 4, none⟩ = some (.int .i64 a1_4) := (bc_ BK143.out 4).trans rfl; have hcz11_5 : w8.cell? ⟨gb143, 5, none⟩ = some (.int .i64 a1_5) := (bc_ BK143.out 5).trans rfl; have hcz11_6 : w8.cell? ⟨gb143, 6, none⟩ = some (.int .i64 a1_6) := (bc_ BK143.out 6).trans rfl; have hcz11_7 : w8.cell? ⟨gb143, 7, none⟩ = some (.int .i64 a1_7) := (bc_ BK143.out 7).trans rfl; have hcz11_8 : w8.cell? ⟨gb143, 8, none⟩ = some (.slice A1_8 l1_8.length c1_8) := (bc_ BK143.out 8).trans rfl; have hfz11_0 := bf_ BK143.out 0; have hfz11_1 := bf_ BK143.out 1; have hfz11_2 := bf_ BK143.out 2; have hfz11_3 := bf_ BK143.out 3; have hfz11_4 := bf_ BK143.out 4; have hfz11_5 := bf_ BK143.out 5; have hfz11_6 := bf_ BK143.out 6; have hfz11_7 := bf_ BK143.out 7; have hfz11_8 := bf_ BK143.out 8; have hcv12 := Kd.C_string (P := Tryz.prog) (A := A0_8) (c := c0_8) Tryz.underlying41 Tryz.underlying5 Tryz.underlying9 (Kd.C_below HR0_8.out HB.out); have hcv13 := Kd.C_string (P := Tryz.prog) (A := A1_8) (c := c1_8) Tryz.underlying41 Tryz.underlying5 Tryz.underlying9 (Kd.C_below HR1_8.out HB.out)))
 go_ret
 exact ⟨we_, wb2_ HB.out GE142.out GE143.out⟩
end Go.Proofs.YtiijbmaamblidaaGreatDoor.Print

namespace Go.Proofs.YtiijbmaamblidaaGreatDoor.Print
open Go.RowKit Go.Proofs.YtiijbmaamblidaaGreatDoorW.PrintWords Go.Proofs.YtiijbmaamblidaaGreatDoorW.PrintLast Go.Proofs.YtiijbmaamblidaaGreatDoorW.PrintMore
attribute [local go_sem] max2_int min2_int max_two min_two max_three min_three max_four min_four   -- for this text's walks alone
set_option linter.unusedVariables false
set_option linter.unusedSimpArgs false
abbrev q10_0 : Array Bool := #[false, false, false, false, false, false, false, false, false, false, false, false, false, false, false, false, false, false, false, false, false, false, false]
abbrev q10_1 : Array Bool := #[true, false, false, false, false, false, false, false, false, false, false, false, false, false, false, false, false, false, false, false, false, false, false]
abbrev q10_2 : Array Bool := #[true, true, false, false, false, false, false, false, false, false, false, false, false, false, false, false, false, false, false, false, false, false, false]
abbrev q10_3 : Array Bool := #[true, true, true, false, false, false, false, false, false, false, false, false, false, false, false, false, false, false, false, false, false, false, false]
abbrev q10_4 : Array Bool := #[true, true, true, true, false, false, false, false, false, false, false, false, false, false, false, false, false, false, false, false, false, false, false]
abbrev q10_5 : Array Bool := #[true, true, true, true, false, true, false, false, false, false, false, false, false, false, false, false, false, false, false, false, false, false, false]
abbrev q10_6 : Array Bool := #[true, true, true, true, false, true, true, false, false, false, false, false, false, false, false, false, false, false, false, false, false, false, false]
abbrev q10_7 : Array Bool := #[true, true, true, true, false, true, true, true, false, false, false, false, false, false, false, false, false, false, false, false, false, false, false]
abbrev q10_8 : Array Bool := #[true, true, true, true, false, true, true, true, true, false, false, false, false, false, false, false, false, false, false, false, false, false, false]
abbrev q10_9 : Array Bool := #[true, true, true, true, true, true, true, true, true, false, false, false, false, false, false, false, false, false, false, false, false, false, false]
abbrev q10_10 : Array Bool := #[true, true, true, true, true, true, true, true, true, true, false, false, false, false, false, false, false, false, false, false, false, false, false]
abbrev q10_11 : Array Bool := #[true, true, true, true, true, true, true, true, true, true, true, false, false, false, false, false, false, false, false, false, false, false, false]
abbrev q10_12 : Array Bool := #[true, true, true, true, true, true, true, true, true, true, true, true, false, false, false, false, false, false, false, false, false, false, false]
abbrev q10_13 : Array Bool := #[true, true, true, true, true, true, true, true, true, true, true, true, true, false, false, false, false, false, false, false, false, false, false]
abbrev q10_14 : Array Bool := #[true, true, true, true, true, true, true, true, true, true, true, true, true, true, false, false, false, false, false, false, false, false, false]
abbrev q10_15 : Array Bool := #[true, true, true, true, true, true, true, true, true, true, true, true, true, true, true, false, false, false, false, false, false, false, false]
abbrev q10_16 : Array Bool := #[true, true, true, true, true, true, true, true, true, true, true, true, true, true, true, true, false, false, false, false, false, false, false]
abbrev q10_17 : Array Bool := #[true, true, true, true, true, true, true, true, true, true, true, true, true, true, true, true, true, false, false, false, false, false, false]
abbrev q10_18 : Array Bool := #[true, true, true, true, true, true, true, true, true, true, true, true, true, true, true, true, true, true, false, false, false, false, false]
abbrev q10_19 : Array Bool := #[true, true, true, true, true, true, true, true, true, true, true, true, true, true, true, true, true, true, true, false, false, false, false]
abbrev q10_20 : Array Bool := #[true, true, true, true, true, true, true, true, true, true, true, true, true, true, true, true, true, true, true, true, false, false, false]
abbrev q10_21 : Array Bool := #[true, true, true, true, true, true, true, true, true, true, true, true, true, true, true, true, true, true, true, true, true, false, false]
abbrev q10_22 : Array Bool := #[true, true, true, true, true, true, true, true, true, true, true, true, true, true, true, true, true, true, true, true, true, true, false]
abbrev q10_23 : Array Bool := #[true, true, true, true, true, true, true, true, true, true, true, true, true, true, true, true, true, true, true, true, true, true, true]
abbrev q10_24 : Array Bool := #[true, true, true, true, true, true, true, true, true, true, true, true, true, true, true, false, true, false, false, false, false, false, false]
abbrev q10_25 : Array Bool := #[true, true, true, true, true, true, true, true, true, true, true, true, true, true, true, false, true, true, false, false, false, false, false]
abbrev q10_26 : Array Bool := #[true, true, true, true, true, true, true, true, true, true, true, true, true, true, true, false, true, true, true, false, false, false, false]
def bindleref08_SameTree.l0 : Nat → List (S49) → List (S49) → Int → Option (Bool)
 | 0, _, _, _ => none
 | k + 1, x0, x1, x5 => if x5 < (x0.length : Int) then (if 0 ≤ x5 then (if x5 < (x1.length : Int) then (if ((rd_T49 x0 x5).f2).toList = ((rd_T49 x1 x5).f2).toList then ((bindleref08_Equal.f ((rd_T49 x0 x5).f0) ((rd_T49 x0 x5).f1) ((rd_T49 x0 x5).f2) ((rd_T49 x0 x5).f3) ((rd_T49 x0 x5).f4.f0) ((rd_T49 x0 x5).f4.f1) ((rd_T49 x0 x5).f4.f2) ((rd_T49 x0 x5).f4.f3) ((rd_T49 x0 x5).f5) ((rd_T49 x1 x5).f0) ((rd_T49 x1 x5).f1) ((rd_T49 x1 x5).f2) ((rd_T49 x1 x5).f3) ((rd_T49 x1 x5).f4.f0) ((rd_T49 x1 x5).f4.f1) ((rd_T49 x1 x5).f4.f2) ((rd_T49 x1 x5).f4.f3) ((rd_T49 x1 x5).f5)).bind fun t148 => (if t148 = true then (bindleref08_SameTree.l0 k x0 x1 (wrap64 (x5 + 1))) else (some false))) else (some false)) else (none)) else (none)) else (some true)
def bindleref08_SameTree.f (k : Nat) (l0 : List (S49)) (l1 : List (S49)) : Option (Bool) := if (l0.length : Int) = (l1.length : Int) then (bindleref08_SameTree.l0 k l0 l1 0) else (some false)
def bindleref08_SameTree.T6 : Bool × List (List Nat × List Nat) := (true, [([], []), ([], []), ([0, 1], [0, 1]), ([2], [2]), ([3], [3]), ([], []), ([], []), ([5, 6], [5, 6]), ([7], [7]), ([8], [8]), ([4, 9], [4, 9]), ([10], [10]), ([11], [11]), ([11], [11]), ([12, 13, 11], [11, 12, 13]), ([14, 11], [11, 14]), ([11], [11]), ([11], [11]), ([16, 17, 11], [11, 16, 17]), ([18, 11], [11, 18]), ([15, 19, 11, 11], [11, 15, 19]), ([20, 11], [11, 20]), ([11, 21], [11, 21])])
def bindleref08_SameTree.B6 : List Nat := [0, 0, 3, 7, 15, 0, 0, 96, 224, 480, 1023, 2047, 4095, 4095, 16383, 32767, 4095, 4095, 200703, 462847, 1048575, 2097151, 4194303]
theorem bindleref08_SameTree.tab6 : rtab .any (opsOf Tryz.f10 6) = bindleref08_SameTree.T6 := by kernel_rfl
theorem bindleref08_SameTree.bits6 : waitsOk bindleref08_SameTree.T6.2 bindleref08_SameTree.B6 = true := by kernel_rfl
set_option maxHeartbeats 8000000 in
set_option maxRecDepth 100000 in
theorem bindleref08_SameTree.calls (k : Nat) (A0 : Option Addr) (c0 : Nat) (l0 : List (S49)) (A1 : Option Addr) (c1 : Nat) (l1 : List (S49)) (r : Bool) (w : World) (hr0 : Kd.C k49 w A0 l0.length l0) (hc0 : l0.length ≤ c0) (hr1 : Kd.C k49 w A1 l1.length l1) (hc1 : l1.length ≤ c1) (h : bindleref08_SameTree.f k l0 l1 = some r) :
  Calls Tryz.prog 10 #[.slice A0 l0.length c0, .slice A1 l1.length c1] w fun e w' => e = .returned (.bool r) ∧ Below w.heap.size w w' := by
 have hu49 := Tryz.underlying49
 have HR0 := A0_ hr0
 have HC0 := A0_ hc0
 clear hr0 hc0
 have HR1 := A0_ hr1
 have HC1 := A0_ hc1
 clear hr1 hc1
 have HB := A0_ (Below.refl w.heap.size w)
 have H : (if (l0.length : Int) = (l1.length : Int) then (bindleref08_SameTree.l0 k l0 l1 0) else (some false)) = some r := h
 clear h
 by_cases c3 : (l0.length : Int) = (l1.length : Int)
 rotate_left
 ·rw [if_neg c3] at H
  have c3b0 : ((l0.length : Int) == (l1.length : Int)) = false := beq_eq_false_iff_ne.mpr c3
  have c3b1 : ((l0.length : Int) != (l1.length : Int)) = true := bne_iff_ne.mpr c3
  have c3b2 : (l0.length == l1.length) = false := by first | simpa using c3 | (simp at c3 ⊢; omega)
  obtain rfl := Option.some.inj H
  go_enter Tryz.func10, Tryz.ntmps10
  go_wp2
  go_ret
  exact ⟨we_, wb_ HB.out⟩
 rw [if_pos c3] at H
 have c3b0 : ((l0.length : Int) == (l1.length : Int)) = true := beq_iff_eq.mpr c3
 have c3b1 : ((l0.length : Int) != (l1.length : Int)) = false := bne_eq_false_iff_eq.mpr c3
 have c3b2 : (l0.length == l1.length) = true := by first | simpa using c3 | (simp at c3 ⊢; omega)
 clear c3
 have H' := A0_ H
 clear H
 go_enter Tryz.func10, Tryz.ntmps10
 go_wp2
 go_loopg [5] k (fun kq v5 w' => ∃ (x5_1 : Int), v5 = .int .i64 x5_1 ∧ Aside0 (bindleref08_SameTree.l0 kq l0 l1 x5_1 = some r) ∧ Aside0 (kq ≤ k) ∧ Aside0 (Below w.heap.size w w'))
 case atStart => exact ⟨(0), wr_, H', ⟨Nat.le_refl _⟩, ⟨wb_ HB.out⟩⟩
 case round =>
  clear H'
  try clear c1
  try clear p2
  try clear c3
  try clear c3b0
  try clear c3b1
  try clear c3b2
  obtain ⟨x5_1, rfl, HA, HK1, HB⟩ := hrel
  cases gk with
  | zero => exact absurd HA.out (by simp [bindleref08_SameTree.l0])
  | succ k1 =>
   have H := HA.out
   clear HA
   simp only [bindleref08_SameTree.l0] at H
   by_cases c4 : x5_1 < (l0.length : Int)
   rotate_left
   ·rw [if_neg c4] at H
    have c4b0 : decide (x5_1 < (l0.length : Int)) = false := decide_eq_false c4
    clear c4
    obtain rfl := Option.some.inj H
    go_wp2
    go_ret
    exact ⟨we_, wb_ HB.out⟩
   rw [if_pos c4] at H
   have c4b0 : decide (x5_1 < (l0.length : Int)) = true := decide_eq_true c4
   clear c4
   by_cases c5 : 0 ≤ x5_1
   rotate_left
   ·rw [if_neg c5] at H
    exact absurd H (by simp)
   rw [if_pos c5] at H
   have c5b0 : decide (0 ≤ x5_1) = true := decide_eq_true c5
   clear c5
   by_cases c6 : x5_1 < (l1.length : Int)
   rotate_left
   ·rw [if_neg c6] at H
    exact absurd H (by simp)
   rw [if_pos c6] at H
   have c6b0 : decide (x5_1 < (l1.length : Int)) = true := decide_eq_true c6
   clear c6
   by_cases c7 : ((rd_T49 l0 x5_1).f2).toList = ((rd_T49 l1 x5_1).f2).toList
   rotate_left
   ·rw [if_neg c7] at H
    have c7b0 : (((rd_T49 l0 x5_1).f2).toList == ((rd_T49 l1 x5_1).f2).toList) = false := beq_eq_false_iff_ne.mpr c7
    have c7b1 : (((rd_T49 l0 x5_1).f2).toList != ((rd_T49 l1 x5_1).f2).toList) = true := bne_iff_ne.mpr c7
    obtain rfl := Option.some.inj H
    try go_wp2
    have n0_ := A0_ (b1_ HB.out)
    clear HB
    have HB := n0_
    clear n0_
    have p144 : 0 ≤ (x5_1 : Int) := wd_
    have q144 : x5_1 < (l0.length : Int) := wd_
    obtain ⟨ad144, A144_8, c144_8, e144, hx144_0, hx144_1, hx144_2, hx144_3, hx144_4, hx144_5, hx144_6, hx144_7, hx144_8, hl144_8, hi144_8⟩ := at_T49 HR0.out x5_1 p144 q144
    have hw144_8 := hx144_8
    have hw144_7 := hx144_7
    have hw144_6 := hx144_6
    have hw144_5 := hx144_5
    have hw144_4 := hx144_4
    have hw144_3 := hx144_3
    have hw144_2 := hx144_2
    have hw144_1 := hx144_1
    have hw144_0 := hx144_0
    cases e144
    replace hx144_0 := (HB.out.cell (World.block_lt_of_cell? w _ hx144_0)).trans hx144_0
    replace hx144_1 := (HB.out.cell (World.block_lt_of_cell? w _ hx144_1)).trans hx144_1
    replace hx144_2 := (HB.out.cell (World.block_lt_of_cell? w _ hx144_2)).trans hx144_2
    replace hx144_3 := (HB.out.cell (World.block_lt_of_cell? w _ hx144_3)).trans hx144_3
    replace hx144_4 := (HB.out.cell (World.block_lt_of_cell? w _ hx144_4)).trans hx144_4
    replace hx144_5 := (HB.out.cell (World.block_lt_of_cell? w _ hx144_5)).trans hx144_5
    replace hx144_6 := (HB.out.cell (World.block_lt_of_cell? w _ hx144_6)).trans hx144_6
    replace hx144_7 := (HB.out.cell (World.block_lt_of_cell? w _ hx144_7)).trans hx144_7
    replace hx144_8 := (HB.out.cell (World.block_lt_of_cell? w _ hx144_8)).trans hx144_8
    have HR144_8 := A0_ hi144_8
    have HC144_8 := A0_ hl144_8
    clear hi144_8 hl144_8
    replace p144 := eq_true p144
    replace q144 := eq_true q144
    have p145 : 0 ≤ (x5_1 : Int) := wd_
    have q145 : x5_1 < (l1.length : Int) := wd_
    obtain ⟨ad145, A145_8, c145_8, e145, hx145_0, hx145_1, hx145_2, hx145_3, hx145_4, hx145_5, hx145_6, hx145_7, hx145_8, hl145_8, hi145_8⟩ := at_T49 HR1.out x5_1 p145 q145
    have hw145_8 := hx145_8
    have hw145_7 := hx145_7
    have hw145_6 := hx145_6
    have hw145_5 := hx145_5
    have hw145_4 := hx145_4
    have hw145_3 := hx145_3
    have hw145_2 := hx145_2
    have hw145_1 := hx145_1
    have hw145_0 := hx145_0
    cases e145
    replace hx145_0 := (HB.out.cell (World.block_lt_of_cell? w _ hx145_0)).trans hx145_0
    replace hx145_1 := (HB.out.cell (World.block_lt_of_cell? w _ hx145_1)).trans hx145_1
    replace hx145_2 := (HB.out.cell (World.block_lt_of_cell? w _ hx145_2)).trans hx145_2
    replace hx145_3 := (HB.out.cell (World.block_lt_of_cell? w _ hx145_3)).trans hx145_3
    replace hx145_4 := (HB.out.cell (World.block_lt_of_cell? w _ hx145_4)).trans hx145_4
    replace hx145_5 := (HB.out.cell (World.block_lt_of_cell? w _ hx145_5)).trans hx145_5
    replace hx145_6 := (HB.out.cell (World.block_lt_of_cell? w _ hx145_6)).trans hx145_6
    replace hx145_7 := (HB.out.cell (World.block_lt_of_cell? w _ hx145_7)).trans hx145_7
    replace hx145_8 := (HB.out.cell (World.block_lt_of_cell? w _ hx145_8)).trans hx145_8
    have HR145_8 := A0_ hi145_8
    have HC145_8 := A0_ hl145_8
    clear hi145_8 hl145_8
    replace p145 := eq_true p145
    replace q145 := eq_true q145
    refine start_ (n := 23) (S := fun w' => w'.cell? (ad144.add ((x5_1).toNat * 9)) = some (.string ((rd_T49 l0 x5_1).f0)) ∧ w'.cell? ⟨(ad144.add ((x5_1).toNat * 9)).block, (ad144.add ((x5_1).toNat * 9)).off + 1, none⟩ = some (.string ((rd_T49 l0 x5_1).f1)) ∧ w'.cell? ⟨(ad144.add ((x5_1).toNat * 9)).block, (ad144.add ((x5_1).toNat * 9)).off + 2, none⟩ = some (.string ((rd_T49 l0 x5_1).f2)) ∧ w'.cell? ⟨(ad144.add ((x5_1).toNat * 9)).block, (ad144.add ((x5_1).toNat * 9)).off + 3, none⟩ = some (.int .u8 ((rd_T49 l0 x5_1).f3)) ∧ w'.cell? ⟨(ad144.add ((x5_1).toNat * 9)).block, (ad144.add ((x5_1).toNat * 9)).off + 4, none⟩ = some (.int .i64 ((rd_T49 l0 x5_1).f4.f0)) ∧ w'.cell? ⟨(ad144.add ((x5_1).toNat * 9)).block, (ad144.add ((x5_1).toNat * 9)).off + 5, none⟩ = some (.int .i64 ((rd_T49 l0 x5_1).f4.f1)) ∧ w'.cell? ⟨(ad144.add ((x5_1).toNat * 9)).block, (ad144.add ((x5_1).toNat * 9)).off + 6, none⟩ = some (.int .i64 ((rd_T49 l0 x5_1).f4.f2)) ∧ w'.cell? ⟨(ad144.add ((x5_1).toNat * 9)).block, (ad144.add ((x5_1).toNat * 9)).off + 7, none⟩ = some (.int .i64 ((rd_T49 l0 x5_1).f4.f3)) ∧ w'.cell? ⟨(ad144.add ((x5_1).toNat * 9)).block, (ad144.add ((x5_1).toNat * 9)).off + 8, none⟩ = some (.slice A144_8 ((rd_T49 l0 x5_1).f5).length c144_8) ∧ w'.cell? (ad145.add ((x5_1).toNat * 9)) = some (.string ((rd_T49 l1 x5_1).f0)) ∧ w'.cell? ⟨(ad145.add ((x5_1).toNat * 9)).block, (ad145.add ((x5_1).toNat * 9)).off + 1, none⟩ = some (.string ((rd_T49 l1 x5_1).f1)) ∧ w'.cell? ⟨(ad145.add ((x5_1).toNat * 9)).block, (ad145.add ((x5_1).toNat * 9)).off + 2, none⟩ = some (.string ((rd_T49 l1 x5_1).f2)) ∧ w'.cell? ⟨(ad145.add ((x5_1).toNat * 9)).block, (ad145.add ((x5_1).toNat * 9)).off + 3, none⟩ = some (.int .u8 ((rd_T49 l1 x5_1).f3)) ∧ w'.cell? ⟨(ad145.add ((x5_1).toNat * 9)).block, (ad145.add ((x5_1).toNat * 9)).off + 4, none⟩ = some (.int .i64 ((rd_T49 l1 x5_1).f4.f0)) ∧ w'.cell? ⟨(ad145.add ((x5_1).toNat * 9)).block, (ad145.add ((x5_1).toNat * 9)).off + 5, none⟩ = some (.int .i64 ((rd_T49 l1 x5_1).f4.f1)) ∧ w'.cell? ⟨(ad145.add ((x5_1).toNat * 9)).block, (ad145.add ((x5_1).toNat * 9)).off + 6, none⟩ = some (.int .i64 ((rd_T49 l1 x5_1).f4.f2)) ∧ w'.cell? ⟨(ad145.add ((x5_1).toNat * 9)).block, (ad145.add ((x5_1).toNat * 9)).off + 7, none⟩ = some (.int .i64 ((rd_T49 l1 x5_1).f4.f3)) ∧ w'.cell? ⟨(ad145.add ((x5_1).toNat * 9)).block, (ad145.add ((x5_1).toNat * 9)).off + 8, none⟩ = some (.slice A145_8 ((rd_T49 l1 x5_1).f5).length c145_8)) (ds := []) q10_0 (by kernel_rfl) rfl rfl ⟨((HB.out.cell (World.block_lt_of_cell? w _ hw144_0)).trans hw144_0), ((HB.out.cell (World.block_lt_of_cell? w _ hw144_1)).trans hw144_1), ((HB.out.cell (World.block_lt_of_cell? w _ hw144_2)).trans hw144_2), ((HB.out.cell (World.block_lt_of_cell? w _ hw144_3)).trans hw144_3), ((HB.out.cell (World.block_lt_of_cell? w _ hw144_4)).trans hw144_4), ((HB.out.cell (World.block_lt_of_cell? w _ hw144_5)).trans hw144_5), ((HB.out.cell (World.block_lt_of_cell? w _ hw144_6)).trans hw144_6), ((HB.out.cell (World.block_lt_of_cell? w _ hw144_7)).trans hw144_7), ((HB.out.cell (World.block_lt_of_cell? w _ hw144_8)).trans hw144_8), ((HB.out.cell (World.block_lt_of_cell? w _ hw145_0)).trans hw145_0), ((HB.out.cell (World.block_lt_of_cell? w _ hw145_1)).trans hw145_1), ((HB.out.cell (World.block_lt_of_cell? w _ hw145_2)).trans hw145_2), ((HB.out.cell (World.block_lt_of_cell? w _ hw145_3)).trans hw145_3), ((HB.out.cell (World.block_lt_of_cell? w _ hw145_4)).trans hw145_4), ((HB.out.cell (World.block_lt_of_cell? w _ hw145_5)).trans hw145_5), ((HB.out.cell (World.block_lt_of_cell? w _ hw145_6)).trans hw145_6), ((HB.out.cell (World.block_lt_of_cell? w _ hw145_7)).trans hw145_7), ((HB.out.cell (World.block_lt_of_cell? w _ hw145_8)).trans hw145_8)⟩ (fun hHeld => ?_); refine with_tabW bindleref08_SameTree.tab6 bindleref08_SameTree.bits6 (fun HT_ HW_ => ?_)
    generalize wr.drew = w14 at HB HR144_8 HR145_8 hx144_0 hx144_1 hx144_2 hx144_3 hx144_4 hx144_5 hx144_6 hx144_7 hx144_8 hx145_0 hx145_1 hx145_2 hx145_3 hx145_4 hx145_5 hx145_6 hx145_7 hx145_8 hHeld ⊢
    refine pur_ (i := 0) (N := some 17) q10_1 (any_of HT_.out (by kernel_rfl)) ?_
    refine pur_ (i := 1) (N := some 18) q10_2 (any_of HT_.out (by kernel_rfl)) ?_
    refine pur_ (i := 2) (N := some 19) q10_3 (any_of HT_.out (by kernel_rfl)) ?_
    refine pur_ (i := 3) (N := some 20) q10_4 (any_of HT_.out (by kernel_rfl)) ?_
    refine pur_ (i := 5) (N := some 22) q10_5 (any_of HT_.out (by kernel_rfl)) ?_
    refine pur_ (i := 6) (N := some 23) q10_6 (any_of HT_.out (by kernel_rfl)) ?_
    refine pur_ (i := 7) (N := some 24) q10_7 (any_of HT_.out (by kernel_rfl)) ?_
    refine pur_ (i := 8) (N := some 25) q10_8 (any_of HT_.out (by kernel_rfl)) ?_
    refine take_ (i := 4) (N := some 21) (v := ?_) (a' := ?_) q10_9 rfl rfl (take_ofW HT_.out HW_.out (by kernel_rfl)) (fun _ _ _ h => h) (Or.inl ⟨by rfl, ?_⟩) hHeld ?_ ?_
    rotate_left
    ·rintro w' ⟨s0, s1, s2, s3, s4, s5, s6, s7, s8, s9, s10, s11, s12, s13, s14, s15, s16, s17⟩
     go_simp
     with_reducible rfl
    rotate_left
    ·simp only [Act.put, List.setIfInBounds_toArray, List.set_cons_zero, List.set_cons_succ, i64_w, i32_w]
     rfl
    refine take_ (i := 9) (N := some 26) (v := ?_) (a' := ?_) q10_10 rfl rfl (take_ofW HT_.out HW_.out (by kernel_rfl)) (fun _ _ _ h => h) (Or.inl ⟨by rfl, ?_⟩) hHeld ?_ ?_
    rotate_left
    ·rintro w' ⟨s0, s1, s2, s3, s4, s5, s6, s7, s8, s9, s10, s11, s12, s13, s14, s15, s16, s17⟩
     go_simp
     with_reducible rfl
    rotate_left
    ·simp only [Act.put, List.setIfInBounds_toArray, List.set_cons_zero, List.set_cons_succ, i64_w, i32_w]
     rfl
    refine pur_ (i := 10) (N := some 27) q10_11 (any_of HT_.out (by kernel_rfl)) ?_
    refine pur_ (i := 11) (N := some 28) q10_12 (any_of HT_.out (by kernel_rfl)) ?_
    refine puu_ (i := 12) (N := some 29) q10_13 (any_of HT_.out (by kernel_rfl)) ?_
    refine puu_ (i := 13) (N := some 30) q10_14 (any_of HT_.out (by kernel_rfl)) ?_
    refine puu_ (i := 14) (N := some 31) q10_15 (any_of HT_.out (by kernel_rfl)) ?_
    refine puu_ (i := 15) (N := some 32) q10_16 (any_of HT_.out (by kernel_rfl)) ?_
    refine puu_ (i := 16) (N := some 33) q10_17 (any_of HT_.out (by kernel_rfl)) ?_
    refine puu_ (i := 17) (N := some 34) q10_18 (any_of HT_.out (by kernel_rfl)) ?_
    refine puu_ (i := 18) (N := some 35) q10_19 (any_of HT_.out (by kernel_rfl)) ?_
    refine puu_ (i := 19) (N := some 36) q10_20 (any_of HT_.out (by kernel_rfl)) ?_
    refine puu_ (i := 20) (N := some 37) q10_21 (any_of HT_.out (by kernel_rfl)) ?_
    refine puu_ (i := 21) (N := some 38) q10_22 (any_of HT_.out (by kernel_rfl)) ?_
    refine pur_ (i := 22) (N := some 39) q10_23 (any_of HT_.out (by kernel_rfl)) ?_
    refine done_ (done_of HT_.out (by kernel_rfl)) ?_
    try go_wp2
    go_ret
    exact ⟨we_, wb_ HB.out⟩
   rw [if_pos c7] at H
   have c7b0 : (((rd_T49 l0 x5_1).f2).toList == ((rd_T49 l1 x5_1).f2).toList) = true := beq_iff_eq.mpr c7
   have c7b1 : (((rd_T49 l0 x5_1).f2).toList != ((rd_T49 l1 x5_1).f2).toList) = false := bne_eq_false_iff_eq.mpr c7
   clear c7
   replace H := Option.bind_eq_some_iff.mp H
   obtain ⟨t148, A80, H⟩ := H
   replace H : (if t148 = true then (bindleref08_SameTree.l0 k1 l0 l1 (wrap64 (x5_1 + 1))) else (some false)) = some r := H
   have A8 := A0_ A80
   clear A80
   by_cases c9 : t148 = true
   rotate_left
   ·replace c9 := Bool.eq_false_iff.mpr c9
    subst c9
    have H1 : (some false) = some r := by rw [if_neg (show ¬ (false = true) by decide)] at H; exact H
    clear H
    have H := H1
    clear H1
    obtain rfl := Option.some.inj H
    try go_wp2
    have n0_ := A0_ (b1_ HB.out)
    clear HB
    have HB := n0_
    clear n0_
    have p144 : 0 ≤ (x5_1 : Int) := wd_
    have q144 : x5_1 < (l0.length : Int) := wd_
    obtain ⟨ad144, A144_8, c144_8, e144, hx144_0, hx144_1, hx144_2, hx144_3, hx144_4, hx144_5, hx144_6, hx144_7, hx144_8, hl144_8, hi144_8⟩ := at_T49 HR0.out x5_1 p144 q144
    have hw144_8 := hx144_8
    have hw144_7 := hx144_7
    have hw144_6 := hx144_6
    have hw144_5 := hx144_5
    have hw144_4 := hx144_4
    have hw144_3 := hx144_3
    have hw144_2 := hx144_2
    have hw144_1 := hx144_1
    have hw144_0 := hx144_0
    cases e144
    replace hx144_0 := (HB.out.cell (World.block_lt_of_cell? w _ hx144_0)).trans hx144_0
    replace hx144_1 := (HB.out.cell (World.block_lt_of_cell? w _ hx144_1)).trans hx144_1
    replace hx144_2 := (HB.out.cell (World.block_lt_of_cell? w _ hx144_2)).trans hx144_2
    replace hx144_3 := (HB.out.cell (World.block_lt_of_cell? w _ hx144_3)).trans hx144_3
    replace hx144_4 := (HB.out.cell (World.block_lt_of_cell? w _ hx144_4)).trans hx144_4
    replace hx144_5 := (HB.out.cell (World.block_lt_of_cell? w _ hx144_5)).trans hx144_5
    replace hx144_6 := (HB.out.cell (World.block_lt_of_cell? w _ hx144_6)).trans hx144_6
    replace hx144_7 := (HB.out.cell (World.block_lt_of_cell? w _ hx144_7)).trans hx144_7
    replace hx144_8 := (HB.out.cell (World.block_lt_of_cell? w _ hx144_8)).trans hx144_8
    have HR144_8 := A0_ hi144_8
    have HC144_8 := A0_ hl144_8
    clear hi144_8 hl144_8
    replace p144 := eq_true p144
    replace q144 := eq_true q144
    have p145 : 0 ≤ (x5_1 : Int) := wd_
    have q145 : x5_1 < (l1.length : Int) := wd_
    obtain ⟨ad145, A145_8, c145_8, e145, hx145_0, hx145_1, hx145_2, hx145_3, hx145_4, hx145_5, hx145_6, hx145_7, hx145_8, hl145_8, hi145_8⟩ := at_T49 HR1.out x5_1 p145 q145
    have hw145_8 := hx145_8
    have hw145_7 := hx145_7
    have hw145_6 := hx145_6
    have hw145_5 := hx145_5
    have hw145_4 := hx145_4
    have hw145_3 := hx145_3
    have hw145_2 := hx145_2
    have hw145_1 := hx145_1
    have hw145_0 := hx145_0
    cases e145
    replace hx145_0 := (HB.out.cell (World.block_lt_of_cell? w _ hx145_0)).trans hx145_0
    replace hx145_1 := (HB.out.cell (World.block_lt_of_cell? w _ hx145_1)).trans hx145_1
    replace hx145_2 := (HB.out.cell (World.block_lt_of_cell? w _ hx145_2)).trans hx145_2
    replace hx145_3 := (HB.out.cell (World.block_lt_of_cell? w _ hx145_3)).trans hx145_3
    replace hx145_4 := (HB.out.cell (World.block_lt_of_cell? w _ hx145_4)).trans hx145_4
    replace hx145_5 := (HB.out.cell (World.block_lt_of_cell? w _ hx145_5)).trans hx145_5
    replace hx145_6 := (HB.out.cell (World.block_lt_of_cell? w _ hx145_6)).trans hx145_6
    replace hx145_7 := (HB.out.cell (World.block_lt_of_cell? w _ hx145_7)).trans hx145_7
    replace hx145_8 := (HB.out.cell (World.block_lt_of_cell? w _ hx145_8)).trans hx145_8
    have HR145_8 := A0_ hi145_8
    have HC145_8 := A0_ hl145_8
    clear hi145_8 hl145_8
    replace p145 := eq_true p145
    replace q145 := eq_true q145
    have p146 : 0 ≤ (x5_1 : Int) := wd_
    have q146 : x5_1 < (l0.length : Int) := wd_
    obtain ⟨ad146, A146_8, c146_8, e146, hx146_0, hx146_1, hx146_2, hx146_3, hx146_4, hx146_5, hx146_6, hx146_7, hx146_8, hl146_8, hi146_8⟩ := at_T49 HR0.out x5_1 p146 q146
    have hw146_8 := hx146_8
    have hw146_7 := hx146_7
    have hw146_6 := hx146_6
    have hw146_5 := hx146_5
    have hw146_4 := hx146_4
    have hw146_3 := hx146_3
    have hw146_2 := hx146_2
    have hw146_1 := hx146_1
    have hw146_0 := hx146_0
    obtain rfl : ad144 = ad146 := (by injection e146)
    replace hx146_0 := (HB.out.cell (World.block_lt_of_cell? w _ hx146_0)).trans hx146_0
    replace hx146_1 := (HB.out.cell (World.block_lt_of_cell? w _ hx146_1)).trans hx146_1
    replace hx146_2 := (HB.out.cell (World.block_lt_of_cell? w _ hx146_2)).trans hx146_2
    replace hx146_3 := (HB.out.cell (World.block_lt_of_cell? w _ hx146_3)).trans hx146_3
    replace hx146_4 := (HB.out.cell (World.block_lt_of_cell? w _ hx146_4)).trans hx146_4
    replace hx146_5 := (HB.out.cell (World.block_lt_of_cell? w _ hx146_5)).trans hx146_5
    replace hx146_6 := (HB.out.cell (World.block_lt_of_cell? w _ hx146_6)).trans hx146_6
    replace hx146_7 := (HB.out.cell (World.block_lt_of_cell? w _ hx146_7)).trans hx146_7
    replace hx146_8 := (HB.out.cell (World.block_lt_of_cell? w _ hx146_8)).trans hx146_8
    have HR146_8 := A0_ hi146_8
    have HC146_8 := A0_ hl146_8
    clear hi146_8 hl146_8
    replace p146 := eq_true p146
    replace q146 := eq_true q146
    have ea_ := Option.some.inj (hx144_8.symm.trans hx146_8)
    injection ea_ with ea_ en_ ec_
    subst ea_
    subst ec_
    clear en_
    have p147 : 0 ≤ (x5_1 : Int) := wd_
    have q147 : x5_1 < (l1.length : Int) := wd_
    obtain ⟨ad147, A147_8, c147_8, e147, hx147_0, hx147_1, hx147_2, hx147_3, hx147_4, hx147_5, hx147_6, hx147_7, hx147_8, hl147_8, hi147_8⟩ := at_T49 HR1.out x5_1 p147 q147
    have hw147_8 := hx147_8
    have hw147_7 := hx147_7
    have hw147_6 := hx147_6
    have hw147_5 := hx147_5
    have hw147_4 := hx147_4
    have hw147_3 := hx147_3
    have hw147_2 := hx147_2
    have hw147_1 := hx147_1
    have hw147_0 := hx147_0
    obtain rfl : ad145 = ad147 := (by injection e147)
    replace hx147_0 := (HB.out.cell (World.block_lt_of_cell? w _ hx147_0)).trans hx147_0
    replace hx147_1 := (HB.out.cell (World.block_lt_of_cell? w _ hx147_1)).trans hx147_1
    replace hx147_2 := (HB.out.cell (World.block_lt_of_cell? w _ hx147_2)).trans hx147_2
    replace hx147_3 := (HB.out.cell (World.block_lt_of_cell? w _ hx147_3)).trans hx147_3
    replace hx147_4 := (HB.out.cell (World.block_lt_of_cell? w _ hx147_4)).trans hx147_4
    replace hx147_5 := (HB.out.cell (World.block_lt_of_cell? w _ hx147_5)).trans hx147_5
    replace hx147_6 := (HB.out.cell (World.block_lt_of_cell? w _ hx147_6)).trans hx147_6
    replace hx147_7 := (HB.out.cell (World.block_lt_of_cell? w _ hx147_7)).trans hx147_7
    replace hx147_8 := (HB.out.cell (World.block_lt_of_cell? w _ hx147_8)).trans hx147_8
    have HR147_8 := A0_ hi147_8
    have HC147_8 := A0_ hl147_8
    clear hi147_8 hl147_8
    replace p147 := eq_true p147
    replace q147 := eq_true q147
    have ea_ := Option.some.inj (hx145_8.symm.trans hx147_8)
    injection ea_ with ea_ en_ ec_
    subst ea_
    subst ec_
    clear en_
    refine start_ (n := 23) (S := fun w' => w'.cell? (ad144.add ((x5_1).toNat * 9)) = some (.string ((rd_T49 l0 x5_1).f0)) ∧ w'.cell? ⟨(ad144.add ((x5_1).toNat * 9)).block, (ad144.add ((x5_1).toNat * 9)).off + 1, none⟩ = some (.string ((rd_T49 l0 x5_1).f1)) ∧ w'.cell? ⟨(ad144.add ((x5_1).toNat * 9)).block, (ad144.add ((x5_1).toNat * 9)).off + 2, none⟩ = some (.string ((rd_T49 l0 x5_1).f2)) ∧ w'.cell? ⟨(ad144.add ((x5_1).toNat * 9)).block, (ad144.add ((x5_1).toNat * 9)).off + 3, none⟩ = some (.int .u8 ((rd_T49 l0 x5_1).f3)) ∧ w'.cell? ⟨(ad144.add ((x5_1).toNat * 9)).block, (ad144.add ((x5_1).toNat * 9)).off + 4, none⟩ = some (.int .i64 ((rd_T49 l0 x5_1).f4.f0)) ∧ w'.cell? ⟨(ad144.add ((x5_1).toNat * 9)).block, (ad144.add ((x5_1).toNat * 9)).off + 5, none⟩ = some (.int .i64 ((rd_T49 l0 x5_1).f4.f1)) ∧ w'.cell? ⟨(ad144.add ((x5_1).toNat * 9)).block, (ad144.add ((x5_1).toNat * 9)).off + 6, none⟩ = some (.int .i64 ((rd_T49 l0 x5_1).f4.f2)) ∧ w'.cell? ⟨(ad144.add ((x5_1).toNat * 9)).block, (ad144.add ((x5_1).toNat * 9)).off + 7, none⟩ = some (.int .i64 ((rd_T49 l0 x5_1).f4.f3)) ∧ w'.cell? ⟨(ad144.add ((x5_1).toNat * 9)).block, (ad144.add ((x5_1).toNat * 9)).off + 8, none⟩ = some (.slice A144_8 ((rd_T49 l0 x5_1).f5).length c144_8) ∧ w'.cell? (ad145.add ((x5_1).toNat * 9)) = some (.string ((rd_T49 l1 x5_1).f0)) ∧ w'.cell? ⟨(ad145.add ((x5_1).toNat * 9)).block, (ad145.add ((x5_1).toNat * 9)).off + 1, none⟩ = some (.string ((rd_T49 l1 x5_1).f1)) ∧ w'.cell? ⟨(ad145.add ((x5_1).toNat * 9)).block, (ad145.add ((x5_1).toNat * 9)).off + 2, none⟩ = some (.string ((rd_T49 l1 x5_1).f2)) ∧ w'.cell? ⟨(ad145.add ((x5_1).toNat * 9)).block, (ad145.add ((x5_1).toNat * 9)).off + 3, none⟩ = some (.int .u8 ((rd_T49 l1 x5_1).f3)) ∧ w'.cell? ⟨(ad145.add ((x5_1).toNat * 9)).block, (ad145.add ((x5_1).toNat * 9)).off + 4, none⟩ = some (.int .i64 ((rd_T49 l1 x5_1).f4.f0)) ∧ w'.cell? ⟨(ad145.add ((x5_1).toNat * 9)).block, (ad145.add ((x5_1).toNat * 9)).off + 5, none⟩ = some (.int .i64 ((rd_T49 l1 x5_1).f4.f1)) ∧ w'.cell? ⟨(ad145.add ((x5_1).toNat * 9)).block, (ad145.add ((x5_1).toNat * 9)).off + 6, none⟩ = some (.int .i64 ((rd_T49 l1 x5_1).f4.f2)) ∧ w'.cell? ⟨(ad145.add ((x5_1).toNat * 9)).block, (ad145.add ((x5_1).toNat * 9)).off + 7, none⟩ = some (.int .i64 ((rd_T49 l1 x5_1).f4.f3)) ∧ w'.cell? ⟨(ad145.add ((x5_1).toNat * 9)).block, (ad145.add ((x5_1).toNat * 9)).off + 8, none⟩ = some (.slice A145_8 ((rd_T49 l1 x5_1).f5).length c145_8) ∧ w'.cell? (ad144.add ((x5_1).toNat * 9)) = some (.string ((rd_T49 l0 x5_1).f0)) ∧ w'.cell? ⟨(ad144.add ((x5_1).toNat * 9)).block, (ad144.add ((x5_1).toNat * 9)).off + 1, none⟩ = some (.string ((rd_T49 l0 x5_1).f1)) ∧ w'.cell? ⟨(ad144.add ((x5_1).toNat * 9)).block, (ad144.add ((x5_1).toNat * 9)).off + 2, none⟩ = some (.string ((rd_T49 l0 x5_1).f2)) ∧ w'.cell? ⟨(ad144.add ((x5_1).toNat * 9)).block, (ad144.add ((x5_1).toNat * 9)).off + 3, none⟩ = some (.int .u8 ((rd_T49 l0 x5_1).f3)) ∧ w'.cell? ⟨(ad144.add ((x5_1).toNat * 9)).block, (ad144.add ((x5_1).toNat * 9)).off + 4, none⟩ = some (.int .i64 ((rd_T49 l0 x5_1).f4.f0)) ∧ w'.cell? ⟨(ad144.add ((x5_1).toNat * 9)).block, (ad144.add ((x5_1).toNat * 9)).off + 5, none⟩ = some (.int .i64 ((rd_T49 l0 x5_1).f4.f1)) ∧ w'.cell? ⟨(ad144.add ((x5_1).toNat * 9)).block, (ad144.add ((x5_1).toNat * 9)).off + 6, none⟩ = some (.int .i64 ((rd_T49 l0 x5_1).f4.f2)) ∧ w'.cell? ⟨(ad144.add ((x5_1).toNat * 9)).block, (ad144.add ((x5_1).toNat * 9)).off + 7, none⟩ = some (.int .i64 ((rd_T49 l0 x5_1).f4.f3)) ∧ w'.cell? ⟨(ad144.add ((x5_1).toNat * 9)).block, (ad144.add ((x5_1).toNat * 9)).off + 8, none⟩ = some (.slice A144_8 ((rd_T49 l0 x5_1).f5).length c144_8) ∧ w'.cell? (ad145.add ((x5_1).toNat * 9)) = some (.string ((rd_T49 l1 x5_1).f0)) ∧ w'.cell? ⟨(ad145.add ((x5_1).toNat * 9)).block, (ad145.add ((x5_1).toNat * 9)).off + 1, none⟩ = some (.string ((rd_T49 l1 x5_1).f1)) ∧ w'.cell? ⟨(ad145.add ((x5_1).toNat * 9)).block, (ad145.add ((x5_1).toNat * 9)).off + 2, none⟩ = some (.string ((rd_T49 l1 x5_1).f2)) ∧ w'.cell? ⟨(ad145.add ((x5_1).toNat * 9)).block, (ad145.add ((x5_1).toNat * 9)).off + 3, none⟩ = some (.int .u8 ((rd_T49 l1 x5_1).f3)) ∧ w'.cell? ⟨(ad145.add ((x5_1).toNat * 9)).block, (ad145.add ((x5_1).toNat * 9)).off + 4, none⟩ = some (.int .i64 ((rd_T49 l1 x5_1).f4.f0)) ∧ w'.cell? ⟨(ad145.add ((x5_1).toNat * 9)).block, (ad145.add ((x5_1).toNat * 9)).off + 5, none⟩ = some (.int .i64 ((rd_T49 l1 x5_1).f4.f1)) ∧ w'.cell? ⟨(ad145.add ((x5_1).toNat * 9)).block, (ad145.add ((x5_1).toNat * 9)).off + 6, none⟩ = some (.int .i64 ((rd_T49 l1 x5_1).f4.f2)) ∧ w'.cell? ⟨(ad145.add ((x5_1).toNat * 9)).block, (ad145.add ((x5_1).toNat * 9)).off + 7, none⟩ = some (.int .i64 ((rd_T49 l1 x5_1).f4.f3)) ∧ w'.cell? ⟨(ad145.add ((x5_1).toNat * 9)).block, (ad145.add ((x5_1).toNat * 9)).off + 8, none⟩ = some (.slice A145_8 ((rd_T49 l1 x5_1).f5).length c145_8)) (ds := []) q10_0 (by kernel_rfl) rfl rfl ⟨((HB.out.cell (World.block_lt_of_cell? w _ hw144_0)).trans hw144_0), ((HB.out.cell (World.block_lt_of_cell? w _ hw144_1)).trans hw144_1), ((HB.out.cell (World.block_lt_of_cell? w _ hw144_2)).trans hw144_2), ((HB.out.cell (World.block_lt_of_cell? w _ hw144_3)).trans hw144_3), ((HB.out.cell (World.block_lt_of_cell? w _ hw144_4)).trans hw144_4), ((HB.out.cell (World.block_lt_of_cell? w _ hw144_5)).trans hw144_5), ((HB.out.cell (World.block_lt_of_cell? w _ hw144_6)).trans hw144_6), ((HB.out.cell (World.block_lt_of_cell? w _ hw144_7)).trans hw144_7), ((HB.out.cell (World.block_lt_of_cell? w _ hw144_8)).trans hw144_8), ((HB.out.cell (World.block_lt_of_cell? w _ hw145_0)).trans hw145_0), ((HB.out.cell (World.block_lt_of_cell? w _ hw145_1)).trans hw145_1), ((HB.out.cell (World.block_lt_of_cell? w _ hw145_2)).trans hw145_2), ((HB.out.cell (World.block_lt_of_cell? w _ hw145_3)).trans hw145_3), ((HB.out.cell (World.block_lt_of_cell? w _ hw145_4)).trans hw145_4), ((HB.out.cell (World.block_lt_of_cell? w _ hw145_5)).trans hw145_5), ((HB.out.cell (World.block_lt_of_cell? w _ hw145_6)).trans hw145_6), ((HB.out.cell (World.block_lt_of_cell? w _ hw145_7)).trans hw145_7), ((HB.out.cell (World.block_lt_of_cell? w _ hw145_8)).trans hw145_8), ((HB.out.cell (World.block_lt_of_cell? w _ hw146_0)).trans hw146_0), ((HB.out.cell (World.block_lt_of_cell? w _ hw146_1)).trans hw146_1), ((HB.out.cell (World.block_lt_of_cell? w _ hw146_2)).trans hw146_2), ((HB.out.cell (World.block_lt_of_cell? w _ hw146_3)).trans hw146_3), ((HB.out.cell (World.block_lt_of_cell? w _ hw146_4)).trans hw146_4), ((HB.out.cell (World.block_lt_of_cell? w _ hw146_5)).trans hw146_5), ((HB.out.cell (World.block_lt_of_cell? w _ hw146_6)).trans hw146_6), ((HB.out.cell (World.block_lt_of_cell? w _ hw146_7)).trans hw146_7), ((HB.out.cell (World.block_lt_of_cell? w _ hw146_8)).trans hw146_8), ((HB.out.cell (World.block_lt_of_cell? w _ hw147_0)).trans hw147_0), ((HB.out.cell (World.block_lt_of_cell? w _ hw147_1)).trans hw147_1), ((HB.out.cell (World.block_lt_of_cell? w _ hw147_2)).trans hw147_2), ((HB.out.cell (World.block_lt_of_cell? w _ hw147_3)).trans hw147_3), ((HB.out.cell (World.block_lt_of_cell? w _ hw147_4)).trans hw147_4), ((HB.out.cell (World.block_lt_of_cell? w _ hw147_5)).trans hw147_5), ((HB.out.cell (World.block_lt_of_cell? w _ hw147_6)).trans hw147_6), ((HB.out.cell (World.block_lt_of_cell? w _ hw147_7)).trans hw147_7), ((HB.out.cell (World.block_lt_of_cell? w _ hw147_8)).trans hw147_8)⟩ (fun hHeld => ?_); refine with_tabW bindleref08_SameTree.tab6 bindleref08_SameTree.bits6 (fun HT_ HW_ => ?_)
    generalize wr.drew = w12 at HB HR144_8 HR145_8 HR146_8 HR147_8 hx144_0 hx144_1 hx144_2 hx144_3 hx144_4 hx144_5 hx144_6 hx144_7 hx144_8 hx145_0 hx145_1 hx145_2 hx145_3 hx145_4 hx145_5 hx145_6 hx145_7 hx145_8 hx146_0 hx146_1 hx146_2 hx146_3 hx146_4 hx146_5 hx146_6 hx146_7 hx146_8 hx147_0 hx147_1 hx147_2 hx147_3 hx147_4 hx147_5 hx147_6 hx147_7 hx147_8 hHeld ⊢
    refine pur_ (i := 0) (N := some 17) q10_1 (any_of HT_.out (by kernel_rfl)) ?_
    refine pur_ (i := 1) (N := some 18) q10_2 (any_of HT_.out (by kernel_rfl)) ?_
    refine pur_ (i := 2) (N := some 19) q10_3 (any_of HT_.out (by kernel_rfl)) ?_
    refine pur_ (i := 3) (N := some 20) q10_4 (any_of HT_.out (by kernel_rfl)) ?_
    refine pur_ (i := 5) (N := some 22) q10_5 (any_of HT_.out (by kernel_rfl)) ?_
    refine pur_ (i := 6) (N := some 23) q10_6 (any_of HT_.out (by kernel_rfl)) ?_
    refine pur_ (i := 7) (N := some 24) q10_7 (any_of HT_.out (by kernel_rfl)) ?_
    refine pur_ (i := 8) (N := some 25) q10_8 (any_of HT_.out (by kernel_rfl)) ?_
    refine take_ (i := 4) (N := some 21) (v := ?_) (a' := ?_) q10_9 rfl rfl (take_ofW HT_.out HW_.out (by kernel_rfl)) (fun _ _ _ h => h) (Or.inl ⟨by rfl, ?_⟩) hHeld ?_ ?_
    rotate_left
    ·rintro w' ⟨s0, s1, s2, s3, s4, s5, s6, s7, s8, s9, s10, s11, s12, s13, s14, s15, s16, s17, s18, s19, s20, s21, s22, s23, s24, s25, s26, s27, s28, s29, s30, s31, s32, s33, s34, s35⟩
     go_simp
     with_reducible rfl
    rotate_left
    ·simp only [Act.put, List.setIfInBounds_toArray, List.set_cons_zero, List.set_cons_succ, i64_w, i32_w]
     rfl
    refine take_ (i := 9) (N := some 26) (v := ?_) (a' := ?_) q10_10 rfl rfl (take_ofW HT_.out HW_.out (by kernel_rfl)) (fun _ _ _ h => h) (Or.inl ⟨by rfl, ?_⟩) hHeld ?_ ?_
    rotate_left
    ·rintro w' ⟨s0, s1, s2, s3, s4, s5, s6, s7, s8, s9, s10, s11, s12, s13, s14, s15, s16, s17, s18, s19, s20, s21, s22, s23, s24, s25, s26, s27, s28, s29, s30, s31, s32, s33, s34, s35⟩
     go_simp
     with_reducible rfl
    rotate_left
    ·simp only [Act.put, List.setIfInBounds_toArray, List.set_cons_zero, List.set_cons_succ, i64_w, i32_w]
     rfl
    refine pur_ (i := 10) (N := some 27) q10_11 (any_of HT_.out (by kernel_rfl)) ?_
    refine pur_ (i := 11) (N := some 28) q10_12 (any_of HT_.out (by kernel_rfl)) ?_
    refine pur_ (i := 12) (N := some 29) q10_13 (any_of HT_.out (by kernel_rfl)) ?_
    refine pur_ (i := 13) (N := some 30) q10_14 (any_of HT_.out (by kernel_rfl)) ?_
    refine pur_ (i := 14) (N := some 31) q10_15 (any_of HT_.out (by kernel_rfl)) ?_
    refine pur_ (i := 16) (N := some 33) q10_24 (any_of HT_.out (by kernel_rfl)) ?_
    refine pur_ (i := 17) (N := some 34) q10_25 (any_of HT_.out (by kernel_rfl)) ?_
    refine pur_ (i := 18) (N := some 35) q10_26 (any_of HT_.out (by kernel_rfl)) ?_
    refine take_ (i := 15) (N := some 32) (v := ?_) (a' := ?_) q10_19 rfl rfl (take_ofW HT_.out HW_.out (by kernel_rfl)) (fun _ _ _ h => h) (Or.inl ⟨by rfl, ?_⟩) hHeld ?_ ?_
    rotate_left
    ·rintro w' ⟨s0, s1, s2, s3, s4, s5, s6, s7, s8, s9, s10, s11, s12, s13, s14, s15, s16, s17, s18, s19, s20, s21, s22, s23, s24, s25, s26, s27, s28, s29, s30, s31, s32, s33, s34, s35⟩
     go_simp
     with_reducible rfl
    rotate_left
    ·simp only [Act.put, List.setIfInBounds_toArray, List.set_cons_zero, List.set_cons_succ, i64_w, i32_w]
     rfl
    refine take_ (i := 19) (N := some 36) (v := ?_) (a' := ?_) q10_20 rfl rfl (take_ofW HT_.out HW_.out (by kernel_rfl)) (fun _ _ _ h => h) (Or.inl ⟨by rfl, ?_⟩) hHeld ?_ ?_
    rotate_left
    ·rintro w' ⟨s0, s1, s2, s3, s4, s5, s6, s7, s8, s9, s10, s11, s12, s13, s14, s15, s16, s17, s18, s19, s20, s21, s22, s23, s24, s25, s26, s27, s28, s29, s30, s31, s32, s33, s34, s35⟩
     go_simp
     with_reducible rfl
    rotate_left
    ·simp only [Act.put, List.setIfInBounds_toArray, List.set_cons_zero, List.set_cons_succ, i64_w, i32_w]
     rfl
    refine one_ (i := 20) (N := some 37) q10_21 rfl rfl (one_of HT_.out (by kernel_rfl)) (by decide) (fun K hK => ?_)
    refine goes_ Tryz.func21 (by kernel_rfl) rfl #[.agg #[.string ((rd_T49 l0 x5_1).f0), .string ((rd_T49 l0 x5_1).f1), .string ((rd_T49 l0 x5_1).f2), .int .u8 ((rd_T49 l0 x5_1).f3), .int .i64 ((rd_T49 l0 x5_1).f4.f0), .int .i64 ((rd_T49 l0 x5_1).f4.f1), .int .i64 ((rd_T49 l0 x5_1).f4.f2), .int .i64 ((rd_T49 l0 x5_1).f4.f3), .slice A144_8 ((rd_T49 l0 x5_1).f5).length c144_8], .agg #[.string ((rd_T49 l1 x5_1).f0), .string ((rd_T49 l1 x5_1).f1), .string ((rd_T49 l1 x5_1).f2), .int .u8 ((rd_T49 l1 x5_1).f3), .int .i64 ((rd_T49 l1 x5_1).f4.f0), .int .i64 ((rd_T49 l1 x5_1).f4.f1), .int .i64 ((rd_T49 l1 x5_1).f4.f2), .int .i64 ((rd_T49 l1 x5_1).f4.f3), .slice A145_8 ((rd_T49 l1 x5_1).f5).length c145_8]] (by rfl) rfl rfl wm_ ?_
    with_reducible refine (bindleref08_Equal.calls ((rd_T49 l0 x5_1).f0) ((rd_T49 l0 x5_1).f1) ((rd_T49 l0 x5_1).f2) ((rd_T49 l0 x5_1).f3) ((rd_T49 l0 x5_1).f4.f0) ((rd_T49 l0 x5_1).f4.f1) ((rd_T49 l0 x5_1).f4.f2) ((rd_T49 l0 x5_1).f4.f3) _ _ ((rd_T49 l0 x5_1).f5) ((rd_T49 l1 x5_1).f0) ((rd_T49 l1 x5_1).f1) ((rd_T49 l1 x5_1).f2) ((rd_T49 l1 x5_1).f3) ((rd_T49 l1 x5_1).f4.f0) ((rd_T49 l1 x5_1).f4.f1) ((rd_T49 l1 x5_1).f4.f2) ((rd_T49 l1 x5_1).f4.f3) _ _ ((rd_T49 l1 x5_1).f5) false _ ?side1 ?side2 ?side3 ?side4 A8.out).mono ?_
    (case side1 => exact wc_ (Kd.C_below HR146_8.out HB.out))
    (case side2 => exact HC146_8.out)
    (case side3 => exact wc_ (Kd.C_below HR147_8.out HB.out))
    (case side4 => exact HC147_8.out)
    rintro e w13 ⟨rfl, hb⟩
    refine ⟨_, rfl, ?_⟩
    have n0_ := A0_ (below_step (wb_ HB.out) hb)
    clear HB
    have HB := n0_
    clear n0_
    (try clear hb)
    (try clear hb2)
    (try clear hk)
    (try clear hi)
    refine hK.out _ _ ⟨((HB.out.cell (World.block_lt_of_cell? w _ hw144_0)).trans hw144_0), ((HB.out.cell (World.block_lt_of_cell? w _ hw144_1)).trans hw144_1), ((HB.out.cell (World.block_lt_of_cell? w _ hw144_2)).trans hw144_2), ((HB.out.cell (World.block_lt_of_cell? w _ hw144_3)).trans hw144_3), ((HB.out.cell (World.block_lt_of_cell? w _ hw144_4)).trans hw144_4), ((HB.out.cell (World.block_lt_of_cell? w _ hw144_5)).trans hw144_5), ((HB.out.cell (World.block_lt_of_cell? w _ hw144_6)).trans hw144_6), ((HB.out.cell (World.block_lt_of_cell? w _ hw144_7)).trans hw144_7), ((HB.out.cell (World.block_lt_of_cell? w _ hw144_8)).trans hw144_8), ((HB.out.cell (World.block_lt_of_cell? w _ hw145_0)).trans hw145_0), ((HB.out.cell (World.block_lt_of_cell? w _ hw145_1)).trans hw145_1), ((HB.out.cell (World.block_lt_of_cell? w _ hw145_2)).trans hw145_2), ((HB.out.cell (World.block_lt_of_cell? w _ hw145_3)).trans hw145_3), ((HB.out.cell (World.block_lt_of_cell? w _ hw145_4)).trans hw145_4), ((HB.out.cell (World.block_lt_of_cell? w _ hw145_5)).trans hw145_5), ((HB.out.cell (World.block_lt_of_cell? w _ hw145_6)).trans hw145_6), ((HB.out.cell (World.block_lt_of_cell? w _ hw145_7)).trans hw145_7), ((HB.out.cell (World.block_lt_of_cell? w _ hw145_8)).trans hw145_8), ((HB.out.cell (World.block_lt_of_cell? w _ hw146_0)).trans hw146_0), ((HB.out.cell (World.block_lt_of_cell? w _ hw146_1)).trans hw146_1), ((HB.out.cell (World.block_lt_of_cell? w _ hw146_2)).trans hw146_2), ((HB.out.cell (World.block_lt_of_cell? w _ hw146_3)).trans hw146_3), ((HB.out.cell (World.block_lt_of_cell? w _ hw146_4)).trans hw146_4), ((HB.out.cell (World.block_lt_of_cell? w _ hw146_5)).trans hw146_5), ((HB.out.cell (World.block_lt_of_cell? w _ hw146_6)).trans hw146_6), ((HB.out.cell (World.block_lt_of_cell? w _ hw146_7)).trans hw146_7), ((HB.out.cell (World.block_lt_of_cell? w _ hw146_8)).trans hw146_8), ((HB.out.cell (World.block_lt_of_cell? w _ hw147_0)).trans hw147_0), ((HB.out.cell (World.block_lt_of_cell? w _ hw147_1)).trans hw147_1), ((HB.out.cell (World.block_lt_of_cell? w _ hw147_2)).trans hw147_2), ((HB.out.cell (World.block_lt_of_cell? w _ hw147_3)).trans hw147_3), ((HB.out.cell (World.block_lt_of_cell? w _ hw147_4)).trans hw147_4), ((HB.out.cell (World.block_lt_of_cell? w _ hw147_5)).trans hw147_5), ((HB.out.cell (World.block_lt_of_cell? w _ hw147_6)).trans hw147_6), ((HB.out.cell (World.block_lt_of_cell? w _ hw147_7)).trans hw147_7), ((HB.out.cell (World.block_lt_of_cell? w _ hw147_8)).trans hw147_8)⟩ (fun hHeld => ?_)
    clear hK K
    refine norm_ (a' := ?_) ?_ ?_
    rotate_left
    ·show Act.put _ (some 37) _ = _
     simp only [Act.put, List.setIfInBounds_toArray, List.set_cons_zero, List.set_cons_succ, i64_w, i32_w]
     rfl
    refine pur_ (i := 21) (N := some 38) q10_22 (any_of HT_.out (by kernel_rfl)) ?_
    refine pur_ (i := 22) (N := some 39) q10_23 (any_of HT_.out (by kernel_rfl)) ?_
    refine done_ (done_of HT_.out (by kernel_rfl)) ?_
    try go_wp2
    go_ret
    exact ⟨we_, wb_ HB.out⟩
   subst c9
   have H1 : (bindleref08_SameTree.l0 k1 l0 l1 (wrap64 (x5_1 + 1))) = some r := by rw [if_pos rfl] at H; exact H
   clear H
   have H := H1
   clear H1
   have H' := A0_ H
   clear H
   try go_wp2
   have n0_ := A0_ (b1_ HB.out)
   clear HB
   have HB := n0_
   clear n0_
   have p144 : 0 ≤ (x5_1 : Int) := wd_
   have q144 : x5_1 < (l0.length : Int) := wd_
   obtain ⟨ad144, A144_8, c144_8, e144, hx144_0, hx144_1, hx144_2, hx144_3, hx144_4, hx144_5, hx144_6, hx144_7, hx144_8, hl144_8, hi144_8⟩ := at_T49 HR0.out x5_1 p144 q144
   have hw144_8 := hx144_8
   have hw144_7 := hx144_7
   have hw144_6 := hx144_6
   have hw144_5 := hx144_5
   have hw144_4 := hx144_4
   have hw144_3 := hx144_3
   have hw144_2 := hx144_2
   have hw144_1 := hx144_1
   have hw144_0 := hx144_0
   cases e144
   replace hx144_0 := (HB.out.cell (World.block_lt_of_cell? w _ hx144_0)).trans hx144_0
   replace hx144_1 := (HB.out.cell (World.block_lt_of_cell? w _ hx144_1)).trans hx144_1
   replace hx144_2 := (HB.out.cell (World.block_lt_of_cell? w _ hx144_2)).trans hx144_2
   replace hx144_3 := (HB.out.cell (World.block_lt_of_cell? w _ hx144_3)).trans hx144_3
   replace hx144_4 := (HB.out.cell (World.block_lt_of_cell? w _ hx144_4)).trans hx144_4
   replace hx144_5 := (HB.out.cell (World.block_lt_of_cell? w _ hx144_5)).trans hx144_5
   replace hx144_6 := (HB.out.cell (World.block_lt_of_cell? w _ hx144_6)).trans hx144_6
   replace hx144_7 := (HB.out.cell (World.block_lt_of_cell? w _ hx144_7)).trans hx144_7
   replace hx144_8 := (HB.out.cell (World.block_lt_of_cell? w _ hx144_8)).trans hx144_8
   have HR144_8 := A0_ hi144_8
   have HC144_8 := A0_ hl144_8
   clear hi144_8 hl144_8
   replace p144 := eq_true p144
   replace q144 := eq_true q144
   have p145 : 0 ≤ (x5_1 : Int) := wd_
   have q145 : x5_1 < (l1.length : Int) := wd_
   obtain ⟨ad145, A145_8, c145_8, e145, hx145_0, hx145_1, hx145_2, hx145_3, hx145_4, hx145_5, hx145_6, hx145_7, hx145_8, hl145_8, hi145_8⟩ := at_T49 HR1.out x5_1 p145 q145
   have hw145_8 := hx145_8
   have hw145_7 := hx145_7
   have hw145_6 := hx145_6
   have hw145_5 := hx145_5
   have hw145_4 := hx145_4
   have hw145_3 := hx145_3
   have hw145_2 := hx145_2
   have hw145_1 := hx145_1
   have hw145_0 := hx145_0
   cases e145
   replace hx145_0 := (HB.out.cell (World.block_lt_of_cell? w _ hx145_0)).trans hx145_0
   replace hx145_1 := (HB.out.cell (World.block_lt_of_cell? w _ hx145_1)).trans hx145_1
   replace hx145_2 := (HB.out.cell (World.block_lt_of_cell? w _ hx145_2)).trans hx145_2
   replace hx145_3 := (HB.out.cell (World.block_lt_of_cell? w _ hx145_3)).trans hx145_3
   replace hx145_4 := (HB.out.cell (World.block_lt_of_cell? w _ hx145_4)).trans hx145_4
   replace hx145_5 := (HB.out.cell (World.block_lt_of_cell? w _ hx145_5)).trans hx145_5
   replace hx145_6 := (HB.out.cell (World.block_lt_of_cell? w _ hx145_6)).trans hx145_6
   replace hx145_7 := (HB.out.cell (World.block_lt_of_cell? w _ hx145_7)).trans hx145_7
   replace hx145_8 := (HB.out.cell (World.block_lt_of_cell? w _ hx145_8)).trans hx145_8
   have HR145_8 := A0_ hi145_8
   have HC145_8 := A0_ hl145_8
   clear hi145_8 hl145_8
   replace p145 := eq_true p145
   replace q145 := eq_true q145
   have p146 : 0 ≤ (x5_1 : Int) := wd_
   have q146 : x5_1 < (l0.length : Int) := wd_
   obtain ⟨ad146, A146_8, c146_8, e146, hx146_0, hx146_1, hx146_2, hx146_3, hx146_4, hx146_5, hx146_6, hx146_7, hx146_8, hl146_8, hi146_8⟩ := at_T49 HR0.out x5_1 p146 q146
   have hw146_8 := hx146_8
   have hw146_7 := hx146_7
   have hw146_6 := hx146_6
   have hw146_5 := hx146_5
   have hw146_4 := hx146_4
   have hw146_3 := hx146_3
   have hw146_2 := hx146_2
   have hw146_1 := hx146_1
   have hw146_0 := hx146_0
   obtain rfl : ad144 = ad146 := (by injection e146)
   replace hx146_0 := (HB.out.cell (World.block_lt_of_cell? w _ hx146_0)).trans hx146_0
   replace hx146_1 := (HB.out.cell (World.block_lt_of_cell? w _ hx146_1)).trans hx146_1
   replace hx146_2 := (HB.out.cell (World.block_lt_of_cell? w _ hx146_2)).trans hx146_2
   replace hx146_3 := (HB.out.cell (World.block_lt_of_cell? w _ hx146_3)).trans hx146_3
   replace hx146_4 := (HB.out.cell (World.block_lt_of_cell? w _ hx146_4)).trans hx146_4
   replace hx146_5 := (HB.out.cell (World.block_lt_of_cell? w _ hx146_5)).trans hx146_5
   replace hx146_6 := (HB.out.cell (World.block_lt_of_cell? w _ hx146_6)).trans hx146_6
   replace hx146_7 := (HB.out.cell (World.block_lt_of_cell? w _ hx146_7)).trans hx146_7
   replace hx146_8 := (HB.out.cell (World.block_lt_of_cell? w _ hx146_8)).trans hx146_8
   have HR146_8 := A0_ hi146_8
   have HC146_8 := A0_ hl146_8
   clear hi146_8 hl146_8
   replace p146 := eq_true p146
   replace q146 := eq_true q146
   have ea_ := Option.some.inj (hx144_8.symm.trans hx146_8)
   injection ea_ with ea_ en_ ec_
   subst ea_
   subst ec_
   clear en_
   have p147 : 0 ≤ (x5_1 : Int) := wd_
   have q147 : x5_1 < (l1.length : Int) := wd_
   obtain ⟨ad147, A147_8, c147_8, e147, hx147_0, hx147_1, hx147_2, hx147_3, hx147_4, hx147_5, hx147_6, hx147_7, hx147_8, hl147_8, hi147_8⟩ := at_T49 HR1.out x5_1 p147 q147
   have hw147_8 := hx147_8
   have hw147_7 := hx147_7
   have hw147_6 := hx147_6
   have hw147_5 := hx147_5
   have hw147_4 := hx147_4
   have hw147_3 := hx147_3
   have hw147_2 := hx147_2
   have hw147_1 := hx147_1
   have hw147_0 := hx147_0
   obtain rfl : ad145 = ad147 := (by injection e147)
   replace hx147_0 := (HB.out.cell (World.block_lt_of_cell? w _ hx147_0)).trans hx147_0
   replace hx147_1 := (HB.out.cell (World.block_lt_of_cell? w _ hx147_1)).trans hx147_1
   replace hx147_2 := (HB.out.cell (World.block_lt_of_cell? w _ hx147_2)).trans hx147_2
   replace hx147_3 := (HB.out.cell (World.block_lt_of_cell? w _ hx147_3)).trans hx147_3
   replace hx147_4 := (HB.out.cell (World.block_lt_of_cell? w _ hx147_4)).trans hx147_4
   replace hx147_5 := (HB.out.cell (World.block_lt_of_cell? w _ hx147_5)).trans hx147_5
   replace hx147_6 := (HB.out.cell (World.block_lt_of_cell? w _ hx147_6)).trans hx147_6
   replace hx147_7 := (HB.out.cell (World.block_lt_of_cell? w _ hx147_7)).trans hx147_7
   replace hx147_8 := (HB.out.cell (World.block_lt_of_cell? w _ hx147_8)).trans hx147_8
   have HR147_8 := A0_ hi147_8
   have HC147_8 := A0_ hl147_8
   clear hi147_8 hl147_8
   replace p147 := eq_true p147
   replace q147 := eq_true q147
   have ea_ := Option.some.inj (hx145_8.symm.trans hx147_8)
   injection ea_ with ea_ en_ ec_
   subst ea_
   subst ec_
   clear en_
   refine start_ (n := 23) (S := fun w' => w'.cell? (ad144.add ((x5_1).toNat * 9)) = some (.string ((rd_T49 l0 x5_1).f0)) ∧ w'.cell? ⟨(ad144.add ((x5_1).toNat * 9)).block, (ad144.add ((x5_1).toNat * 9)).off + 1, none⟩ = some (.string ((rd_T49 l0 x5_1).f1)) ∧ w'.cell? ⟨(ad144.add ((x5_1).toNat * 9)).block, (ad144.add ((x5_1).toNat * 9)).off + 2, none⟩ = some (.string ((rd_T49 l0 x5_1).f2)) ∧ w'.cell? ⟨(ad144.add ((x5_1).toNat * 9)).block, (ad144.add ((x5_1).toNat * 9)).off + 3, none⟩ = some (.int .u8 ((rd_T49 l0 x5_1).f3)) ∧ w'.cell? ⟨(ad144.add ((x5_1).toNat * 9)).block, (ad144.add ((x5_1).toNat * 9)).off + 4, none⟩ = some (.int .i64 ((rd_T49 l0 x5_1).f4.f0)) ∧ w'.cell? ⟨(ad144.add ((x5_1).toNat * 9)).block, (ad144.add ((x5_1).toNat * 9)).off + 5, none⟩ = some (.int .i64 ((rd_T49 l0 x5_1).f4.f1)) ∧ w'.cell? ⟨(ad144.add ((x5_1).toNat * 9)).block, (ad144.add ((x5_1).toNat * 9)).off + 6, none⟩ = some (.int .i64 ((rd_T49 l0 x5_1).f4.f2)) ∧ w'.cell? ⟨(ad144.add ((x5_1).toNat * 9)).block, (ad144.add ((x5_1).toNat * 9)).off + 7, none⟩ = some (.int .i64 ((rd_T49 l0 x5_1).f4.f3)) ∧ w'.cell? ⟨(ad144.add ((x5_1).toNat * 9)).block, (ad144.add ((x5_1).toNat * 9)).off + 8, none⟩ = some (.slice A144_8 ((rd_T49 l0 x5_1).f5).length c144_8) ∧ w'.cell? (ad145.add ((x5_1).toNat * 9)) = some (.string ((rd_T49 l1 x5_1).f0)) ∧ w'.cell? ⟨(ad145.add ((x5_1).toNat * 9)).block, (ad145.add ((x5_1).toNat * 9)).off + 1, none⟩ = some (.string ((rd_T49 l1 x5_1).f1)) ∧ w'.cell? ⟨(ad145.add ((x5_1).toNat * 9)).block, (ad145.add ((x5_1).toNat * 9)).off + 2, none⟩ = some (.string ((rd_T49 l1 x5_1).f2)) ∧ w'.cell? ⟨(ad145.add ((x5_1).toNat * 9)).block, (ad145.add ((x5_1).toNat * 9)).off + 3, none⟩ = some (.int .u8 ((rd_T49 l1 x5_1).f3)) ∧ w'.cell? ⟨(ad145.add ((x5_1).toNat * 9)).block, (ad145.add ((x5_1).toNat * 9)).off + 4, none⟩ = some (.int .i64 ((rd_T49 l1 x5_1).f4.f0)) ∧ w'.cell? ⟨(ad145.add ((x5_1).toNat * 9)).block, (ad145.add ((x5_1).toNat * 9)).off + 5, none⟩ = some (.int .i64 ((rd_T49 l1 x5_1).f4.f1)) ∧ w'.cell? ⟨(ad145.add ((x5_1).toNat * 9)).block, (ad145.add ((x5_1).toNat * 9)).off + 6, none⟩ = some (.int .i64 ((rd_T49 l1 x5_1).f4.f2)) ∧ w'.cell? ⟨(ad145.add ((x5_1).toNat * 9)).block, (ad145.add ((x5_1).toNat * 9)).off + 7, none⟩ = some (.int .i64 ((rd_T49 l1 x5_1).f4.f3)) ∧ w'.cell? ⟨(ad145.add ((x5_1).toNat * 9)).block, (ad145.add ((x5_1).toNat * 9)).off + 8, none⟩ = some (.slice A145_8 ((rd_T49 l1 x5_1).f5).length c145_8) ∧ w'.cell? (ad144.add ((x5_1).toNat * 9)) = some (.string ((rd_T49 l0 x5_1).f0)) ∧ w'.cell? ⟨(ad144.add ((x5_1).toNat * 9)).block, (ad144.add ((x5_1).toNat * 9)).off + 1, none⟩ = some (.string ((rd_T49 l0 x5_1).f1)) ∧ w'.cell? ⟨(ad144.add ((x5_1).toNat * 9)).block, (ad144.add ((x5_1).toNat * 9)).off + 2, none⟩ = some (.string ((rd_T49 l0 x5_1).f2)) ∧ w'.cell? ⟨(ad144.add ((x5_1).toNat * 9)).block, (ad144.add ((x5_1).toNat * 9)).off + 3, none⟩ = some (.int .u8 ((rd_T49 l0 x5_1).f3)) ∧ w'.cell? ⟨(ad144.add ((x5_1).toNat * 9)).block, (ad144.add ((x5_1).toNat * 9)).off + 4, none⟩ = some (.int .i64 ((rd_T49 l0 x5_1).f4.f0)) ∧ w'.cell? ⟨(ad144.add ((x5_1).toNat * 9)).block, (ad144.add ((x5_1).toNat * 9)).off + 5, none⟩ = some (.int .i64 ((rd_T49 l0 x5_1).f4.f1)) ∧ w'.cell? ⟨(ad144.add ((x5_1).toNat * 9)).block, (ad144.add ((x5_1).toNat * 9)).off + 6, none⟩ = some (.int .i64 ((rd_T49 l0 x5_1).f4.f2)) ∧ w'.cell? ⟨(ad144.add ((x5_1).toNat * 9)).block, (ad144.add ((x5_1).toNat * 9)).off + 7, none⟩ = some (.int .i64 ((rd_T49 l0 x5_1).f4.f3)) ∧ w'.cell? ⟨(ad144.add ((x5_1).toNat * 9)).block, (ad144.add ((x5_1).toNat * 9)).off + 8, none⟩ = some (.slice A144_8 ((rd_T49 l0 x5_1).f5).length c144_8) ∧ w'.cell? (ad145.add ((x5_1).toNat * 9)) = some (.string ((rd_T49 l1 x5_1).f0)) ∧ w'.cell? ⟨(ad145.add ((x5_1).toNat * 9)).block, (ad145.add ((x5_1).toNat * 9)).off + 1, none⟩ = some (.string ((rd_T49 l1 x5_1).f1)) ∧ w'.cell? ⟨(ad145.add ((x5_1).toNat * 9)).block, (ad145.add ((x5_1).toNat * 9)).off + 2, none⟩ = some (.string ((rd_T49 l1 x5_1).f2)) ∧ w'.cell? ⟨(ad145.add ((x5_1).toNat * 9)).block, (ad145.add ((x5_1).toNat * 9)).off + 3, none⟩ = some (.int .u8 ((rd_T49 l1 x5_1).f3)) ∧ w'.cell? ⟨(ad145.add ((x5_1).toNat * 9)).block, (ad145.add ((x5_1).toNat * 9)).off + 4, none⟩ = some (.int .i64 ((rd_T49 l1 x5_1).f4.f0)) ∧ w'.cell? ⟨(ad145.add ((x5_1).toNat * 9)).block, (ad145.add ((x5_1).toNat * 9)).off + 5, none⟩ = some (.int .i64 ((rd_T49 l1 x5_1).f4.f1)) ∧ w'.cell? ⟨(ad145.add ((x5_1).toNat * 9)).block, (ad145.add ((x5_1).toNat * 9)).off + 6, none⟩ = some (.int .i64 ((rd_T49 l1 x5_1).f4.f2)) ∧ w'.cell? ⟨(ad145.add ((x5_1).toNat * 9)).block, (ad145.add ((x5_1).toNat * 9)).off + 7, none⟩ = some (.int .i64 ((rd_T49 l1 x5_1).f4.f3)) ∧ w'.cell? ⟨(ad145.add ((x5_1).toNat * 9)).block, (ad145.add ((x5_1).toNat * 9)).off + 8, none⟩ = some (.slice A145_8 ((rd_T49 l1 x5_1).f5).length c145_8)) (ds := []) q10_0 (by kernel_rfl) rfl rfl ⟨((HB.out.cell (World.block_lt_of_cell? w _ hw144_0)).trans hw144_0), ((HB.out.cell (World.block_lt_of_cell? w _ hw144_1)).trans hw144_1), ((HB.out.cell (World.block_lt_of_cell? w _ hw144_2)).trans hw144_2), ((HB.out.cell (World.block_lt_of_cell? w _ hw144_3)).trans hw144_3), ((HB.out.cell (World.block_lt_of_cell? w _ hw144_4)).trans hw144_4), ((HB.out.cell (World.block_lt_of_cell? w _ hw144_5)).trans hw144_5), ((HB.out.cell (World.block_lt_of_cell? w _ hw144_6)).trans hw144_6), ((HB.out.cell (World.block_lt_of_cell? w _ hw144_7)).trans hw144_7), ((HB.out.cell (World.block_lt_of_cell? w _ hw144_8)).trans hw144_8), ((HB.out.cell (World.block_lt_of_cell? w _ hw145_0)).trans hw145_0), ((HB.out.cell (World.block_lt_of_cell? w _ hw145_1)).trans hw145_1), ((HB.out.cell (World.block_lt_of_cell? w _ hw145_2)).trans hw145_2), ((HB.out.cell (World.block_lt_of_cell? w _ hw145_3)).trans hw145_3), ((HB.out.cell (World.block_lt_of_cell? w _ hw145_4)).trans hw145_4), ((HB.out.cell (World.block_lt_of_cell? w _ hw145_5)).trans hw145_5), ((HB.out.cell (World.block_lt_of_cell? w _ hw145_6)).trans hw145_6), ((HB.out.cell (World.block_lt_of_cell? w _ hw145_7)).trans hw145_7), ((HB.out.cell (World.block_lt_of_cell? w _ hw145_8)).trans hw145_8), ((HB.out.cell (World.block_lt_of_cell? w _ hw146_0)).trans hw146_0), ((HB.out.cell (World.block_lt_of_cell? w _ hw146_1)).trans hw146_1), ((HB.out.cell (World.block_lt_of_cell? w _ hw146_2)).trans hw146_2), ((HB.out.cell (World.block_lt_of_cell? w _ hw146_3)).trans hw146_3), ((HB.out.cell (World.block_lt_of_cell? w _ hw146_4)).trans hw146_4), ((HB.out.cell (World.block_lt_of_cell? w _ hw146_5)).trans hw146_5), ((HB.out.cell (World.block_lt_of_cell? w _ hw146_6)).trans hw146_6), ((HB.out.cell (World.block_lt_of_cell? w _ hw146_7)).trans hw146_7), ((HB.out.cell (World.block_lt_of_cell? w _ hw146_8)).trans hw146_8), ((HB.out.cell (World.block_lt_of_cell? w _ hw147_0)).trans hw147_0), ((HB.out.cell (World.block_lt_of_cell? w _ hw147_1)).trans hw147_1), ((HB.out.cell (World.block_lt_of_cell? w _ hw147_2)).trans hw147_2), ((HB.out.cell (World.block_lt_of_cell? w _ hw147_3)).trans hw147_3), ((HB.out.cell (World.block_lt_of_cell? w _ hw147_4)).trans hw147_4), ((HB.out.cell (World.block_lt_of_cell? w _ hw147_5)).trans hw147_5), ((HB.out.cell (World.block_lt_of_cell? w _ hw147_6)).trans hw147_6), ((HB.out.cell (World.block_lt_of_cell? w _ hw147_7)).trans hw147_7), ((HB.out.cell (World.block_lt_of_cell? w _ hw147_8)).trans hw147_8)⟩ (fun hHeld => ?_); refine with_tabW bindleref08_SameTree.tab6 bindleref08_SameTree.bits6 (fun HT_ HW_ => ?_)
   generalize wr.drew = w10 at HB HR144_8 HR145_8 HR146_8 HR147_8 hx144_0 hx144_1 hx144_2 hx144_3 hx144_4 hx144_5 hx144_6 hx144_7 hx144_8 hx145_0 hx145_1 hx145_2 hx145_3 hx145_4 hx145_5 hx145_6 hx145_7 hx145_8 hx146_0 hx146_1 hx146_2 hx146_3 hx146_4 hx146_5 hx146_6 hx146_7 hx146_8 hx147_0 hx147_1 hx147_2 hx147_3 hx147_4 hx147_5 hx147_6 hx147_7 hx147_8 hHeld ⊢
   refine pur_ (i := 0) (N := some 17) q10_1 (any_of HT_.out (by kernel_rfl)) ?_
   refine pur_ (i := 1) (N := some 18) q10_2 (any_of HT_.out (by kernel_rfl)) ?_
   refine pur_ (i := 2) (N := some 19) q10_3 (any_of HT_.out (by kernel_rfl)) ?_
   refine pur_ (i := 3) (N := some 20) q10_4 (any_of HT_.out (by kernel_rfl)) ?_
   refine pur_ (i := 5) (N := some 22) q10_5 (any_of HT_.out (by kernel_rfl)) ?_
   refine pur_ (i := 6) (N := some 23) q10_6 (any_of HT_.out (by kernel_rfl)) ?_
   refine pur_ (i := 7) (N := some 24) q10_7 (any_of HT_.out (by kernel_rfl)) ?_
   refine pur_ (i := 8) (N := some 25) q10_8 (any_of HT_.out (by kernel_rfl)) ?_
   refine take_ (i := 4) (N := some 21) (v := ?_) (a' := ?_) q10_9 rfl rfl (take_ofW HT_.out HW_.out (by kernel_rfl)) (fun _ _ _ h => h) (Or.inl ⟨by rfl, ?_⟩) hHeld ?_ ?_
   rotate_left
   ·rintro w' ⟨s0, s1, s2, s3, s4, s5, s6, s7, s8, s9, s10, s11, s12, s13, s14, s15, s16, s17, s18, s19, s20, s21, s22, s23, s24, s25, s26, s27, s28, s29, s30, s31, s32, s33, s34, s35⟩
    go_simp
    with_reducible rfl
   rotate_left
   ·simp only [Act.put, List.setIfInBounds_toArray, List.set_cons_zero, List.set_cons_succ, i64_w, i32_w]
    rfl
   refine take_ (i := 9) (N := some 26) (v := ?_) (a' := ?_) q10_10 rfl rfl (take_ofW HT_.out HW_.out (by kernel_rfl)) (fun _ _ _ h => h) (Or.inl ⟨by rfl, ?_⟩) hHeld ?_ ?_
   rotate_left
   ·rintro w' ⟨s0, s1, s2, s3, s4, s5, s6, s7, s8, s9, s10, s11, s12, s13, s14, s15, s16, s17, s18, s19, s20, s21, s22, s23, s24, s25, s26, s27, s28, s29, s30, s31, s32, s33, s34, s35⟩
    go_simp
    with_reducible rfl
   rotate_left
   ·simp only [Act.put, List.setIfInBounds_toArray, List.set_cons_zero, List.set_cons_succ, i64_w, i32_w]
    rfl
   refine pur_ (i := 10) (N := some 27) q10_11 (any_of HT_.out (by kernel_rfl)) ?_
   refine pur_ (i := 11) (N := some 28) q10_12 (any_of HT_.out (by kernel_rfl)) ?_
   refine pur_ (i := 12) (N := some 29) q10_13 (any_of HT_.out (by kernel_rfl)) ?_
   refine pur_ (i := 13) (N := some 30) q10_14 (any_of HT_.out (by kernel_rfl)) ?_
   refine pur_ (i := 14) (N := some 31) q10_15 (any_of HT_.out (by kernel_rfl)) ?_
   refine pur_ (i := 16) (N := some 33) q10_24 (any_of HT_.out (by kernel_rfl)) ?_
   refine pur_ (i := 17) (N := some 34) q10_25 (any_of HT_.out (by kernel_rfl)) ?_
   refine pur_ (i := 18) (N := some 35) q10_26 (any_of HT_.out (by kernel_rfl)) ?_
   refine take_ (i := 15) (N := some 32) (v := ?_) (a' := ?_) q10_19 rfl rfl (take_ofW HT_.out HW_.out (by kernel_rfl)) (fun _ _ _ h => h) (Or.inl ⟨by rfl, ?_⟩) hHeld ?_ ?_
   rotate_left
   ·rintro w' ⟨s0, s1, s2, s3, s4, s5, s6, s7, s8, s9, s10, s11, s12, s13, s14, s15, s16, s17, s18, s19, s20, s21, s22, s23, s24, s25, s26, s27, s28, s29, s30, s31, s32, s33, s34, s35⟩
    go_simp
    with_reducible rfl
   rotate_left
   ·simp only [Act.put, List.setIfInBounds_toArray, List.set_cons_zero, List.set_cons_succ, i64_w, i32_w]
    rfl
   refine take_ (i := 19) (N := some 36) (v := ?_) (a' := ?_) q10_20 rfl rfl (take_ofW HT_.out HW_.out (by kernel_rfl)) (fun _ _ _ h => h) (Or.inl ⟨by rfl, ?_⟩) hHeld ?_ ?_
   rotate_left
   ·rintro w' ⟨s0, s1, s2, s3, s4, s5, s6, s7, s8, s9, s10, s11, s12, s13, s14, s15, s16, s17, s18, s19, s20, s21, s22, s23, s24, s25, s26, s27, s28, s29, s30, s31, s32, s33, s34, s35⟩
    go_simp
    with_reducible rfl
   rotate_left
   ·simp only [Act.put, List.setIfInBounds_toArray, List.set_cons_zero, List.set_cons_succ, i64_w, i32_w]
    rfl
   refine one_ (i := 20) (N := some 37) q10_21 rfl rfl (one_of HT_.out (by kernel_rfl)) (by decide) (fun K hK => ?_)
   refine goes_ Tryz.func21 (by kernel_rfl) rfl #[.agg #[.string ((rd_T49 l0 x5_1).f0), .string ((rd_T49 l0 x5_1).f1), .string ((rd_T49 l0 x5_1).f2), .int .u8 ((rd_T49 l0 x5_1).f3), .int .i64 ((rd_T49 l0 x5_1).f4.f0), .int .i64 ((rd_T49 l0 x5_1).f4.f1), .int .i64 ((rd_T49 l0 x5_1).f4.f2), .int .i64 ((rd_T49 l0 x5_1).f4.f3), .slice A144_8 ((rd_T49 l0 x5_1).f5).length c144_8], .agg #[.string ((rd_T49 l1 x5_1).f0), .string ((rd_T49 l1 x5_1).f1), .string ((rd_T49 l1 x5_1).f2), .int .u8 ((rd_T49 l1 x5_1).f3), .int .i64 ((rd_T49 l1 x5_1).f4.f0), .int .i64 ((rd_T49 l1 x5_1).f4.f1), .int .i64 ((rd_T49 l1 x5_1).f4.f2), .int .i64 ((rd_T49 l1 x5_1).f4.f3), .slice A145_8 ((rd_T49 l1 x5_1).f5).length c145_8]] (by rfl) rfl rfl wm_ ?_
   with_reducible refine (bindleref08_Equal.calls ((rd_T49 l0 x5_1).f0) ((rd_T49 l0 x5_1).f1) ((rd_T49 l0 x5_1).f2) ((rd_T49 l0 x5_1).f3) ((rd_T49 l0 x5_1).f4.f0) ((rd_T49 l0 x5_1).f4.f1) ((rd_T49 l0 x5_1).f4.f2) ((rd_T49 l0 x5_1).f4.f3) _ _ ((rd_T49 l0 x5_1).f5) ((rd_T49 l1 x5_1).f0) ((rd_T49 l1 x5_1).f1) ((rd_T49 l1 x5_1).f2) ((rd_T49 l1 x5_1).f3) ((rd_T49 l1 x5_1).f4.f0) ((rd_T49 l1 x5_1).f4.f1) ((rd_T49 l1 x5_1).f4.f2) ((rd_T49 l1 x5_1).f4.f3) _ _ ((rd_T49 l1 x5_1).f5) true _ ?side1 ?side2 ?side3 ?side4 A8.out).mono ?_
   (case side1 => exact wc_ (Kd.C_below HR146_8.out HB.out))
   (case side2 => exact HC146_8.out)
   (case side3 => exact wc_ (Kd.C_below HR147_8.out HB.out))
   (case side4 => exact HC147_8.out)
   rintro e w11 ⟨rfl, hb⟩
   refine ⟨_, rfl, ?_⟩
   have n0_ := A0_ (below_step (wb_ HB.out) hb)
   clear HB
   have HB := n0_
   clear n0_
   (try clear hb)
   (try clear hb2)
   (try clear hk)
   (try clear hi)
   refine hK.out _ _ ⟨((HB.out.cell (World.block_lt_of_cell? w _ hw144_0)).trans hw144_0), ((HB.out.cell (World.block_lt_of_cell? w _ hw144_1)).trans hw144_1), ((HB.out.cell (World.block_lt_of_cell? w _ hw144_2)).trans hw144_2), ((HB.out.cell (World.block_lt_of_cell? w _ hw144_3)).trans hw144_3), ((HB.out.cell (World.block_lt_of_cell? w _ hw144_4)).trans hw144_4), ((HB.out.cell (World.block_lt_of_cell? w _ hw144_5)).trans hw144_5), ((HB.out.cell (World.block_lt_of_cell? w _ hw144_6)).trans hw144_6), ((HB.out.cell (World.block_lt_of_cell? w _ hw144_7)).trans hw144_7), ((HB.out.cell (World.block_lt_of_cell? w _ hw144_8)).trans hw144_8), ((HB.out.cell (World.block_lt_of_cell? w _ hw145_0)).trans hw145_0), ((HB.out.cell (World.block_lt_of_cell? w _ hw145_1)).trans hw145_1), ((HB.out.cell (World.block_lt_of_cell? w _ hw145_2)).trans hw145_2), ((HB.out.cell (World.block_lt_of_cell? w _ hw145_3)).trans hw145_3), ((HB.out.cell (World.block_lt_of_cell? w _ hw145_4)).trans hw145_4), ((HB.out.cell (World.block_lt_of_cell? w _ hw145_5)).trans hw145_5), ((HB.out.cell (World.block_lt_of_cell? w _ hw145_6)).trans hw145_6), ((HB.out.cell (World.block_lt_of_cell? w _ hw145_7)).trans hw145_7), ((HB.out.cell (World.block_lt_of_cell? w _ hw145_8)).trans hw145_8), ((HB.out.cell (World.block_lt_of_cell? w _ hw146_0)).trans hw146_0), ((HB.out.cell (World.block_lt_of_cell? w _ hw146_1)).trans hw146_1), ((HB.out.cell (World.block_lt_of_cell? w _ hw146_2)).trans hw146_2), ((HB.out.cell (World.block_lt_of_cell? w _ hw146_3)).trans hw146_3), ((HB.out.cell (World.block_lt_of_cell? w _ hw146_4)).trans hw146_4), ((HB.out.cell (World.block_lt_of_cell? w _ hw146_5)).trans hw146_5), ((HB.out.cell (World.block_lt_of_cell? w _ hw146_6)).trans hw146_6), ((HB.out.cell (World.block_lt_of_cell? w _ hw146_7)).trans hw146_7), ((HB.out.cell (World.block_lt_of_cell? w _ hw146_8)).trans hw146_8), ((HB.out.cell (World.block_lt_of_cell? w _ hw147_0)).trans hw147_0), ((HB.out.cell (World.block_lt_of_cell? w _ hw147_1)).trans hw147_1), ((HB.out.cell (World.block_lt_of_cell? w _ hw147_2)).trans hw147_2), ((HB.out.cell (World.block_lt_of_cell? w _ hw147_3)).trans hw147_3), ((HB.out.cell (World.block_lt_of_cell? w _ hw147_4)).trans hw147_4), ((HB.out.cell (World.block_lt_of_cell? w _ hw147_5)).trans hw147_5), ((HB.out.cell (World.block_lt_of_cell? w _ hw147_6)).trans hw147_6), ((HB.out.cell (World.block_lt_of_cell? w _ hw147_7)).trans hw147_7), ((HB.out.cell (World.block_lt_of_cell? w _ hw147_8)).trans hw147_8)⟩ (fun hHeld => ?_)
   clear hK K
   refine norm_ (a' := ?_) ?_ ?_
   rotate_left
   ·show Act.put _ (some 37) _ = _
    simp only [Act.put, List.setIfInBounds_toArray, List.set_cons_zero, List.set_cons_succ, i64_w, i32_w]
    rfl
   refine pur_ (i := 21) (N := some 38) q10_22 (any_of HT_.out (by kernel_rfl)) ?_
   refine pur_ (i := 22) (N := some 39) q10_23 (any_of HT_.out (by kernel_rfl)) ?_
   refine done_ (done_of HT_.out (by kernel_rfl)) ?_
   try go_wp2
   go_roundg k1
   case measure => have := HK1.out; omega
   case rel => exact ⟨(wrap64 (x5_1 + 1)), wr_, H', ⟨by have := HK1.out; omega⟩, ⟨wb_ HB.out⟩⟩
end Go.Proofs.YtiijbmaamblidaaGreatDoor.Print

namespace Go.Proofs.YtiijbmaamblidaaGreatDoor
open Go.RowKit Go.Proofs.YtiijbmaamblidaaGreatDoor.Print Go.Proofs.YtiijbmaamblidaaGreatDoorW.PrintWords
set_option linter.unusedVariables false
theorem requal_f (a b : Node) : bindleref08_Equal.f a.f0 a.f1 a.f2 a.f3 a.f4.f0 a.f4.f1 a.f4.f2 a.f4.f3 a.f5 b.f0 b.f1 b.f2 b.f3 b.f4.f0 b.f4.f1 b.f4.f2 b.f4.f3 b.f5 = some (equalB a b) := by
 unfold bindleref08_Equal.f
 exact equal_chain a b rfl
theorem rdN_nat' (l : List Node) (j : Nat) (h : j < l.length) : rd_T49 l (j : Int) = l[j] := by rw [rdN_at l j (by omega) (by omega)]; simp
theorem sameB_size : ∀ (l r : List Node), sameB l r = true → l.length = r.length
 | [], [], _ => rfl
 | [], _ :: _, h => by cases h
 | _ :: _, [], h => by cases h
 | a :: l, b :: r, h => by
  rw [sameB, Bool.and_eq_true] at h
  rw [List.length_cons, List.length_cons, sameB_size l r h.2]
theorem sameTree_l (l r : List Node) (hl : l.length = r.length) (hlen : l.length ≤ 4611686018427387904) : ∀ (d i : Nat), i + d = l.length → Ev (fun k => bindleref08_SameTree.l0 k l r (i : Int)) (sameB (l.drop i) (r.drop i)) := by
 intro d
 induction d with
 | zero =>
  intro i hi
  rw [List.drop_of_length_le (by omega), List.drop_of_length_le (by omega)]
  exact Ev.step (f := fun _ => some true) (fun k => by rw [bindleref08_SameTree.l0, if_neg (by omega)]) (Ev.now _)
 | succ d ih =>
  intro i hi
  have hil : i < l.length := by omega
  have hir : i < r.length := by omega
  rw [List.drop_eq_getElem_cons hil, List.drop_eq_getElem_cons hir, sameB]
  by_cases he : l[i].f2.toList = r[i].f2.toList
  ·rw [decide_eq_true he, Bool.true_and]
   cases hb : equalB l[i] r[i] with
   | true =>
    rw [Bool.true_and]
    refine Ev.step (fun k => ?_) (ih (i + 1) (by omega))
    rw [bindleref08_SameTree.l0, if_pos (by omega), if_pos (by omega), if_pos (by omega), rdN_nat' l i hil, rdN_nat' r i hir, if_pos he, requal_f, hb, Option.bind_some, if_pos rfl]
    rw [show wrap64 ((i : Int) + 1) = ((i + 1 : Nat) : Int) by unfold wrap64; omega]
   | false =>
    rw [Bool.false_and]
    refine Ev.step (f := fun _ => some false) (fun k => ?_) (Ev.now _)
    rw [bindleref08_SameTree.l0, if_pos (by omega), if_pos (by omega), if_pos (by omega), rdN_nat' l i hil, rdN_nat' r i hir, if_pos he, requal_f, hb, Option.bind_some, if_neg (by simp)]
  ·rw [decide_eq_false he, Bool.false_and, Bool.false_and]
   refine Ev.step (f := fun _ => some false) (fun k => ?_) (Ev.now _)
   rw [bindleref08_SameTree.l0, if_pos (by omega), if_pos (by omega), if_pos (by omega), rdN_nat' l i hil, rdN_nat' r i hir, if_neg he]
theorem sameTree_eq (l r : List Node) (hlen : l.length ≤ 4611686018427387904) : Ev (fun k => bindleref08_SameTree.f k l r) (sameB l r) := by
 by_cases hl : l.length = r.length
 ·refine Ev.congr (fun k => ?_) (sameTree_l l r hl hlen l.length 0 (by omega))
  unfold bindleref08_SameTree.f
  rw [if_pos (by omega)]
  rfl
 ·have hf : sameB l r = false := by
   rw [Bool.eq_false_iff]
   exact fun h => hl (sameB_size l r h)
  rw [hf]
  refine Ev.congr (f := fun _ => some false) (fun k => ?_) (Ev.now _)
  unfold bindleref08_SameTree.f
  rw [if_neg (by omega)]
end Go.Proofs.YtiijbmaamblidaaGreatDoor

namespace Go.Proofs.YtiijbmaamblidaaGreatDoor
open Go.RowKit Go.Proofs.YtiijbmaamblidaaGreatDoor.Print Go.Proofs.YtiijbmaamblidaaGreatDoorW.PrintWords
set_option linter.unusedVariables false
abbrev Cls := S51
def insR (x : Cls) (acc : List Cls) : List Cls := (acc.reverse.dropWhile (fun y => lt x.f0.f0 y.f0.f0)).reverse ++ x :: (acc.reverse.takeWhile (fun y => lt x.f0.f0 y.f0.f0)).reverse
def sortC (l : List Cls) : List Cls := l.foldl (fun acc x => insR x acc) []
theorem insR_at (x : Cls) (a b : List Cls) (hb : ∀ y ∈ b, lt x.f0.f0 y.f0.f0 = true) (ha : ∀ y, a.getLast? = some y → lt x.f0.f0 y.f0.f0 = false) : insR x (a ++ b) = a ++ x :: b := by
 unfold insR
 rw [List.reverse_append]
 have h1 : ∀ y ∈ b.reverse, lt x.f0.f0 y.f0.f0 = true := fun y hy => hb y (List.mem_reverse.1 hy)
 have h2 : a.reverse.takeWhile (fun y => lt x.f0.f0 y.f0.f0) = [] ∧ a.reverse.dropWhile (fun y => lt x.f0.f0 y.f0.f0) = a.reverse := by
  cases hr : a.reverse with
  | nil => exact ⟨rfl, rfl⟩
  | cons z r =>
   have hz : a.getLast? = some z := by rw [← List.head?_reverse, hr]; rfl
   have := ha z hz
   rw [List.takeWhile_cons, List.dropWhile_cons, this]
   exact ⟨rfl, rfl⟩
 have h3 : ∀ (u v : List Cls), (∀ y ∈ u, lt x.f0.f0 y.f0.f0 = true) → (u ++ v).takeWhile (fun y => lt x.f0.f0 y.f0.f0) = u ++ v.takeWhile (fun y => lt x.f0.f0 y.f0.f0) ∧ (u ++ v).dropWhile (fun y => lt x.f0.f0 y.f0.f0) = v.dropWhile (fun y => lt x.f0.f0 y.f0.f0) := by
  intro u v hu
  induction u with
  | nil => exact ⟨rfl, rfl⟩
  | cons w u ih =>
   have hw := hu w List.mem_cons_self
   obtain ⟨i1, i2⟩ := ih (fun y hy => hu y (List.mem_cons_of_mem _ hy))
   exact ⟨by simp only [List.cons_append, List.takeWhile_cons, hw, if_true, i1], by simp only [List.cons_append, List.dropWhile_cons, hw, if_true, i2]⟩
 obtain ⟨h4, h5⟩ := h3 b.reverse a.reverse h1
 rw [h4, h5, h2.1, h2.2, List.append_nil, List.reverse_reverse, List.reverse_reverse]
def leadC (s : List Cls) (i : Nat) (x : Cls) : ByteArray := if x.f0.f3 = 48 then (match (s.take (i + 1)).find? (fun y => decide (y.f0.f3 = 48 ∧ y.f1 = x.f1)) with
 | some y => y.f0.f0
 | none => emp) else emp
def outC (s : List Cls) (i : Nat) (x : Cls) : Node := ⟨x.f0.f0, x.f0.f1, leadC s i x, x.f0.f3, x.f0.f4, x.f0.f5⟩
def sortedF (l : List Cls) : List Node := (sortC l).mapIdx (fun i x => outC (sortC l) i x)
theorem insR_perm (x : Cls) (acc : List Cls) : (insR x acc).Perm (x :: acc) := by
 unfold insR
 refine List.perm_middle.trans (List.Perm.cons x ?_)
 rw [← List.reverse_append]
 have : acc.reverse.takeWhile (fun y => lt x.f0.f0 y.f0.f0) ++ acc.reverse.dropWhile (fun y => lt x.f0.f0 y.f0.f0) = acc.reverse := List.takeWhile_append_dropWhile
 rw [this, List.reverse_reverse]
theorem sortC_from (l acc : List Cls) : (l.foldl (fun acc x => insR x acc) acc).Perm (acc ++ l) := by
 induction l generalizing acc with
 | nil => rw [List.append_nil]; exact List.Perm.refl _
 | cons x l ih =>
  rw [List.foldl_cons]
  refine (ih _).trans ?_
  refine ((insR_perm x acc).append_right l).trans ?_
  exact List.perm_middle.symm
theorem sortC_perm (l : List Cls) : (sortC l).Perm l := sortC_from l []
def RiseC (s : List Cls) : Prop := s.Pairwise (fun a b => lt a.f0.f0 b.f0.f0 = true)
theorem insR_rise {x : Cls} {acc : List Cls} (h : RiseC acc) (hx : ∀ y ∈ acc, y.f0.f0 ≠ x.f0.f0) : RiseC (insR x acc) := by
 obtain ⟨a, b, hab, hb, ha⟩ : ∃ a b, acc = a ++ b ∧ (∀ y ∈ b, lt x.f0.f0 y.f0.f0 = true) ∧ (∀ y, a.getLast? = some y → lt x.f0.f0 y.f0.f0 = false) := by
  refine ⟨(acc.reverse.dropWhile (fun y => lt x.f0.f0 y.f0.f0)).reverse, (acc.reverse.takeWhile (fun y => lt x.f0.f0 y.f0.f0)).reverse, ?_, fun y hy => ?_, fun y hy => ?_⟩
  ·rw [← List.reverse_append, List.takeWhile_append_dropWhile, List.reverse_reverse]
  ·rw [List.mem_reverse] at hy
   have h1 := List.all_takeWhile (l := acc.reverse) (p := fun y => lt x.f0.f0 y.f0.f0)
   rw [List.all_eq_true] at h1
   exact h1 y hy
  ·rw [List.getLast?_reverse] at hy
   have := List.head?_dropWhile_not (fun y => lt x.f0.f0 y.f0.f0) acc.reverse
   rw [hy] at this
   simpa using this
 subst hab
 rw [insR_at x a b hb ha]
 unfold RiseC at h ⊢
 rw [List.pairwise_append] at h ⊢
 refine ⟨h.1, List.pairwise_cons.2 ⟨hb, h.2.1⟩, fun y hy z hz => ?_⟩
 have hyx : lt y.f0.f0 x.f0.f0 = true := by
  -- the last one of a is not behind x; y is not behind the last one
  obtain ⟨w, hw⟩ : ∃ w, a.getLast? = some w := by
   cases hl : a.getLast? with
   | some w => exact ⟨w, rfl⟩
   | none => rw [List.getLast?_eq_none_iff] at hl; subst hl; cases hy
  have h1 := ha w hw
  have hwm : w ∈ a := List.mem_of_getLast? hw
  have h2 : lt w.f0.f0 x.f0.f0 = true := by
   rcases lt_tri w.f0.f0 x.f0.f0 with h | h | h
   ·exact h
   ·exact absurd (ba_ext h) (hx w (List.mem_append_left _ hwm))
   ·rw [h1] at h; cases h
  by_cases e : y = w
  ·rw [e]; exact h2
  ·refine lt_trans ?_ h2
   have h3 := h.1
   obtain ⟨ini, hini⟩ : ∃ ini, a = ini ++ [w] := (by rw [List.getLast?_eq_some_iff] at hw; exact hw)
   rw [hini] at h3 hy
   rw [List.pairwise_append] at h3
   rcases List.mem_append.1 hy with h4 | h4
   ·exact h3.2.2 y h4 w (by simp)
   ·rw [List.mem_singleton] at h4; exact absurd h4 e
 rcases List.mem_cons.1 hz with rfl | hz
 ·exact hyx
 ·exact h.2.2 y hy z hz
theorem sortC_rise_from {l acc : List Cls} (h : RiseC acc) (hn : ((acc ++ l).map (fun x => x.f0.f0)).Nodup) : RiseC (l.foldl (fun acc x => insR x acc) acc) := by
 induction l generalizing acc with
 | nil => exact h
 | cons x l ih =>
  rw [List.foldl_cons]
  have h1 : ∀ y ∈ acc, y.f0.f0 ≠ x.f0.f0 := by
   intro y hy e
   rw [List.map_append, List.nodup_append] at hn
   exact hn.2.2 _ (List.mem_map.2 ⟨y, hy, rfl⟩) _ (List.mem_map.2 ⟨x, List.mem_cons_self, rfl⟩) e
  refine ih (insR_rise h h1) ?_
  refine (List.Perm.nodup_iff ?_).1 hn
  refine List.Perm.map _ ?_
  refine List.perm_middle.trans ?_
  exact ((insR_perm x acc).append_right l).symm
theorem sortC_rise {l : List Cls} (hn : (l.map (fun x => x.f0.f0)).Nodup) : RiseC (sortC l) := sortC_rise_from List.Pairwise.nil hn
end Go.Proofs.YtiijbmaamblidaaGreatDoor

namespace Go.Proofs.YtiijbmaamblidaaGreatDoor.Print
open Go.RowKit Go.Proofs.YtiijbmaamblidaaGreatDoorW.PrintWords Go.Proofs.YtiijbmaamblidaaGreatDoorW.PrintLast Go.Proofs.YtiijbmaamblidaaGreatDoorW.PrintMore
attribute [local go_sem] max2_int min2_int max_two min_two max_three min_three max_four min_four   -- for this text's walks alone
set_option linter.unusedVariables false
set_option linter.unusedSimpArgs false
def bindleref08_at.l0 : Nat → List (S51) → ByteArray → Int → Option (Int)
 | 0, _, _, _ => none
 | k + 1, x0, x1, x5 => if x5 < (x0.length : Int) then (if 0 ≤ x5 then (if ((rd_T51 x0 x5).f0.f0).toList = x1.toList then (some x5) else (bindleref08_at.l0 k x0 x1 (wrap64 (x5 + 1)))) else (none)) else (some (-1))
def bindleref08_at.f (k : Nat) (l0 : List (S51)) (a1 : ByteArray) : Option (Int) := bindleref08_at.l0 k l0 a1 0
set_option maxHeartbeats 8000000 in
set_option maxRecDepth 100000 in
theorem bindleref08_at.calls (k : Nat) (A0 : Option Addr) (c0 : Nat) (l0 : List (S51)) (a1 : ByteArray) (r : Int) (w : World) (hr0 : Kd.C k51 w A0 l0.length l0) (hc0 : l0.length ≤ c0) (h : bindleref08_at.f k l0 a1 = some r) :
  Calls Tryz.prog 19 #[.slice A0 l0.length c0, .string a1] w fun e w' => e = .returned (.int .i64 r) ∧ Drawn0 w w' := by
 have HR0 := A0_ hr0
 have HC0 := A0_ hc0
 clear hr0 hc0
 have H : (bindleref08_at.l0 k l0 a1 0) = some r := h
 clear h
 have H' := A0_ H
 clear H
 go_enter Tryz.func19, Tryz.ntmps19
 go_wp2
 go_loopg [5] k (fun kq v5 w' => ∃ (x5_1 : Int), v5 = .int .i64 x5_1 ∧ Aside0 (bindleref08_at.l0 kq l0 a1 x5_1 = some r) ∧ Aside0 (kq ≤ k) ∧ Drawn0 w w')
 case atStart => exact ⟨(0), wr_, H', ⟨Nat.le_refl _⟩, by repeat (first | exact Drawn0.refl _ | apply Drawn0.step)⟩
 case round =>
  clear H'
  try clear c1
  try clear p2
  obtain ⟨x5_1, rfl, HA, HK1, ⟨m1, rfl⟩⟩ := hrel
  cases gk with
  | zero => exact absurd HA.out (by simp [bindleref08_at.l0])
  | succ k1 =>
   have H := HA.out
   clear HA
   simp only [bindleref08_at.l0] at H
   by_cases c3 : x5_1 < (l0.length : Int)
   rotate_left
   ·rw [if_neg c3] at H
    have c3b0 : decide (x5_1 < (l0.length : Int)) = false := decide_eq_false c3
    clear c3
    obtain rfl := Option.some.inj H
    go_wp2
    go_ret
    exact ⟨by first | rfl | (simp; done) | (simp [*]; done), by repeat (first | exact Drawn0.refl _ | apply Drawn0.step)⟩
   rw [if_pos c3] at H
   have c3b0 : decide (x5_1 < (l0.length : Int)) = true := decide_eq_true c3
   clear c3
   by_cases c4 : 0 ≤ x5_1
   rotate_left
   ·rw [if_neg c4] at H
    exact absurd H (by simp)
   rw [if_pos c4] at H
   have c4b0 : decide (0 ≤ x5_1) = true := decide_eq_true c4
   clear c4
   by_cases c5 : ((rd_T51 l0 x5_1).f0.f0).toList = a1.toList
   ·rw [if_pos c5] at H
    have c5b0 : (((rd_T51 l0 x5_1).f0.f0).toList == a1.toList) = true := beq_iff_eq.mpr c5
    have c5b1 : (((rd_T51 l0 x5_1).f0.f0).toList != a1.toList) = false := bne_eq_false_iff_eq.mpr c5
    clear c5
    obtain rfl := Option.some.inj H
    have p344 : 0 ≤ (x5_1 : Int) := wd_
    have q344 : x5_1 < (l0.length : Int) := wd_
    obtain ⟨ad344, A344_8, c344_8, e344, hx344_0, hx344_1, hx344_2, hx344_3, hx344_4, hx344_5, hx344_6, hx344_7, hx344_8, hx344_9, hl344_8, hi344_8⟩ := at_T51 HR0.out x5_1 p344 q344
    cases e344
    have HR344_8 := A0_ hi344_8
    have HC344_8 := A0_ hl344_8
    clear hi344_8 hl344_8
    replace p344 := eq_true p344
    replace q344 := eq_true q344
    go_wp2
    go_ret
    exact ⟨by first | rfl | (simp; done) | (simp [*]; done), by repeat (first | exact Drawn0.refl _ | apply Drawn0.step)⟩
   rw [if_neg c5] at H
   have c5b0 : (((rd_T51 l0 x5_1).f0.f0).toList == a1.toList) = false := beq_eq_false_iff_ne.mpr c5
   have c5b1 : (((rd_T51 l0 x5_1).f0.f0).toList != a1.toList) = true := bne_iff_ne.mpr c5
   have H' := A0_ H
   clear H
   have p344 : 0 ≤ (x5_1 : Int) := wd_
   have q344 : x5_1 < (l0.length : Int) := wd_
   obtain ⟨ad344, A344_8, c344_8, e344, hx344_0, hx344_1, hx344_2, hx344_3, hx344_4, hx344_5, hx344_6, hx344_7, hx344_8, hx344_9, hl344_8, hi344_8⟩ := at_T51 HR0.out x5_1 p344 q344
   cases e344
   have HR344_8 := A0_ hi344_8
   have HC344_8 := A0_ hl344_8
   clear hi344_8 hl344_8
   replace p344 := eq_true p344
   replace q344 := eq_true q344
   go_wp2
   go_roundg k1
   case measure => have := HK1.out; omega
   case rel => exact ⟨(wrap64 (x5_1 + 1)), wr_, H', ⟨by have := HK1.out; omega⟩, by repeat (first | exact Drawn0.refl _ | apply Drawn0.step)⟩
end Go.Proofs.YtiijbmaamblidaaGreatDoor.Print

namespace Go.Proofs.YtiijbmaamblidaaGreatDoor
open Go.RowKit Go.Proofs.YtiijbmaamblidaaGreatDoor.Print Go.Proofs.YtiijbmaamblidaaGreatDoorW.PrintWords
set_option linter.unusedVariables false
def clsOf (l : List Mem) (q : ByteArray × Nat) : Cls := ⟨⟨q.1, (l.getD q.2 zM).f1, emp, (l.getD q.2 zM).f2, (l.getD q.2 zM).f3, (l.getD q.2 zM).f4⟩, (q.2 : Int)⟩
def idxC (xs : List Cls) (p : ByteArray) : Int := match xs.findIdx? (fun x => decide (x.f0.f0.toList = p.toList)) with
 | some i => (i : Int)
 | none => -1
theorem rdC_nat (xs : List Cls) (j : Nat) (h : j < xs.length) : rd_T51 xs (j : Int) = xs[j] := by
 unfold rd_T51
 rw [Int.toNat_natCast, List.getD_eq_getElem?_getD, List.getElem?_eq_getElem h]
 rfl
theorem idxC_some {xs : List Cls} {p : ByteArray} {i : Nat} (hi : i < xs.length) (h : xs[i].f0.f0.toList = p.toList) (hno : ∀ (j : Nat) (hj : j < xs.length), j < i → xs[j].f0.f0.toList ≠ p.toList) : idxC xs p = (i : Int) := by
 unfold idxC
 rw [List.findIdx?_eq_some_iff_getElem.2 ⟨hi, decide_eq_true h, fun j hj => by simpa using hno j (by omega) hj⟩]
theorem idxC_none {xs : List Cls} {p : ByteArray} (hno : ∀ (j : Nat) (hj : j < xs.length), xs[j].f0.f0.toList ≠ p.toList) : idxC xs p = -1 := by
 unfold idxC
 rw [List.findIdx?_eq_none_iff.2 (fun x hx => by obtain ⟨i, hi, rfl⟩ := List.getElem_of_mem hx; simpa using hno i hi)]
theorem at_l (xs : List Cls) (p : ByteArray) (hlen : xs.length ≤ 4611686018427387904) : ∀ (d i : Nat), i + d = xs.length → (∀ (j : Nat) (hj : j < xs.length), j < i → xs[j].f0.f0.toList ≠ p.toList) → Ev (fun k => bindleref08_at.l0 k xs p (i : Int)) (idxC xs p) := by
 intro d
 induction d with
 | zero =>
  intro i hi hno
  rw [idxC_none (fun j hj => hno j hj (by omega))]
  exact Ev.step (f := fun _ => some (-1)) (fun k => by rw [bindleref08_at.l0, if_neg (by omega)]) (Ev.now _)
 | succ d ih =>
  intro i hi hno
  have hil : i < xs.length := by omega
  by_cases he : xs[i].f0.f0.toList = p.toList
  ·rw [idxC_some hil he hno]
   exact Ev.step (f := fun _ => some (i : Int)) (fun k => by rw [bindleref08_at.l0, if_pos (by omega), if_pos (by omega), rdC_nat xs i hil, if_pos he]) (Ev.now _)
  ·refine Ev.step (fun k => ?_) (ih (i + 1) (by omega) (fun j hj hji => ?_))
   ·rw [bindleref08_at.l0, if_pos (by omega), if_pos (by omega), rdC_nat xs i hil, if_neg he]
    rw [show wrap64 ((i : Int) + 1) = ((i + 1 : Nat) : Int) by unfold wrap64; omega]
   ·rcases Nat.lt_or_ge j i with h | h
    ·exact hno j hj h
    ·obtain rfl : j = i := by omega
     exact he
theorem at_eq (xs : List Cls) (p : ByteArray) (hlen : xs.length ≤ 4611686018427387904) : Ev (fun k => bindleref08_at.f k xs p) (idxC xs p) := at_l xs p hlen xs.length 0 (by omega) (fun j hj h => absurd h (Nat.not_lt_zero _))
theorem idx_at {l : List Mem} {s : PS} (hn : (s.map (fun q => q.1)).Nodup) (p : ByteArray) : (atD s p.data.toList = none ∧ idxC (s.map (clsOf l)) p = -1) ∨ ∃ (i : Nat) (hi : i < s.length), idxC (s.map (clsOf l)) p = (i : Int) ∧ atD s p.data.toList = some s[i].2 := by
 by_cases h : ∃ (i : Nat) (hi : i < s.length), s[i].1 = p
 ·obtain ⟨i, hi, rfl⟩ := h
  refine .inr ⟨i, hi, ?_, atD_of_mem hn (List.getElem_mem hi)⟩
  have hget : ∀ (j : Nat) (hj : j < (s.map (clsOf l)).length), ((s.map (clsOf l))[j]).f0.f0 = (s[j]'(by simpa using hj)).1 := fun j hj => by rw [List.getElem_map]; rfl
  refine idxC_some (by rw [List.length_map]; exact hi) (by rw [hget]) (fun j hj hji e => ?_)
  rw [hget] at e
  have e := ba_ext e
  rw [List.nodup_iff_pairwise_ne, List.pairwise_map, List.pairwise_iff_getElem] at hn
  exact hn j i (by simpa using hj) hi hji e
 ·refine .inl ⟨?_, ?_⟩
  ·cases ha : atD s p.data.toList with
   | none => rfl
   | some c =>
    obtain ⟨q, hq, he, _⟩ := atD_mem ha
    obtain ⟨i, hi, rfl⟩ := List.getElem_of_mem hq
    exact absurd ⟨i, hi, ba_data.1 he⟩ h
  ·refine idxC_none (fun j hj e => h ⟨j, by simpa using hj, ?_⟩)
   rw [List.getElem_map] at e
   exact ba_ext e
theorem without_map (l : List Mem) (s : PS) (p : ByteArray) : (s.map (clsOf l)).filter (fun x => !decide (x.f0.f0.toList = p.toList)) = (without s p).map (clsOf l) := by
 unfold without
 rw [List.filter_map]
 rfl
theorem sortC_map {l : List Mem} {s : PS} (hn : (s.map (fun q => q.1)).Nodup) : sortC (s.map (clsOf l)) = (sortP s).map (clsOf l) := by
 refine List.Perm.eq_of_pairwise (le := fun a b => lt a.f0.f0 b.f0.f0 = true) (fun a b _ _ h1 h2 => by rw [lt_asym h1] at h2; cases h2) ?_ ?_ ?_
 ·refine sortC_rise ?_
  rw [List.map_map]
  exact hn
 ·rw [List.pairwise_map]
  exact sortP_rise hn
 ·exact (sortC_perm _).trans ((sortP_perm s).symm.map _)
theorem lead_map (l : List Mem) (sp : PS) (i : Nat) (hi : i < sp.length) : leadC (sp.map (clsOf l)) i (clsOf l sp[i]) = if (l.getD sp[i].2 zM).f2 = 48 then leadOf sp sp[i].2 else emp := by
 unfold leadC
 by_cases h48 : (l.getD sp[i].2 zM).f2 = 48
 ·rw [if_pos h48, if_pos (show (clsOf l sp[i]).f0.f3 = 48 from h48), ← leadOf_take hi, ← List.map_take, List.find?_map]
  unfold leadOf
  have e : (fun y => decide (y.f0.f3 = 48 ∧ y.f1 = (clsOf l sp[i]).f1)) ∘ clsOf l = fun q => decide (q.2 = sp[i].2) := by
   funext q
   show decide ((l.getD q.2 zM).f2 = 48 ∧ (q.2 : Int) = (sp[i].2 : Int)) = _
   rw [decide_eq_decide]
   constructor
   ·intro h; omega
   ·intro h; exact ⟨by rw [h]; exact h48, by rw [h]⟩
  rw [e]
  cases (sp.take (i + 1)).find? (fun q => decide (q.2 = sp[i].2)) with
  | none => rfl
  | some q => rfl
 ·rw [if_neg h48, if_neg (show ¬ (clsOf l sp[i]).f0.f3 = 48 from h48)]
theorem sorted_map {l : List Mem} {s : PS} (hn : (s.map (fun q => q.1)).Nodup) : sortedF (s.map (clsOf l)) = (sortP s).map (nodeOf l (sortP s)) := by
 unfold sortedF
 rw [sortC_map hn]
 apply List.ext_getElem
 ·simp
 ·intro i h1 h2
  rw [List.getElem_mapIdx, List.getElem_map, List.getElem_map]
  have hi : i < (sortP s).length := by simpa using h2
  unfold outC
  rw [lead_map l _ i hi]
  rfl
end Go.Proofs.YtiijbmaamblidaaGreatDoor

namespace Go.Proofs.YtiijbmaamblidaaGreatDoor
open Go.RowKit Go.Maps Go.Proofs.YtiijbmaamblidaaGreatDoor.Print Go.Proofs.YtiijbmaamblidaaGreatDoorW.PrintWords Go.Proofs.YtiijbmaamblidaaGreatDoorW.PrintLast Go.Proofs.YtiijbmaamblidaaGreatDoorW.PrintMore
set_option linter.unusedVariables false
set_option linter.unusedSimpArgs false
theorem infoCls : (Tryz.prog.info? 51).map (fun i => (i.zero, i.size, i.bytes)) = some (some (.agg #[(.string ⟨#[]⟩), (.string ⟨#[]⟩), (.string ⟨#[]⟩), (.int .u8 0), (.int .i64 0), (.int .i64 0), (.int .i64 0), (.int .i64 0), (.slice none 0 0), (.int .i64 0)]), 10, 120) := by kernel_rfl
def clsCells (x : Cls) (v : Value) : List Value := [.string x.f0.f0, .string x.f0.f1, .string x.f0.f2, .int .u8 x.f0.f3, .int .i64 x.f0.f4.f0, .int .i64 x.f0.f4.f1, .int .i64 x.f0.f4.f2, .int .i64 x.f0.f4.f3, v, .int .i64 x.f1]
theorem cls_elem {W : World} {base g n cap : Nat} {ok : Nat → Prop} {xs : List Cls} (h : Kd.N k51 51 W base ok (.slice (some ⟨g, 0, none⟩) n cap) xs) (i : Nat) (hi : i < xs.length) (hn : n = xs.length) :
  ∃ A c, (∀ j u, (clsCells xs[i] (.slice A xs[i].f0.f5.length c))[j]? = some u → W.cell? ⟨g, i * 10 + j, none⟩ = some u) ∧ (∀ j, W.frozen? ⟨g, i * 10 + j, none⟩ = false) ∧ xs[i].f0.f5.length ≤ c ∧ Kd.F (Kd.int .u8) W (fun k => ok k ∧ k ≠ g) A xs[i].f0.f5.length xs[i].f0.f5 ∧
   Kd.FK k51 W (fun k => ok k ∧ k ≠ g) xs[i] (clsCells xs[i] (.slice A xs[i].f0.f5.length c)) := by
 obtain ⟨c, hcl, hF, hcc, hfr⟩ := Kd.N_elem h z51 (i : Int) (by omega) (by omega)
 have e : xs.getD ((i : Int)).toNat z51 = xs[i] := by rw [Int.toNat_natCast, List.getD_eq_getElem?_getD, List.getElem?_eq_getElem hi]; rfl
 rw [e] at hF
 simp only [Int.toNat_natCast] at hcc hfr
 obtain ⟨A, c', rfl, hl, hf⟩ := k51_openF hF
 exact ⟨A, c', hcc, hfr, hl, hf, hF⟩
theorem made_cls (W : World) (base : Nat) (hb : base ≤ W.heap.size := by exact Nat.le_refl _) : Kd.N k51 51 (W.alloc (.cells #[] 51)) base (fun k => W.heap.size ≤ k) (.slice (some ⟨W.heap.size, 0, none⟩) 0 0) [] :=
 ⟨fun k hk => by simp [Value.ownBlock] at hk; omega, [], rfl, ⟨fun k hk => hk.symm, [], World.ownsRow_made W #[] 0 hb (Nat.zero_le _) rfl, Reps.none _ _⟩, fun j x c h => by simp at h⟩
theorem cls_len (x : Cls) (v : Value) : (clsCells x v).length = 10 := rfl
theorem N_put {W : World} {base g n cap : Nat} {ok : Nat → Prop} {xs : List Cls} (h : Kd.N k51 51 W base ok (.slice (some ⟨g, 0, none⟩) n cap) xs) (i : Nat) (hi : i < xs.length) (hn : n = xs.length) {x : Cls} {v : Value}
  (hx : Kd.FK k51 W (fun k => ok k ∧ k ≠ g) x (clsCells x v)) :
  Kd.N k51 51 (W.setCells g (i * 10) (clsCells x v)) base ok (.slice (some ⟨g, 0, none⟩) n cap) (xs.set i x) ∧ W.grownBy (W.setCells g (i * 10) (clsCells x v)) (some g) := by
 obtain ⟨_, _, hc1, _, _, _, _⟩ := cls_elem h i hi hn
 obtain ⟨h1, g1⟩ := Kd.N_seg h (i : Int) (by omega) (by omega) (cls_len _ _) (by simp only [Int.toNat_natCast]; exact hc1) (seg := clsCells x v) (j := 0) (x' := x) (okp := fun k => ok k ∧ k ≠ g) (Nat.le_refl _) (by exact hx) (fun k hk => hk)
 simp only [Int.toNat_natCast, Nat.add_zero] at h1 g1
 exact ⟨h1, g1⟩
theorem cls_facts {W : World} {g o : Nat} {x : Cls} {v : Value} (h : ∀ j u, (clsCells x v)[j]? = some u → W.cell? ⟨g, o + j, none⟩ = some u) : W.cell? ⟨g, o, none⟩ = some (.string x.f0.f0) ∧ W.cell? ⟨g, o + 1, none⟩ = some (.string x.f0.f1) ∧ W.cell? ⟨g, o + 2, none⟩ = some (.string x.f0.f2) ∧ W.cell? ⟨g, o + 3, none⟩ = some (.int .u8 x.f0.f3) ∧
  W.cell? ⟨g, o + 4, none⟩ = some (.int .i64 x.f0.f4.f0) ∧ W.cell? ⟨g, o + 5, none⟩ = some (.int .i64 x.f0.f4.f1) ∧ W.cell? ⟨g, o + 6, none⟩ = some (.int .i64 x.f0.f4.f2) ∧ W.cell? ⟨g, o + 7, none⟩ = some (.int .i64 x.f0.f4.f3) ∧ W.cell? ⟨g, o + 8, none⟩ = some v ∧ W.cell? ⟨g, o + 9, none⟩ = some (.int .i64 x.f1) :=
 ⟨h 0 _ rfl, h 1 _ rfl, h 2 _ rfl, h 3 _ rfl, h 4 _ rfl, h 5 _ rfl, h 6 _ rfl, h 7 _ rfl, h 8 _ rfl, h 9 _ rfl⟩
def SRow (W wr : World) (M : Nat) (v : Value) (xs : List Cls) : Prop := Kd.N k51 51 wr W.heap.size (fun k => k < M) v xs ∧ Below W.heap.size W wr ∧ M ≤ wr.heap.size
theorem SRow.below {W wr w1 : World} {M : Nat} {v : Value} {xs : List Cls} (h : SRow W wr M v xs) (hb : Below wr.heap.size wr w1) : SRow W w1 M v xs :=
 ⟨Kd.N_below h.1 hb, h.2.1.trans (hb.mono h.2.1.size), Nat.le_trans h.2.2 hb.size⟩
def SRel1 (l : List Cls) (W : World) (M : Nat) (v : Value) (i : Int) (wr : World) : Prop := 1 ≤ i ∧ (i ≤ l.length ∨ i = 1) ∧ SRow W wr M v (sortC (l.take i.toNat) ++ l.drop i.toNat)
def SRel2 (l : List Cls) (W : World) (M : Nat) (v : Value) (i : Nat) (hi : i < l.length) (k : Int) (wr : World) : Prop :=
 0 ≤ k ∧ ∃ a b, sortC (l.take i) = a ++ b ∧ (a.length : Int) = k ∧ (∀ y ∈ b, lt l[i].f0.f0 y.f0.f0 = true) ∧ SRow W wr M v (a ++ l[i] :: (b ++ l.drop (i + 1)))
theorem sortC_take {l : List Cls} {i : Nat} (hi : i < l.length) : sortC (l.take (i + 1)) = insR l[i] (sortC (l.take i)) := by
 unfold sortC
 rw [List.take_succ_eq_append_getElem hi, List.foldl_append]
 rfl
theorem sortC_len (l : List Cls) : (sortC l).length = l.length := (sortC_perm l).length_eq
theorem srel2_exit {l : List Cls} {W : World} {M : Nat} {v : Value} {i : Nat} {hi : i < l.length} {k : Int} {wr : World} (h : SRel2 l W M v i hi k wr) (hex : ∀ a b y, sortC (l.take i) = a ++ b → (a.length : Int) = k → a.getLast? = some y → lt l[i].f0.f0 y.f0.f0 = false) (hi1 : 1 ≤ i) : SRel1 l W M v ((i : Int) + 1) wr := by
 obtain ⟨h0, a, b, h1, h2, h3, h4⟩ := h
 refine ⟨by omega, .inl (by omega), ?_⟩
 have e : ((i : Int) + 1).toNat = i + 1 := by omega
 rw [e, sortC_take hi, h1, insR_at _ _ _ h3 (fun y hy => hex a b y h1 h2 hy), List.append_assoc, List.cons_append]
 exact h4
theorem turn_row {a b : List Cls} {x y : Cls} {r : List Cls} (a' : List Cls) (ha : a = a' ++ [y]) : (((a ++ x :: (b ++ r)).set (a'.length + 1) y).set a'.length x) = a' ++ x :: ((y :: b) ++ r) := by
 subst ha
 have e1 : a' ++ [y] ++ x :: (b ++ r) = a' ++ (y :: x :: (b ++ r)) := by simp
 rw [e1, List.set_append, if_neg (by omega), show a'.length + 1 - a'.length = 1 from by omega]
 simp only [List.set_cons_succ, List.set_cons_zero]
 rw [List.set_append, if_neg (by omega), Nat.sub_self]
 simp
theorem outs_snoc {s : List Cls} {n : Nat} (hn : n < s.length) : (s.mapIdx (fun i x => outC s i x)).take (n + 1) = (s.mapIdx (fun i x => outC s i x)).take n ++ [outC s n s[n]] := by
 rw [List.take_succ_eq_append_getElem (by rw [List.length_mapIdx]; exact hn), List.getElem_mapIdx]
def SRel3 (s : List Cls) (W : World) (M : Nat) (v : Value) (i : Int) (o : Value) (wr : World) : Prop :=
 0 ≤ i ∧ i ≤ s.length ∧ SRow W wr M v s ∧ Kd.N k49 49 wr W.heap.size (fun k => M ≤ k ∧ k < wr.heap.size) o ((s.mapIdx (fun i x => outC s i x)).take i.toNat)
theorem first_here {s : List Cls} {n k : Nat} (hk : k ≤ n) (hn : n < s.length) {x : Cls} (h48 : x.f0.f3 = 48) (hm : (s[k]'(by omega)).f0.f3 = 48 ∧ (s[k]'(by omega)).f1 = x.f1) (hno : ∀ (j : Nat) (hj : j < k), ¬ ((s[j]'(by omega)).f0.f3 = 48 ∧ (s[j]'(by omega)).f1 = x.f1)) : leadC s n x = (s[k]'(by omega)).f0.f0 := by
 unfold leadC
 rw [if_pos h48]
 have hf : (s.take (n + 1)).find? (fun y => decide (y.f0.f3 = 48 ∧ y.f1 = x.f1)) = some (s[k]'(by omega)) := by
  rw [List.find?_eq_some_iff_getElem]
  refine ⟨decide_eq_true hm, k, by rw [List.length_take]; omega, by rw [List.getElem_take], fun j hj => ?_⟩
  rw [List.getElem_take, Bool.not_eq_true', decide_eq_false_iff_not]
  exact hno j hj
 rw [hf]
def SRel4 (s : List Cls) (n : Nat) (x : Cls) (k : Int) : Prop := 0 ≤ k ∧ ∀ (q : Nat), (q : Int) < k → ∀ (hq : q < s.length), ¬ (s[q].f0.f3 = 48 ∧ s[q].f1 = x.f1)
def boxCells (x : Cls) (ldr : ByteArray) (v : Value) : Array Value := #[.string x.f0.f0, .string x.f0.f1, .string ldr, .int .u8 x.f0.f3, .int .i64 x.f0.f4.f0, .int .i64 x.f0.f4.f1, .int .i64 x.f0.f4.f2, .int .i64 x.f0.f4.f3, v]
def SMid (s : List Cls) (W : World) (M : Nat) (v o : Value) (outs : List Node) (x : Cls) (A : Option Addr) (c b : Nat) (ldr : ByteArray) (wz : World) : Prop :=
 SRow W wz M v s ∧ Kd.N k49 49 wz W.heap.size (fun k => M ≤ k ∧ k < b) o outs ∧ wz.heap[b]? = some (.cells (boxCells x ldr (.slice A x.f0.f5.length c)) 49 (0, 0)) ∧ Kd.F (Kd.int .u8) wz (fun k => k < M) A x.f0.f5.length x.f0.f5 ∧ wz.heap.size = b + 1 ∧ M ≤ b
theorem fcell' {w : World} {p : Addr} {v : Value} (h : w.cell? p = some v) (o : Obj) : (w.alloc o).cell? p = some v := ((below_alloc (Below.refl _ _) o).cell (World.block_lt_of_cell? w _ h)).trans h
theorem box_facts {w : World} {b : Nat} {x : Cls} {ldr : ByteArray} {v : Value} (h : w.heap[b]? = some (.cells (boxCells x ldr v) 49 (0, 0))) :
  w.cell? ⟨b, 0, none⟩ = some (.string x.f0.f0) ∧ w.cell? ⟨b, 1, none⟩ = some (.string x.f0.f1) ∧ w.cell? ⟨b, 2, none⟩ = some (.string ldr) ∧ w.cell? ⟨b, 3, none⟩ = some (.int .u8 x.f0.f3) ∧ w.cell? ⟨b, 4, none⟩ = some (.int .i64 x.f0.f4.f0) ∧ w.cell? ⟨b, 5, none⟩ = some (.int .i64 x.f0.f4.f1) ∧
   w.cell? ⟨b, 6, none⟩ = some (.int .i64 x.f0.f4.f2) ∧ w.cell? ⟨b, 7, none⟩ = some (.int .i64 x.f0.f4.f3) ∧ w.cell? ⟨b, 8, none⟩ = some v := by
 refine ⟨?_, ?_, ?_, ?_, ?_, ?_, ?_, ?_, ?_⟩ <;> · unfold World.cell?; dsimp only; rw [h]; rfl
theorem box_soft {w : World} {b : Nat} {x : Cls} {ldr : ByteArray} {v : Value} (h : w.heap[b]? = some (.cells (boxCells x ldr v) 49 (0, 0))) (j : Nat) : w.frozen? ⟨b, j, none⟩ = false := by
 unfold World.frozen?
 dsimp only
 rw [h]
 rfl
theorem made_u8 (W : World) (base : Nat) (hb : base ≤ W.heap.size) : Kd.R (Kd.int .u8) 5 (W.alloc (.cells #[] 5)) base (fun k => W.heap.size ≤ k) (.slice (some ⟨W.heap.size, 0, none⟩) 0 0) [] :=
 ⟨fun k hk => by simp [Value.ownBlock] at hk; omega, [], World.ownsRow_made W #[] 0 hb (Nat.zero_le _) rfl, Reps.none _ _⟩
theorem cell_over (wz w5 : World) (o : Obj) {n c b : Nat} (hg : (wz.alloc o).grownBy w5 (Value.slice (some ⟨wz.heap.size, 0, none⟩) n c).ownBlock) (hb : b < wz.heap.size) (q : Nat) : w5.cell? ⟨b, q, none⟩ = wz.cell? ⟨b, q, none⟩ := by
 have h1 := hg.block b (by rw [World.size_alloc]; omega) (by simp [Value.ownBlock]; omega)
 have h2 : (wz.alloc o).heap[b]? = wz.heap[b]? := (below_alloc (Below.refl _ _) o).block b hb
 unfold World.cell?
 dsimp only
 rw [h1, h2]
theorem froz_over (wz w5 : World) (o : Obj) {n c b : Nat} (hg : (wz.alloc o).grownBy w5 (Value.slice (some ⟨wz.heap.size, 0, none⟩) n c).ownBlock) (hb : b < wz.heap.size) (q : Nat) : w5.frozen? ⟨b, q, none⟩ = wz.frozen? ⟨b, q, none⟩ := by
 have h1 := hg.block b (by rw [World.size_alloc]; omega) (by simp [Value.ownBlock]; omega)
 have h2 : (wz.alloc o).heap[b]? = wz.heap[b]? := (below_alloc (Below.refl _ _) o).block b hb
 unfold World.frozen?
 dsimp only
 rw [h1, h2]
theorem tail_mid {W wz w5 : World} {M b n c : Nat} {v o : Value} {ob : Obj} {s : List Cls} {outs : List Node} {A5 : Option Addr} {c5 : Nat} {body : List Int} (tS : SRow W wz M v s) (tO : Kd.N k49 49 wz W.heap.size (fun k => M ≤ k ∧ k < b) o outs) (hR : Kd.R (Kd.int .u8) 5 w5 W.heap.size (fun k => wz.heap.size ≤ k) (.slice A5 body.length c5) body)
  (hG : (wz.alloc ob).grownBy w5 (Value.slice (some ⟨wz.heap.size, 0, none⟩) n c).ownBlock) (hB : Below W.heap.size W w5) (hb : b < wz.heap.size) (tz : wz.heap.size = b + 1) (tM : M ≤ b) (u : Value) (hW : W.heap.size ≤ M) :
  SRow W (w5.setCell ⟨b, 8, none⟩ u) M v s ∧ Kd.N k49 49 (w5.setCell ⟨b, 8, none⟩ u) W.heap.size (fun k => M ≤ k) o outs ∧ Kd.F (Kd.int .u8) (w5.setCell ⟨b, 8, none⟩ u) (fun k => wz.heap.size ≤ k) A5 body.length body ∧ Below W.heap.size W (w5.setCell ⟨b, 8, none⟩ u) := by
 have hsz := hG.size
 rw [World.size_alloc] at hsz
 have hne : ∀ k, k < wz.heap.size → some k ≠ (Value.slice (some ⟨wz.heap.size, 0, none⟩) n c).ownBlock := fun k hk e => by
  have : k = wz.heap.size := by simpa [Value.ownBlock] using e
  omega
 have hB2 : Below W.heap.size W (w5.setCell ⟨b, 8, none⟩ u) := below_put hB _ _ (by omega) _
 refine ⟨⟨?_, hB2, ?_⟩, ?_, ?_, hB2⟩
 ·exact Kd.N_far (Kd.N_grown (Kd.N_alloc tS.1 ob) hG (fun k hk => hne k (by omega))) (p := ⟨b, 8, none⟩) (fun k hk e => by have e' : k = b := e; omega) u
 ·rw [World.size_setCell]; have := tS.2.2; omega
 ·exact Kd.N_mono (Kd.N_far (Kd.N_grown (Kd.N_alloc tO ob) hG (fun k hk => hne k (by omega))) (p := ⟨b, 8, none⟩) (fun k hk e => by have e' : k = b := e; omega) u) (fun k hk => hk.1)
 ·exact Kd.F_far (Kd.R_F hR) (p := ⟨b, 8, none⟩) (fun k hk e => by have e' : k = b := e; omega) u
theorem tail_row {W w1 w6 wz : World} {M b : Nat} {v o : Value} {s : List Cls} {outs : List Node} (mS : SRow W w1 M v s) (hg : w1.grownBy w6 o.ownBlock) (tO : Kd.N k49 49 wz W.heap.size (fun k => M ≤ k ∧ k < b) o outs) : SRow W w6 M v s :=
 ⟨Kd.N_grown mS.1 hg (fun k hk e => by have := (tO.1 k e.symm).1; omega), mS.2.1.grown hg mS.2.1.size (fun j hj => Kd.N_base tO j hj), by have := hg.size; have := mS.2.2; omega⟩
set_option maxRecDepth 100000 in
set_option maxHeartbeats 8000000 in
theorem Sorted_calls (A0 : Option Addr) (c0 : Nat) (l : List Cls) (W : World) (hC : Kd.C k51 W A0 l.length l) (hlen : l.length ≤ 1000000000000) (hz : ∀ x ∈ l, x.f0.f5.length ≤ 140737488351232) :
  Calls Tryz.prog 20 #[.slice A0 l.length c0] W fun e W' => ∃ v, e = .returned v ∧ Kd.N k49 49 W' W.heap.size (fun k => W.heap.size ≤ k) v (sortedF l) ∧ Below W.heap.size W W' := by
 have hF := Kd.C_F k51_heap hC
 have HF := Aside0.mk hF
 have HZ := Aside0.mk hz
 have hlI : (l.length : Int) ≤ 1000000000000 := by omega
 clear hC hz hF
 generalize hpost : (fun (e : Ending) (W' : World) => ∃ v, e = .returned v ∧ Kd.N k49 49 W' W.heap.size (fun k => W.heap.size ≤ k) v (sortedF l) ∧ Below W.heap.size W W') = Q
 have hQ := Aside0.mk hpost
 clear hpost
 go_enter Tryz.func20, Tryz.ntmps20
 go_wp2_with (at_builtin; refine Kd.N_append_rows k51 (w0 := W) W.heap.size rfl (.tmp 9) (.tmp 10) 47 51 _ 120 rfl Tryz.underlying47 infoCls rfl (by decide) (by decide) (.slice (some ⟨W.heap.size, 0, none⟩) 0 0) [] l A0 l.length c0 (fun _ => True) (fun k => k < W.heap.size) rfl rfl ?hO (Kd.F_alloc HF.out _) (fun k hk => ⟨trivial, fun e => by have e' : k = W.heap.size := (by simpa [Value.ownBlock] using e); omega⟩) (fun _ _ => trivial) (below_alloc (Below.refl _ _) _) (by simp) (by simp; omega) ?_; (case hO => exact Kd.N_mono (made_cls W W.heap.size) (fun _ _ => trivial)); intro v1 w1 hN1 hB1 hg1 hat1; rw [List.nil_append] at hN1; obtain ⟨A1, c1, rfl⟩ := Kd.N_slice hN1; have HN1 := Aside0.mk hN1; have HB1 := Aside0.mk hB1; clear hN1 hB1 hg1 hat1)
 have hrow : SRow W w1 w1.heap.size (.slice A1 l.length c1) l := ⟨Kd.N_mono (Kd.N_bound HN1.out) (fun k hk => hk.2), HB1.out, Nat.le_refl _⟩
 have hMW : W.heap.size ≤ w1.heap.size := HB1.out.size
 generalize hMe : w1.heap.size = M at hrow hMW
 have HROW := Aside0.mk hrow
 clear hrow HN1 HB1 hMe
 go_loopw [3] (fun i wr => ∃ n : Int, i = .int .i64 n ∧ Aside0 (SRel1 l W M (.slice A1 l.length c1) n wr)) (fun i _ => (l.length - (intOf i)).toNat)
 case atStart =>
  refine ⟨1, rfl, ⟨⟨by omega, .inr rfl, ?_⟩⟩⟩
  have e : sortC (l.take (1 : Int).toNat) ++ l.drop (1 : Int).toNat = l := by
   cases l with
   | nil => rfl
   | cons x l => rfl
  rw [e]
  exact HROW.out
 case round =>
  obtain ⟨n, rfl, HR⟩ := hrel
  have h0 := HR.out.1
  by_cases hlt : n < (l.length : Int)
  ·have c1b : decide (n < (l.length : Int)) = true := decide_eq_true hlt
   have hil : n.toNat < l.length := by omega
   have hstart : SRel2 l W M (.slice A1 l.length c1) n.toNat hil n wr := by
    refine ⟨by omega, sortC (l.take n.toNat), [], by rw [List.append_nil], ?_, fun y hy => (by cases hy), ?_⟩
    ·rw [sortC_len, List.length_take]; omega
    ·have := HR.out.2.2
     rw [List.drop_eq_getElem_cons hil] at this
     simpa using this
   have HST := Aside0.mk hstart
   have hnN : ((n.toNat : Nat) : Int) = n := by omega
   have HNN := Aside0.mk hnN
   clear hstart hnN
   go_wp2
   go_loopw [4] (fun i wr => ∃ k : Int, i = .int .i64 k ∧ Aside0 (SRel2 l W M (.slice A1 l.length c1) n.toNat hil k wr)) (fun i _ => (intOf i).toNat)
   case atStart => exact ⟨n, rfl, HST⟩
   case round =>
    obtain ⟨k, rfl, HR2⟩ := hrel
    have hk0 := HR2.out.1
    have HEX := Aside0.mk (fun (w2 : World) (hb : Below wr.heap.size wr w2) => (⟨hk0, by obtain ⟨a, b, h1, h2, h3, h4⟩ := HR2.out.2; exact ⟨a, b, h1, h2, h3, h4.below hb⟩⟩ : SRel2 l W M (.slice A1 l.length c1) n.toNat hil k w2))
    by_cases hkz : k = 0
    ·have g1 : decide (0 < k) = false := decide_eq_false (by omega)
     have g2 : decide (k > 0) = false := decide_eq_false (by omega)
     have HKZ := Aside0.mk hkz
     clear hkz
     go_upto_region 6 with (fail)
     go_quiet (fail)
     have hfin : SRel1 l W M (.slice A1 l.length c1) (n + 1) (wr.drewN nq) := by
      have h := srel2_exit (HEX.out _ (pw_below_drewN (Below.refl _ _) nq)) (fun a b y h1 h2 h3 => by
       have h4 := HKZ.out
       have : a = [] := List.eq_nil_of_length_eq_zero (by omega)
       rw [this] at h3
       cases h3) (by omega)
      rw [HNN.out] at h
      exact h
     have HF := Aside0.mk hfin
     clear hfin
     go_wp2
     go_roundw
     case rel => exact ⟨n + 1, by go_num, HF⟩
     case measure => simp [intOf]; omega
    ·have g1 : decide (0 < k) = true := decide_eq_true (by omega)
     have g2 : decide (k > 0) = true := decide_eq_true (by omega)
     obtain ⟨a, b, ha, hal, hbl, hS⟩ := HR2.out.2
     obtain ⟨a', y, haa⟩ : ∃ a' y, a = a' ++ [y] := by
      refine ⟨a.dropLast, a.getLast (fun e => by rw [e] at hal; simp at hal; omega), ?_⟩
      exact (List.dropLast_concat_getLast _).symm
     obtain ⟨j, hj⟩ : ∃ j, j = k - 1 := ⟨_, rfl⟩
     have hal' : a'.length = j.toNat := by rw [haa, List.length_append, List.length_singleton] at hal; omega
     have hxl := (Kd.N_reads' hS.1).1
     obtain ⟨g, cap, hv, hg0, hg1, _⟩ := Kd.N_form hS.1 (by omega)
     rw [← hxl] at hv
     cases hv
     have hkl : k < (l.length : Int) := by
      rw [List.length_append, List.length_cons, List.length_append, List.length_drop] at hxl
      omega
     have hjn : j.toNat + 1 = k.toNat := by omega
     have hjl : j < (l.length : Int) := by omega
     have hj0 : 0 ≤ j := by omega
     have hi1 : k.toNat < (a ++ l[n.toNat] :: (b ++ l.drop (n.toNat + 1))).length := by omega
     have hi2 : j.toNat < (a ++ l[n.toNat] :: (b ++ l.drop (n.toNat + 1))).length := by omega
     have hxe : (a ++ l[n.toNat] :: (b ++ l.drop (n.toNat + 1)))[k.toNat] = l[n.toNat] := by
      have hka : a.length = k.toNat := by omega
      simp [List.getElem_append, hka]
     have hye : (a ++ l[n.toNat] :: (b ++ l.drop (n.toNat + 1)))[j.toNat] = y := by
      subst haa
      simp [List.getElem_append, hal']
     obtain ⟨Ax, cx, fx, rx, lx, _, kx⟩ := cls_elem hS.1 k.toNat hi1 hxl
     obtain ⟨Ay, cy, fy, ry, ly, _, ky⟩ := cls_elem hS.1 j.toNat hi2 hxl
     rw [hxe] at fx lx kx
     rw [hye] at fy ly ky
     generalize hxs : a ++ l[n.toNat] :: (b ++ l.drop (n.toNat + 1)) = xs at hS hxl hi1 hi2 hxe hye
     generalize hx : l[n.toNat] = x at fx lx kx hbl hxe
     obtain ⟨x0, x1, x2, x3, x4, x5, x6, x7, x8, x9⟩ := cls_facts fx
     obtain ⟨y0, y1, y2, y3, y4, y5, y6, y7, y8, y9⟩ := cls_facts fy
     have rx0 := rx 0
     have ry0 := ry 0
     rw [Nat.add_zero] at rx0 ry0
     have HS := Aside0.mk hS
     have HXS := Aside0.mk hxs
     have HX := Aside0.mk hx
     have HHX := Aside0.mk hxe
     have HHY := Aside0.mk hye
     have HXL := Aside0.mk hxl
     have KX := Aside0.mk kx
     have KY := Aside0.mk ky
     have HA := Aside0.mk ha
     have HAA := Aside0.mk haa
     have HAL := Aside0.mk hal'
     have HBL := Aside0.mk hbl
     have HJN := Aside0.mk hjn
     have HJ := Aside0.mk hj
     have hw64 : wrap64 (k - 1) = j := by unfold wrap64; omega
     have hwi : IntKind.i64.wrap (k - 1) = j := by rw [IntKind.wrap_i64]; omega
     clear hS hxs hx hxe hye hxl kx ky ha haa hal hal' hbl hjn fx fy hkz
     cases hls : Op.bytesLess x.f0.f0.toList y.f0.f0.toList with
     | false =>
      clear hj
      go_upto_region 6 with (fail)
      go_quiet (fail)
      have hfin : SRel1 l W M (.slice (some ⟨g, 0, none⟩) l.length c1) (n + 1) (wr.drewN nq) := by
       have h := srel2_exit (HEX.out _ (pw_below_drewN (Below.refl _ _) nq)) (fun a2 b2 y2 h1 h2 h3 => by
        have e1 : a2 = a := by
         have h4 := HA.out
         rw [h1] at h4
         have hl2 : a2.length = a.length := by
          have := HAL.out; have := HJ.out
          rw [HAA.out, List.length_append, List.length_singleton]
          omega
         exact (List.append_inj h4 hl2).1
        rw [e1, HAA.out, List.getLast?_append] at h3
        simp at h3
        subst h3
        rw [HX.out]
        exact hls) (by omega)
       rw [HNN.out] at h
       exact h
      have HF := Aside0.mk hfin
      clear hfin hw64 hwi
      go_wp2
      go_roundw
      case rel => exact ⟨n + 1, by go_num, HF⟩
      case measure => simp [intOf]; omega
     | true =>
      clear hj
      go_upto_region 6 with (fail)
      go_quiet (fail)
      go_upto_region 8 with (fail)
      refine start_ (n := 18) (S := fun w' => w'.cell? ⟨g, j.toNat * 10, none⟩ = some (.string y.f0.f0) ∧ w'.cell? ⟨g, j.toNat * 10 + 1, none⟩ = some (.string y.f0.f1) ∧ w'.cell? ⟨g, j.toNat * 10 + 2, none⟩ = some (.string y.f0.f2) ∧ w'.cell? ⟨g, j.toNat * 10 + 3, none⟩ = some (.int .u8 y.f0.f3) ∧ w'.cell? ⟨g, j.toNat * 10 + 4, none⟩ = some (.int .i64 y.f0.f4.f0) ∧ w'.cell? ⟨g, j.toNat * 10 + 5, none⟩ = some (.int .i64 y.f0.f4.f1) ∧ w'.cell? ⟨g, j.toNat * 10 + 6, none⟩ = some (.int .i64 y.f0.f4.f2) ∧ w'.cell? ⟨g, j.toNat * 10 + 7, none⟩ = some (.int .i64 y.f0.f4.f3) ∧ w'.cell? ⟨g, j.toNat * 10 + 8, none⟩ = some (.slice Ay y.f0.f5.length cy) ∧ w'.cell? ⟨g, j.toNat * 10 + 9, none⟩ = some (.int .i64 y.f1) ∧ w'.cell? ⟨g, k.toNat * 10, none⟩ = some (.string x.f0.f0) ∧ w'.cell? ⟨g, k.toNat * 10 + 1, none⟩ = some (.string x.f0.f1) ∧ w'.cell? ⟨g, k.toNat * 10 + 2, none⟩ = some (.string x.f0.f2) ∧ w'.cell? ⟨g, k.toNat * 10 + 3, none⟩ = some (.int .u8 x.f0.f3) ∧ w'.cell? ⟨g, k.toNat * 10 + 4, none⟩ = some (.int .i64 x.f0.f4.f0) ∧ w'.cell? ⟨g, k.toNat * 10 + 5, none⟩ = some (.int .i64 x.f0.f4.f1) ∧ w'.cell? ⟨g, k.toNat * 10 + 6, none⟩ = some (.int .i64 x.f0.f4.f2) ∧ w'.cell? ⟨g, k.toNat * 10 + 7, none⟩ = some (.int .i64 x.f0.f4.f3) ∧ w'.cell? ⟨g, k.toNat * 10 + 8, none⟩ = some (.slice Ax x.f0.f5.length cx) ∧ w'.cell? ⟨g, k.toNat * 10 + 9, none⟩ = some (.int .i64 x.f1)) (ds := [15, 17]) #[false, false, false, false, false, false, false, false, false, false, false, false, false, false, false, false, false, false] (by kernel_rfl) rfl rfl ⟨by exact y0, by exact y1, by exact y2, by exact y3, by exact y4, by exact y5, by exact y6, by exact y7, by exact y8, by exact y9, by exact x0, by exact x1, by exact x2, by exact x3, by exact x4, by exact x5, by exact x6, by exact x7, by exact x8, by exact x9⟩ (fun hHeld => ?_)
      generalize hwq : World.drew _ = wq at hHeld ⊢
      have hq0 : Below wr.heap.size wr wq := by rw [← hwq]; exact below_drew (pw_below_drewN (Below.refl _ _) _)
      have hNq := HS.out.below hq0
      have put1 := N_put hNq.1 k.toNat (by omega) HXL.out (x := y) (v := .slice Ay y.f0.f5.length cy) (Kd.FK_below KY.out hq0)
      have rqx : ∀ q, wq.frozen? ⟨g, k.toNat * 10 + q, none⟩ = false := fun q => by rw [← hwq]; exact rx q
      have rqx0 : wq.frozen? ⟨g, k.toNat * 10, none⟩ = false := by rw [← hwq]; exact rx0
      have HNQ := Aside0.mk hNq
      have HQ0 := Aside0.mk hq0
      clear hNq hq0
      refine pure_ (i := 0) (N := some 39) (v := ?_) (a' := ?_) #[true, false, false, false, false, false, false, false, false, false, false, false, false, false, false, false, false, false] rfl rfl (by kernel_rfl) (fun _ _ _ h => h) (Or.inl ⟨by rfl, ?_⟩) ?_ ?_
      rotate_left
      ·intro w'
       go_simp
       with_reducible rfl
      rotate_left
      ·simp only [Act.put, List.setIfInBounds_toArray, List.set_cons_zero, List.set_cons_succ, i64_w, i32_w]
       rfl
      refine pure_ (i := 1) (N := some 40) (v := ?_) (a' := ?_) #[true, true, false, false, false, false, false, false, false, false, false, false, false, false, false, false, false, false] rfl rfl (by kernel_rfl) (fun _ _ _ h => h) (Or.inl ⟨by rfl, ?_⟩) ?_ ?_
      rotate_left
      ·intro w'
       go_simp
       with_reducible rfl
      rotate_left
      ·simp only [Act.put, List.setIfInBounds_toArray, List.set_cons_zero, List.set_cons_succ, i64_w, i32_w]
       rfl
      refine pure_ (i := 2) (N := some 41) (v := ?_) (a' := ?_) #[true, true, true, false, false, false, false, false, false, false, false, false, false, false, false, false, false, false] rfl rfl (by kernel_rfl) (fun _ _ _ h => h) (Or.inl ⟨by rfl, ?_⟩) ?_ ?_
      rotate_left
      ·intro w'
       go_simp
       with_reducible rfl
      rotate_left
      ·simp only [Act.put, List.setIfInBounds_toArray, List.set_cons_zero, List.set_cons_succ, i64_w, i32_w]
       rfl
      refine pure_ (i := 3) (N := some 42) (v := ?_) (a' := ?_) #[true, true, true, true, false, false, false, false, false, false, false, false, false, false, false, false, false, false] rfl rfl (by kernel_rfl) (fun _ _ _ h => h) (Or.inl ⟨by rfl, ?_⟩) ?_ ?_
      rotate_left
      ·intro w'
       go_simp
       with_reducible rfl
      rotate_left
      ·simp only [Act.put, List.setIfInBounds_toArray, List.set_cons_zero, List.set_cons_succ, i64_w, i32_w]
       rfl
      refine pure_ (i := 4) (N := some 43) (v := ?_) (a' := ?_) #[true, true, true, true, true, false, false, false, false, false, false, false, false, false, false, false, false, false] rfl rfl (by kernel_rfl) (fun _ _ _ h => h) (Or.inl ⟨by rfl, ?_⟩) ?_ ?_
      rotate_left
      ·intro w'
       go_simp
       with_reducible rfl
      rotate_left
      ·simp only [Act.put, List.setIfInBounds_toArray, List.set_cons_zero, List.set_cons_succ, i64_w, i32_w]
       rfl
      refine pure_ (i := 5) (N := some 44) (v := ?_) (a' := ?_) #[true, true, true, true, true, true, false, false, false, false, false, false, false, false, false, false, false, false] rfl rfl (by kernel_rfl) (fun _ _ _ h => h) (Or.inl ⟨by rfl, ?_⟩) ?_ ?_
      rotate_left
      ·intro w'
       go_simp
       with_reducible rfl
      rotate_left
      ·simp only [Act.put, List.setIfInBounds_toArray, List.set_cons_zero, List.set_cons_succ, i64_w, i32_w]
       rfl
      refine pure_ (i := 6) (N := some 45) (v := ?_) (a' := ?_) #[true, true, true, true, true, true, true, false, false, false, false, false, false, false, false, false, false, false] rfl rfl (by kernel_rfl) (fun _ _ _ h => h) (Or.inl ⟨by rfl, ?_⟩) ?_ ?_
      rotate_left
      ·intro w'
       go_simp
       with_reducible rfl
      rotate_left
      ·simp only [Act.put, List.setIfInBounds_toArray, List.set_cons_zero, List.set_cons_succ, i64_w, i32_w]
       rfl
      refine pure_ (i := 7) (N := some 46) (v := ?_) (a' := ?_) #[true, true, true, true, true, true, true, true, false, false, false, false, false, false, false, false, false, false] rfl rfl (by kernel_rfl) (fun _ _ _ h => h) (Or.inl ⟨by rfl, ?_⟩) ?_ ?_
      rotate_left
      ·intro w'
       go_simp
       with_reducible rfl
      rotate_left
      ·simp only [Act.put, List.setIfInBounds_toArray, List.set_cons_zero, List.set_cons_succ, i64_w, i32_w]
       rfl
      refine pure_ (i := 8) (N := some 47) (v := ?_) (a' := ?_) #[true, true, true, true, true, true, true, true, true, false, false, false, false, false, false, false, false, false] rfl rfl (by kernel_rfl) (fun _ _ _ h => h) (Or.inl ⟨by rfl, ?_⟩) ?_ ?_
      rotate_left
      ·intro w'
       go_simp
       with_reducible rfl
      rotate_left
      ·simp only [Act.put, List.setIfInBounds_toArray, List.set_cons_zero, List.set_cons_succ, i64_w, i32_w]
       rfl
      refine take_ (i := 9) (N := some 48) (v := ?_) (a' := ?_) #[true, true, true, true, true, true, true, true, true, true, false, false, false, false, false, false, false, false] rfl rfl (by kernel_rfl) (fun _ _ _ h => h) (Or.inl ⟨by rfl, ?_⟩) hHeld ?_ ?_
      rotate_left
      ·rintro w' ⟨s0, s1, s2, s3, s4, s5, s6, s7, s8, s9, s10, s11, s12, s13, s14, s15, s16, s17, s18, s19⟩
       go_simp
       with_reducible rfl
      rotate_left
      ·simp only [Act.put, List.setIfInBounds_toArray, List.set_cons_zero, List.set_cons_succ, i64_w, i32_w]
       rfl
      refine pure_ (i := 10) (N := some 49) (v := ?_) (a' := ?_) #[true, true, true, true, true, true, true, true, true, true, true, false, false, false, false, false, false, false] rfl rfl (by kernel_rfl) (fun _ _ _ h => h) (Or.inl ⟨by rfl, ?_⟩) ?_ ?_
      rotate_left
      ·intro w'
       go_simp
       with_reducible rfl
      rotate_left
      ·simp only [Act.put, List.setIfInBounds_toArray, List.set_cons_zero, List.set_cons_succ, i64_w, i32_w]
       rfl
      refine pure_ (i := 11) (N := some 50) (v := ?_) (a' := ?_) #[true, true, true, true, true, true, true, true, true, true, true, true, false, false, false, false, false, false] rfl rfl (by kernel_rfl) (fun _ _ _ h => h) (Or.inl ⟨by rfl, ?_⟩) ?_ ?_
      rotate_left
      ·intro w'
       go_simp
       with_reducible rfl
      rotate_left
      ·simp only [Act.put, List.setIfInBounds_toArray, List.set_cons_zero, List.set_cons_succ, i64_w, i32_w]
       rfl
      refine pure_ (i := 12) (N := some 51) (v := ?_) (a' := ?_) #[true, true, true, true, true, true, true, true, true, true, true, true, true, false, false, false, false, false] rfl rfl (by kernel_rfl) (fun _ _ _ h => h) (Or.inl ⟨by rfl, ?_⟩) ?_ ?_
      rotate_left
      ·intro w'
       go_simp
       with_reducible rfl
      rotate_left
      ·simp only [Act.put, List.setIfInBounds_toArray, List.set_cons_zero, List.set_cons_succ, i64_w, i32_w]
       rfl
      refine take_ (i := 13) (N := some 52) (v := ?_) (a' := ?_) #[true, true, true, true, true, true, true, true, true, true, true, true, true, true, false, false, false, false] rfl rfl (by kernel_rfl) (fun _ _ _ h => h) (Or.inl ⟨by rfl, ?_⟩) hHeld ?_ ?_
      rotate_left
      ·rintro w' ⟨s0, s1, s2, s3, s4, s5, s6, s7, s8, s9, s10, s11, s12, s13, s14, s15, s16, s17, s18, s19⟩
       go_simp
       with_reducible rfl
      rotate_left
      ·simp only [Act.put, List.setIfInBounds_toArray, List.set_cons_zero, List.set_cons_succ, i64_w, i32_w]
       rfl
      refine pure_ (i := 14) (N := some 53) (v := ?_) (a' := ?_) #[true, true, true, true, true, true, true, true, true, true, true, true, true, true, true, false, false, false] rfl rfl (by kernel_rfl) (fun _ _ _ h => h) (Or.inl ⟨by rfl, ?_⟩) ?_ ?_
      rotate_left
      ·intro w'
       go_simp
       with_reducible rfl
      rotate_left
      ·simp only [Act.put, List.setIfInBounds_toArray, List.set_cons_zero, List.set_cons_succ, i64_w, i32_w]
       rfl
      refine last_ (i := 15) (N := none) #[true, true, true, true, true, true, true, true, true, true, true, true, true, true, true, true, false, false] rfl rfl (by kernel_rfl) (by decide) (fun K hK => ?_)
      refine skip_ (w1 := wq.setCells g (k.toNat * 10) (clsCells y (.slice Ay y.f0.f5.length cy))) (by rfl) rfl ?_ ?_
      rotate_left
      ·refine hK.out _ _ ?_
       clear hK K
       obtain ⟨HP1, HG1⟩ := put1
       have hr2 := cls_elem HP1 j.toNat (by rw [List.length_set]; omega) (by rw [List.length_set]; exact HXL.out)
       obtain ⟨_, _, f2, r2, _, _, _⟩ := hr2
       generalize hw2 : wq.setCells g (k.toNat * 10) (clsCells y (.slice Ay y.f0.f5.length cy)) = w2 at HP1 HG1 r2 f2 ⊢
       obtain ⟨z0, z1, z2, z3, z4, z5, z6, z7, z8, z9⟩ := cls_facts f2
       have r20 := r2 0
       rw [Nat.add_zero] at r20
       have HP1 := Aside0.mk HP1
       have HG1 := Aside0.mk HG1
       clear hw2
       refine pure_ (i := 16) (N := some 54) (v := ?_) (a' := ?_) #[true, true, true, true, true, true, true, true, true, true, true, true, true, true, true, true, true, false] rfl rfl (by kernel_rfl) (fun _ _ _ h => h) (Or.inl ⟨by rfl, ?_⟩) ?_ ?_
       rotate_left
       ·intro w'
        go_simp
        with_reducible rfl
       rotate_left
       ·simp only [Act.put, List.setIfInBounds_toArray, List.set_cons_zero, List.set_cons_succ, i64_w, i32_w]
        rfl
       refine last_ (i := 17) (N := none) #[true, true, true, true, true, true, true, true, true, true, true, true, true, true, true, true, true, true] rfl rfl (by kernel_rfl) (by decide) (fun K hK => ?_)
       refine skip_ (w1 := w2.setCells g (j.toNat * 10) (clsCells x (.slice Ax x.f0.f5.length cx))) (by rfl) rfl ?_ ?_
       rotate_left
       ·refine hK.out _ _ ?_
        clear hK K
        refine done_ (by kernel_rfl) ?_
        have hput2 := N_put HP1.out j.toNat (by rw [List.length_set]; omega) (by rw [List.length_set]; exact HXL.out) (x := x) (v := .slice Ax x.f0.f5.length cx) (Kd.FK_grown (Kd.FK_below KX.out HQ0.out) HG1.out (fun q hq e => by cases e; exact hq.2 rfl))
        have hgs := HG1.out.size
        have hgs2 := hput2.2.size
        have hfin : SRel2 l W M (.slice (some ⟨g, 0, none⟩) l.length c1) n.toNat hil j (w2.setCells g (j.toNat * 10) (clsCells x (.slice Ax x.f0.f5.length cx))) := by
         refine ⟨hj0, a', y :: b, ?_, ?_, ?_, ?_, ?_, ?_⟩
         ·rw [HA.out, HAA.out]; simp
         ·have := HAL.out; omega
         ·intro z hz
          rw [HX.out]
          rcases List.mem_cons.1 hz with rfl | hz
          ·exact hls
          ·exact HBL.out z hz
         ·have e := turn_row (b := b) (x := x) (y := y) (r := l.drop (n.toNat + 1)) a' HAA.out
          have e2 := HXS.out
          rw [HX.out] at e2 ⊢
          rw [e2, HAL.out, HJN.out] at e
          rw [← e]
          exact hput2.1
         ·exact HNQ.out.2.1.grown (HG1.out.trans hput2.2) HNQ.out.2.1.size (fun q hq => by cases hq; exact hg0)
         ·have := HNQ.out.2.2
          omega
        have HF := Aside0.mk hfin
        clear hfin hput2 hwi hHeld
        generalize w2.setCells g (j.toNat * 10) (clsCells x (.slice Ax x.f0.f5.length cx)) = w3 at HF ⊢
        go_wp2
        go_roundw
        case rel => exact ⟨j, by rw [HJ.out], HF⟩
        case measure => simp [intOf]; have := HJN.out; omega
       ·go_simp
        rfl
      ·go_simp
       rfl
  ·have c1b : decide (n < (l.length : Int)) = false := decide_eq_false hlt
   have hdone : SRow W wr M (.slice A1 l.length c1) (sortC l) := by
    have h := HR.out.2.2
    rw [List.take_of_length_le (by have := HR.out.2.1; omega), List.drop_eq_nil_of_le (by have := HR.out.2.1; omega), List.append_nil] at h
    exact h
   have hsl := sortC_len l
   have hzs : ∀ x ∈ sortC l, x.f0.f5.length ≤ 140737488351232 := fun x hx => HZ.out x ((sortC_perm l).mem_iff.1 hx)
   have HZS := Aside0.mk hzs
   have HSO : Aside0 (sortedF l = (sortC l).mapIdx (fun i x => outC (sortC l) i x)) := ⟨rfl⟩
   generalize hse : sortC l = s at hdone hsl HZS HSO
   have HSL := Aside0.mk hsl
   have hstart : SRel3 s W M (.slice A1 l.length c1) 0 (.slice none 0 0) wr := ⟨by omega, by omega, hdone, Kd.N_nil _ _ _ _ _⟩
   have HST := Aside0.mk hstart
   clear hstart hdone hse hzs hsl
   go_wp2
   go_loopw [6, 5] (fun i o wr => ∃ n : Int, i = .int .i64 n ∧ Aside0 (SRel3 s W M (.slice A1 l.length c1) n o wr)) (fun i _ _ => (l.length - (intOf i)).toNat)
   case atStart => exact ⟨0, rfl, HST⟩
   case round =>
    obtain ⟨n, rfl, HR⟩ := hrel
    have h0 := HR.out.1
    have h1 := HR.out.2.1
    have hS := HR.out.2.2.1
    have hO := HR.out.2.2.2
    generalize houts : (s.mapIdx (fun i x => outC s i x)).take n.toNat = outs at hO
    obtain ⟨Ao, co, rfl⟩ := Kd.N_slice hO
    have hol : outs.length ≤ 1000000000000 := by rw [← houts, List.length_take, List.length_mapIdx]; have := HSL.out; omega
    have HOL := Aside0.mk hol
    have HOUTS := Aside0.mk houts
    have HO := Aside0.mk hO
    have HS := Aside0.mk hS
    clear hol houts hO hS
    by_cases hlt : n < (l.length : Int)
    ·have c1b : decide (n < (l.length : Int)) = true := decide_eq_true hlt
     have hnl : n.toNat < s.length := by have := HSL.out; omega
     obtain ⟨g, cap, hv, hg0, hg1, _⟩ := Kd.N_form HS.out.1 (by omega)
     rw [HSL.out] at hv
     cases hv
     have hgM : g < M := HS.out.1.1 g rfl
     obtain ⟨Ax, cx, fx, rx, lx, fF, _⟩ := cls_elem HS.out.1 n.toNat hnl HSL.out.symm
     have hxb : (s[n.toNat]).f0.f5.length ≤ 140737488351232 := HZS.out _ (List.getElem_mem _)
     have HXE : Aside0 (∀ (q : Nat) (hq : q < s.length), q = n.toNat → s[q] = s[n.toNat]) := ⟨fun q hq e => by subst e; rfl⟩
     generalize hx : s[n.toNat] = x at fx lx fF hxb HXE
     obtain ⟨x0, x1, x2, x3, x4, x5, x6, x7, x8, x9⟩ := cls_facts fx
     have HX := Aside0.mk hx
     have HF := Aside0.mk (Kd.F_mono fF (ok' := fun k => k < M) (fun k hk => hk.1))
     have HLX := Aside0.mk lx
     have hMw := HS.out.2.2
     have HXC := Aside0.mk fx
     clear fx rx lx fF hx
     have hmid : ∀ (q : Nat) (ldr : ByteArray) (wz : World), (wz = (wr.alloc (.cells (boxCells x emp (.slice Ax x.f0.f5.length cx)) 49)).drewN q ∧ ldr = emp ∨ wz = ((wr.alloc (.cells (boxCells x emp (.slice Ax x.f0.f5.length cx)) 49)).drewN q).setCell ⟨wr.heap.size, 2, none⟩ (.string ldr)) → SMid s W M (.slice (some ⟨g, 0, none⟩) l.length c1) (.slice Ao outs.length co) outs x Ax cx wr.heap.size ldr wz := by
      rintro q ldr wz (⟨rfl, rfl⟩ | rfl)
      ·have hb : Below wr.heap.size wr ((wr.alloc (.cells (boxCells x emp (.slice Ax x.f0.f5.length cx)) 49)).drewN q) := pw_below_drewN (below_alloc (Below.refl _ _) _) _
       exact ⟨HS.out.below hb, Kd.N_below HO.out hb, blk_new wr _, Kd.F_below HF.out hb, by show (wr.alloc _).heap.size = _; rw [World.size_alloc], hMw⟩
      ·have hb : Below wr.heap.size wr ((wr.alloc (.cells (boxCells x emp (.slice Ax x.f0.f5.length cx)) 49)).drewN q) := pw_below_drewN (below_alloc (Below.refl _ _) _) _
       have hb2 : Below wr.heap.size wr (((wr.alloc (.cells (boxCells x emp (.slice Ax x.f0.f5.length cx)) 49)).drewN q).setCell ⟨wr.heap.size, 2, none⟩ (.string ldr)) := below_put hb _ _ (Nat.le_refl _) _
       refine ⟨HS.out.below hb2, Kd.N_below HO.out hb2, blk_put (w := (wr.alloc (.cells (boxCells x emp (.slice Ax x.f0.f5.length cx)) 49)).drewN q) (blk_new wr _) 2 _ rfl, Kd.F_below HF.out hb2, ?_, hMw⟩
       rw [World.size_setCell]
       show (wr.alloc _).heap.size = _
       rw [World.size_alloc]
     have HMID := Aside0.mk hmid
     have hnn : (0 : Int) ≤ n := h0
     clear hmid
     by_cases h48 : x.f0.f3 = 48
     ·have e48 : (x.f0.f3 == 48) = true := beq_iff_eq.2 h48
      have H48 := Aside0.mk h48
      clear h48
      go_wp2
      go_loopw [8] (fun i w' => ∃ k : Int, i = .int .i64 k ∧ Aside0 (SRel4 s n.toNat x k ∧ k ≤ n ∧ ∃ q, w' = (wr.alloc (.cells (boxCells x emp (.slice Ax x.f0.f5.length cx)) 49)).drewN q)) (fun i _ => (n + 1 - (intOf i)).toNat)
      case atStart => exact ⟨0, rfl, ⟨⟨by omega, fun q hq hq2 => absurd hq (by omega)⟩, by omega, 0, rfl⟩⟩
      case round =>
       obtain ⟨k, rfl, HR4⟩ := hrel
       obtain ⟨hk0, hno⟩ := HR4.out.1
       have hkn := HR4.out.2.1
       obtain ⟨q4, hw4⟩ := HR4.out.2.2
       have HNO := Aside0.mk hno
       have ckn : decide (k ≤ n) = true := decide_eq_true hkn
       have hkl : k < (l.length : Int) := by omega
       have hks : k.toNat < s.length := by omega
       obtain ⟨Ak, ck, fk, _, _, _, _⟩ := cls_elem HS.out.1 k.toNat hks HSL.out.symm
       have hke : k.toNat = n.toNat → s[k.toNat] = x := fun e => HXE.out _ hks e
       generalize hyk : s[k.toNat] = y at fk hke
       obtain ⟨y0, _, _, y3, _, _, _, _, _, y9⟩ := cls_facts fk
       have HY := Aside0.mk hyk
       have HKE := Aside0.mk hke
       subst hw4
       have z0 : ((wr.alloc (.cells (boxCells x emp (.slice Ax x.f0.f5.length cx)) 49)).drewN q4).cell? ⟨g, k.toNat * 10, none⟩ = some (.string y.f0.f0) := fcell' y0 _
       have z3 : ((wr.alloc (.cells (boxCells x emp (.slice Ax x.f0.f5.length cx)) 49)).drewN q4).cell? ⟨g, k.toNat * 10 + 3, none⟩ = some (.int .u8 y.f0.f3) := fcell' y3 _
       have z9 : ((wr.alloc (.cells (boxCells x emp (.slice Ax x.f0.f5.length cx)) 49)).drewN q4).cell? ⟨g, k.toNat * 10 + 9, none⟩ = some (.int .i64 y.f1) := fcell' y9 _
       have z9n : ((wr.alloc (.cells (boxCells x emp (.slice Ax x.f0.f5.length cx)) 49)).drewN q4).cell? ⟨g, n.toNat * 10 + 9, none⟩ = some (.int .i64 x.f1) := fcell' x9 _
       obtain ⟨b0, b1, b2, b3, b4, b5, b6, b7, b8⟩ := box_facts (w := (wr.alloc (.cells (boxCells x emp (.slice Ax x.f0.f5.length cx)) 49)).drewN q4) (b := wr.heap.size) (blk_new wr (.cells (boxCells x emp (.slice Ax x.f0.f5.length cx)) 49))
       have bz : ((wr.alloc (.cells (boxCells x emp (.slice Ax x.f0.f5.length cx)) 49)).drewN q4).frozen? ⟨wr.heap.size, 2, none⟩ = false := box_soft (w := (wr.alloc (.cells (boxCells x emp (.slice Ax x.f0.f5.length cx)) 49)).drewN q4) (b := wr.heap.size) (blk_new wr (.cells (boxCells x emp (.slice Ax x.f0.f5.length cx)) 49)) 2
       clear fk hyk hke hno
       generalize hwv : (wr.alloc (.cells (boxCells x emp (.slice Ax x.f0.f5.length cx)) 49)).drewN q4 = wv at z0 z3 z9 z9n b0 b1 b2 b3 b4 b5 b6 b7 b8 bz ⊢
       have HWV := Aside0.mk hwv
       clear hwv
       by_cases hm : y.f0.f3 = 48 ∧ y.f1 = x.f1
       ·have m1 : (y.f0.f3 == 48) = true := beq_iff_eq.2 hm.1
        have m2 : (y.f1 == x.f1) = true := beq_iff_eq.2 hm.2
        have hlead : leadC s n.toNat x = y.f0.f0 := by
         rw [← HY.out]
         exact first_here (by omega) hnl H48.out (by rw [HY.out]; exact hm) (fun q hq h => HNO.out q (by omega) (by omega) h)
        have HLEAD := Aside0.mk hlead
        clear hm hlead
        go_upto_region 18 with (fail)
        go_quiet (fail)
        go_upto_region 20 with (fail)
        have hsm := HMID.out (q4 + nq) y.f0.f0 _ (.inr rfl)
        rw [show (wr.alloc (.cells (boxCells x emp (.slice Ax x.f0.f5.length cx)) 49)).drewN (q4 + nq) = (wv.drewN nq) from by rw [← HWV.out, World.drewN_drewN]] at hsm
        have HSM := Aside0.mk hsm
        have HLD : Aside0 (leadC s n.toNat x = y.f0.f0) := HLEAD
        generalize hwz : (wv.drewN nq).setCell ⟨wr.heap.size, 2, none⟩ (.string y.f0.f0) = wz at HSM ⊢
        generalize hld : y.f0.f0 = ldr at HSM HLD
        clear hsm hwz hld b0 b1 b2 b3 b4 b5 b6 b7 b8 bz z0 z3 z9 z9n y0 y3 y9
        obtain ⟨tS, tO, tB, tF, tz, tM⟩ := HSM.out
        obtain ⟨b0, b1, b2, b3, b4, b5, b6, b7, b8⟩ := box_facts tB
        have bz := box_soft tB 8
        have tC := Kd.F_now tF
        have tbne : ∀ k : Nat, wr.heap.size ≠ wz.heap.size + k := fun k => by omega
        have TS := Aside0.mk tS
        have TO := Aside0.mk tO
        have TB := Aside0.mk tB
        have TC := Aside0.mk tC
        have TF := Aside0.mk tF
        have hwb : wr.heap.size < wz.heap.size := by omega
        have hwW : W.heap.size ≤ wz.heap.size := tS.2.1.size
        have TZ := Aside0.mk tz
        clear tS tO tB tC tF tz tbne
        go_wp2_with (first
         | (at_builtin; refine Kd.R_append_rows (Kd.int .u8) (w0 := W) W.heap.size rfl (.tmp 104) (.tmp 106) 41 5 (.int .u8 0) 1 rfl Tryz.underlying41 infoU8 rfl (by decide) (by decide) (.slice (some ⟨wz.heap.size, 0, none⟩) 0 0) [] x.f0.f5 Ax x.f0.f5.length cx (fun k => wz.heap.size ≤ k) (fun _ => False) rfl rfl (made_u8 wz _ hwW) (Kd.C_alloc TC.out _) (fun _ _ h => h) (fun _ h => h.elim) (fun k hk => by rw [World.size_alloc] at hk; omega) (below_alloc TS.out.2.1 _) (by rw [World.size_alloc]; omega) (by simp; omega) ?_; intro v5 w5 hR5 hB5 hg5 hat5; rw [List.nil_append] at hR5; obtain ⟨A5, c5, rfl, hl5, _⟩ := Kd.R_reads hR5; have hc5 : ∀ q, w5.cell? ⟨wr.heap.size, q, none⟩ = wz.cell? ⟨wr.heap.size, q, none⟩ := (fun q => cell_over wz w5 _ hg5 hwb q); have hf5 : ∀ q, w5.frozen? ⟨wr.heap.size, q, none⟩ = wz.frozen? ⟨wr.heap.size, q, none⟩ := (fun q => froz_over wz w5 _ hg5 hwb q); have hz5 := hg5.size; rw [World.size_alloc] at hz5; have HR5 := Aside0.mk hR5; have HB5 := Aside0.mk hB5; have HG5 := Aside0.mk hg5; have HL5 := Aside0.mk hl5; clear hR5 hB5 hg5 hat5 hl5)
         | (at_builtin; obtain ⟨mS, mO, mF, mB⟩ := tail_mid TS.out TO.out HR5.out HG5.out HB5.out hwb TZ.out tM (.slice A5 x.f0.f5.length c5) hMW; refine Kd.N_append k49 (w0 := W) W.heap.size rfl (.tmp 109) (.tmp 111) 30 49 (.agg #[(.string ⟨#[]⟩), (.string ⟨#[]⟩), (.string ⟨#[]⟩), (.int .u8 0), (.int .i64 0), (.int .i64 0), (.int .i64 0), (.int .i64 0), (.slice none 0 0)]) 112 rfl Tryz.underlying30 infoNode rfl (by decide) (by decide) (.slice Ao outs.length co) outs (⟨x.f0.f0, x.f0.f1, ldr, x.f0.f3, x.f0.f4, x.f0.f5⟩ : Node) [.string x.f0.f0, .string x.f0.f1, .string ldr, .int .u8 x.f0.f3, .int .i64 x.f0.f4.f0, .int .i64 x.f0.f4.f1, .int .i64 x.f0.f4.f2, .int .i64 x.f0.f4.f3, .slice A5 x.f0.f5.length c5] (fun k => M ≤ k) (fun k => wz.heap.size ≤ k) rfl (by rw [World.size_setCell]; rfl) (k49_mkF _ _ _ HL5.out mF) (fun k hk => ⟨by omega, fun e => by have := TO.out.1 k e.symm; omega⟩) (fun k hk => by rw [World.size_setCell] at hk; omega) mO mB (by rw [World.size_setCell]; omega) (by have := HOL.out; omega) ?_; intro v6 w6 hN6 hB6 hg6 hat6; have hz6 := hg6.size; rw [World.size_setCell] at hz6; have hS6 := tail_row mS hg6 TO.out; have HN6 := Aside0.mk hN6; have HB6 := Aside0.mk hB6; have HS6 := Aside0.mk hS6; clear hN6 hB6 hg6 hat6 mS mO mF mB hS6))
        have hfin : SRel3 s W M (.slice (some ⟨g, 0, none⟩) l.length c1) (n + 1) v6 w6 := by
         refine ⟨by omega, by have := HSL.out; omega, HS6.out, ?_⟩
         have e1 : (n + 1).toNat = n.toNat + 1 := by omega
         have e2 : outC s n.toNat (s[n.toNat]'hnl) = (⟨x.f0.f0, x.f0.f1, ldr, x.f0.f3, x.f0.f4, x.f0.f5⟩ : Node) := by
          rw [HX.out]
          unfold outC
          rw [HLD.out]
         rw [e1, outs_snoc hnl, HOUTS.out, e2]
         exact Kd.N_bound HN6.out
        have HFIN := Aside0.mk hfin
        clear hfin HN6 HB6 HS6
        go_roundw
        case rel => exact ⟨n + 1, by go_num, HFIN⟩
        case measure => simp [intOf]; omega
       ·have HNM := Aside0.mk hm
        have hlt2 : k < n := by
         rcases Int.lt_or_eq_of_le hkn with h | h
         ·exact h
         ·exfalso
          have e := HKE.out (by omega)
          apply hm
          rw [e]
          exact ⟨H48.out, rfl⟩
        have hfin : SRel4 s n.toNat x (k + 1) := by
         refine ⟨by omega, fun q hq hq2 => ?_⟩
         rcases Nat.lt_or_ge q k.toNat with h | h
         ·exact HNO.out q (by omega) hq2
         ·obtain rfl : q = k.toNat := by omega
          rw [HY.out]
          exact HNM.out
        have HF4 := Aside0.mk hfin
        have hpick : (y.f0.f3 == 48) = true ∧ (y.f1 == x.f1) = false ∨ (y.f0.f3 == 48) = false := by
         by_cases h1 : y.f0.f3 = 48
         ·exact .inl ⟨beq_iff_eq.2 h1, beq_eq_false_iff_ne.2 (fun h2 => hm ⟨h1, h2⟩)⟩
         ·exact .inr (beq_eq_false_iff_ne.2 h1)
        clear hm hfin
        rcases hpick with ⟨m1, m2⟩ | m1
        all_goals
         go_upto_region 18 with (fail)
         go_quiet (fail)
         go_wp2
         go_roundw
         case rel => exact ⟨k + 1, by go_num, ⟨HF4.out, by omega, q4 + nq, by rw [← HWV.out, World.drewN_drewN]⟩⟩
         case measure => simp [intOf]; omega
     ·have e48 : (x.f0.f3 == 48) = false := beq_eq_false_iff_ne.2 h48
      have H48 := Aside0.mk h48
      clear h48
      go_wp2
      go_loopw [8] (fun i w' => i = .int .i64 0 ∧ Aside0 (w' = wr.alloc (.cells (boxCells x emp (.slice Ax x.f0.f5.length cx)) 49))) (fun _ _ => 0)
      case atStart => exact ⟨rfl, ⟨rfl⟩⟩
      case round =>
       obtain ⟨rfl, HW4⟩ := hrel
       have hw4 := HW4.out
       subst hw4
       have ckn : decide (0 ≤ n) = true := decide_eq_true h0
       obtain ⟨d0, d1, d2, d3, d4, d5, d6, d7, d8⟩ := box_facts (w := wr.alloc (.cells (boxCells x emp (.slice Ax x.f0.f5.length cx)) 49)) (b := wr.heap.size) (blk_new wr (.cells (boxCells x emp (.slice Ax x.f0.f5.length cx)) 49))
       go_upto_region 20 with (fail)
       clear d0 d1 d2 d3 d4 d5 d6 d7 d8
       have hsm := HMID.out 0 emp (wr.alloc (.cells (boxCells x emp (.slice Ax x.f0.f5.length cx)) 49)) (.inl ⟨rfl, rfl⟩)
       have HSM := Aside0.mk hsm
       have HLD : Aside0 (leadC s n.toNat x = emp) := ⟨by unfold leadC; rw [if_neg H48.out]⟩
       generalize hwz : wr.alloc (.cells (boxCells x emp (.slice Ax x.f0.f5.length cx)) 49) = wz at HSM ⊢
       generalize hld : emp = ldr at HSM HLD
       clear hsm hwz hld
       obtain ⟨tS, tO, tB, tF, tz, tM⟩ := HSM.out
       obtain ⟨b0, b1, b2, b3, b4, b5, b6, b7, b8⟩ := box_facts tB
       have bz := box_soft tB 8
       have tC := Kd.F_now tF
       have tbne : ∀ k : Nat, wr.heap.size ≠ wz.heap.size + k := fun k => by omega
       have TS := Aside0.mk tS
       have TO := Aside0.mk tO
       have TB := Aside0.mk tB
       have TC := Aside0.mk tC
       have TF := Aside0.mk tF
       have hwb : wr.heap.size < wz.heap.size := by omega
       have hwW : W.heap.size ≤ wz.heap.size := tS.2.1.size
       have TZ := Aside0.mk tz
       clear tS tO tB tC tF tz tbne
       go_wp2_with (first
        | (at_builtin; refine Kd.R_append_rows (Kd.int .u8) (w0 := W) W.heap.size rfl (.tmp 104) (.tmp 106) 41 5 (.int .u8 0) 1 rfl Tryz.underlying41 infoU8 rfl (by decide) (by decide) (.slice (some ⟨wz.heap.size, 0, none⟩) 0 0) [] x.f0.f5 Ax x.f0.f5.length cx (fun k => wz.heap.size ≤ k) (fun _ => False) rfl rfl (made_u8 wz _ hwW) (Kd.C_alloc TC.out _) (fun _ _ h => h) (fun _ h => h.elim) (fun k hk => by rw [World.size_alloc] at hk; omega) (below_alloc TS.out.2.1 _) (by rw [World.size_alloc]; omega) (by simp; omega) ?_; intro v5 w5 hR5 hB5 hg5 hat5; rw [List.nil_append] at hR5; obtain ⟨A5, c5, rfl, hl5, _⟩ := Kd.R_reads hR5; have hc5 : ∀ q, w5.cell? ⟨wr.heap.size, q, none⟩ = wz.cell? ⟨wr.heap.size, q, none⟩ := (fun q => cell_over wz w5 _ hg5 hwb q); have hf5 : ∀ q, w5.frozen? ⟨wr.heap.size, q, none⟩ = wz.frozen? ⟨wr.heap.size, q, none⟩ := (fun q => froz_over wz w5 _ hg5 hwb q); have hz5 := hg5.size; rw [World.size_alloc] at hz5; have HR5 := Aside0.mk hR5; have HB5 := Aside0.mk hB5; have HG5 := Aside0.mk hg5; have HL5 := Aside0.mk hl5; clear hR5 hB5 hg5 hat5 hl5)
        | (at_builtin; obtain ⟨mS, mO, mF, mB⟩ := tail_mid TS.out TO.out HR5.out HG5.out HB5.out hwb TZ.out tM (.slice A5 x.f0.f5.length c5) hMW; refine Kd.N_append k49 (w0 := W) W.heap.size rfl (.tmp 109) (.tmp 111) 30 49 (.agg #[(.string ⟨#[]⟩), (.string ⟨#[]⟩), (.string ⟨#[]⟩), (.int .u8 0), (.int .i64 0), (.int .i64 0), (.int .i64 0), (.int .i64 0), (.slice none 0 0)]) 112 rfl Tryz.underlying30 infoNode rfl (by decide) (by decide) (.slice Ao outs.length co) outs (⟨x.f0.f0, x.f0.f1, ldr, x.f0.f3, x.f0.f4, x.f0.f5⟩ : Node) [.string x.f0.f0, .string x.f0.f1, .string ldr, .int .u8 x.f0.f3, .int .i64 x.f0.f4.f0, .int .i64 x.f0.f4.f1, .int .i64 x.f0.f4.f2, .int .i64 x.f0.f4.f3, .slice A5 x.f0.f5.length c5] (fun k => M ≤ k) (fun k => wz.heap.size ≤ k) rfl (by rw [World.size_setCell]; rfl) (k49_mkF _ _ _ HL5.out mF) (fun k hk => ⟨by omega, fun e => by have := TO.out.1 k e.symm; omega⟩) (fun k hk => by rw [World.size_setCell] at hk; omega) mO mB (by rw [World.size_setCell]; omega) (by have := HOL.out; omega) ?_; intro v6 w6 hN6 hB6 hg6 hat6; have hz6 := hg6.size; rw [World.size_setCell] at hz6; have hS6 := tail_row mS hg6 TO.out; have HN6 := Aside0.mk hN6; have HB6 := Aside0.mk hB6; have HS6 := Aside0.mk hS6; clear hN6 hB6 hg6 hat6 mS mO mF mB hS6))
       have hfin : SRel3 s W M (.slice (some ⟨g, 0, none⟩) l.length c1) (n + 1) v6 w6 := by
        refine ⟨by omega, by have := HSL.out; omega, HS6.out, ?_⟩
        have e1 : (n + 1).toNat = n.toNat + 1 := by omega
        have e2 : outC s n.toNat (s[n.toNat]'hnl) = (⟨x.f0.f0, x.f0.f1, ldr, x.f0.f3, x.f0.f4, x.f0.f5⟩ : Node) := by
         rw [HX.out]
         unfold outC
         rw [HLD.out]
        rw [e1, outs_snoc hnl, HOUTS.out, e2]
        exact Kd.N_bound HN6.out
       have HFIN := Aside0.mk hfin
       clear hfin HN6 HB6 HS6
       go_roundw
       case rel => exact ⟨n + 1, by go_num, HFIN⟩
       case measure => simp [intOf]; omega
    ·have c1b : decide (n < (l.length : Int)) = false := decide_eq_false hlt
     go_wp2
     rw [← hQ.out]
     refine ⟨_, rfl, ?_, HS.out.2.1⟩
     have e : outs = sortedF l := by rw [HSO.out, ← HOUTS.out, List.take_of_length_le (by rw [List.length_mapIdx]; have := HSL.out; omega)]
     rw [← e]
     exact Kd.N_mono HO.out (fun k hk => by have := hk.1; have := HS.out.2.2; omega)
end Go.Proofs.YtiijbmaamblidaaGreatDoor
