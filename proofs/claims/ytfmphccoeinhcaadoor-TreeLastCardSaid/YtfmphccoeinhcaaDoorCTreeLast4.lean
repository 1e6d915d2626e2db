/-
  Part of the proof that TreeLast answers true: texts put together (wip/bundle.py).
-/
import Derived.Test.YtfmphccoeinhcaaDoorCTreeLast3
import Derived.Deep.RegionHeld3
import Derived.Laws.Cover1
import Derived.Deep.LoopGhost
import Derived.Deep.DeepCutAuto
import Derived.IntWalk
import Derived.Deep.QuietTactic
import Derived.StillTailTactics
import Derived.BigQuiet
import Derived.Laws.MakeOwn
import Derived.SizedLaws
import Derived.ChangeSlices
import Derived.OpenShut
namespace Go.Proofs.YtfmphccoeinhcaaDoor
open Go.RowKit Go.Maps Go.Proofs.YtfmphccoeinhcaaDoor.Print Go.Proofs.YtfmphccoeinhcaaDoorW.PrintWords Go.Proofs.YtfmphccoeinhcaaDoorW.PrintLast Go.Proofs.YtfmphccoeinhcaaDoorW.PrintMore
set_option linter.unusedVariables false
set_option linter.unusedSimpArgs false
theorem acell {w : World} {p : Addr} {v : Value} (h : w.cell? p = some v) (o : Obj) : (w.alloc o).cell? p = some v := ((below_alloc (Below.refl _ _) o).cell (World.block_lt_of_cell? w _ h)).trans h
theorem bkeep {w w1 : World} {p : Addr} {v : Value} (hb : Below w.heap.size w w1) (h : w.cell? p = some v) : w1.cell? p = some v := (hb.cell (World.block_lt_of_cell? w _ h)).trans h
theorem Good1_calls (l : List Node) (hr : riseB l = true) (hz : nodesZ l = true) (A0 : Option Addr) (c0 : Nat) (hc0 : l.length ≤ c0) (B : Nat) (x : Node) (A : Option Addr) (c : Nat) (W : World) (hbox : W.cell? ⟨B, 0, none⟩ = some (.slice A0 l.length c0)) (hC : Kd.C k38 W A0 l.length l) (hx : Kd.C (Kd.int .u8) W A x.f5.length x.f5) (hc : x.f5.length ≤ c) :
  Calls Tryd.prog 59 #[.agg (nodeCells x (.slice A x.f5.length c)), .pointer (some ⟨B, 0, none⟩)] W fun e W' => e = .returned (.bool (!ledB l x)) ∧ Below W.heap.size W W' := by
 have hl := led_f hr hz x
 generalize ledB l x = b at hl
 have HL := Aside0.mk hl
 have HC := Aside0.mk hC
 have HX := Aside0.mk hx
 have hBlt : B < W.heap.size := World.block_lt_of_cell? W ⟨B, 0, none⟩ hbox
 have hbn := World.new_ne W ⟨B, 0, none⟩ hbox
 clear hl hC hx hr hz
 unfold nodeCells
 go_enter Tryd.func59, Tryd.ntmps59
 go_wp2_with (go_at_call 60; refine (tree_led.calls A0 c0 l x.f0 x.f1 x.f2 x.f3 x.f4.f0 x.f4.f1 x.f4.f2 x.f4.f3 A c x.f5 b _ (by first | exact Kd.C_alloc HC.out _ | exact HC.out) hc0 (by first | exact Kd.C_alloc HX.out _ | exact HX.out) hc HL.out).mono ?_; rintro e w1 ⟨rfl, hb⟩)
 go_ret
 exact ⟨rfl, by first | exact ((Below.refl _ _).alloc (Nat.le_refl _) _).trans (hb.mono (by simp)) | exact hb⟩
def IdxRel (l : List Node) (W : World) (i : Int) (wr : World) : Prop := 0 ≤ i ∧ i ≤ l.length ∧ (∀ (j : Nat) (hj : j < l.length), (j : Int) < i → ledB l l[j] = true) ∧ Below W.heap.size W wr
theorem all_led {l : List Node} (h : ∀ (j : Nat) (hj : j < l.length), ledB l l[j] = true) : l.all (ledB l) = true := by
 rw [List.all_eq_true]
 intro x hx
 obtain ⟨i, hi, rfl⟩ := List.getElem_of_mem hx
 exact h i hi
theorem not_led {l : List Node} {j : Nat} {hj : j < l.length} (h : ledB l l[j] = false) : l.all (ledB l) = false := by
 rw [Bool.eq_false_iff]
 intro h2
 rw [List.all_eq_true] at h2
 rw [h2 _ (List.getElem_mem hj)] at h
 cases h
set_option maxRecDepth 100000 in
set_option maxHeartbeats 2000000 in
theorem Index_calls (l : List Node) (hr : riseB l = true) (hz : nodesZ l = true) (A0 : Option Addr) (c0 : Nat) (hc0 : l.length ≤ c0) (B : Nat) (W : World) (hbox : W.cell? ⟨B, 0, none⟩ = some (.slice A0 l.length c0)) (hC : Kd.C k38 W A0 l.length l) :
  Calls Tryd.prog 73 #[.slice A0 l.length c0, .func (.func 59) #[] #[.pointer (some ⟨B, 0, none⟩)]] W fun e W' => ∃ n : Int, e = .returned (.int .i64 n) ∧ decide (n ≥ 0) = !(l.all (ledB l)) ∧ Below W.heap.size W W' := by
 have hcl := fun x A c W2 (hb : Below W.heap.size W W2) (h1 : Kd.C (Kd.int .u8) W2 A x.f5.length x.f5) (h2 : x.f5.length ≤ c) => Good1_calls l hr hz A0 c0 hc0 B x A c W2 (bkeep hb hbox) (Kd.C_below hC hb) h1 h2
 have HCL := Aside0.mk hcl
 have HC := Aside0.mk hC
 have hlen : (l.length : Int) ≤ 1000000000000 := by have := ((nodesZ_iff l).1 hz).1; omega
 clear hcl hC hr hz
 generalize hpost : (fun (e : Ending) (W' : World) => ∃ n : Int, e = .returned (.int .i64 n) ∧ decide (n ≥ 0) = !(l.all (ledB l)) ∧ Below W.heap.size W W') = Q
 have hQ := Aside0.mk hpost
 clear hpost
 go_enter Tryd.func73, Tryd.ntmps73
 go_wp2
 go_loopw [8] (fun i wr => ∃ n : Int, i = .int .i64 n ∧ Aside0 (IdxRel l W n wr)) (fun i _ => (l.length - (intOf i)).toNat)
 case atStart => exact ⟨0, rfl, ⟨⟨by omega, by omega, fun j hj h => absurd h (by omega), Below.refl _ _⟩⟩⟩
 case round =>
  obtain ⟨n, rfl, HR⟩ := hrel
  have h0 := HR.out.1
  have h1 := HR.out.2.1
  have HB := Aside0.mk HR.out.2.2.2
  by_cases hlt : n < (l.length : Int)
  ·have c1 : decide (n < (l.length : Int)) = true := decide_eq_true hlt
   have hnl : n.toNat < l.length := by omega
   obtain ⟨ad, A7, c7, rfl, x0, x1, x2, x3, x4, x5, x6, x7, x8, hl7, hC7⟩ := at_T38 (Kd.C_below HC.out HB.out) n h0 hlt
   have hx := rdN_at l n h0 hlt
   generalize rd_T38 l n = x at hx x0 x1 x2 x3 x4 x5 x6 x7 x8 hl7 hC7
   have HX := Aside0.mk hx
   have HC7 := Aside0.mk hC7
   have HL7 := Aside0.mk hl7
   have HNL := Aside0.mk hnl
   clear hx hC7 hl7 hnl
   have hcl2 := HCL.out x A7 c7 wr HB.out HC7.out HL7.out
   cases hb : ledB l x with
   | true =>
    rw [hb, Bool.not_true] at hcl2
    unfold nodeCells at hcl2
    have HC2 := Aside0.mk hcl2
    have HLB := Aside0.mk hb
    clear hcl2 hb
    go_wp2_with (go_at_call 59; refine HC2.out.mono ?_; rintro e w1 ⟨rfl, hb1⟩)
    have hfin : IdxRel l W (n + 1) w1 := by
     refine ⟨by omega, by omega, fun j hj hjn => ?_, HB.out.trans (hb1.mono HB.out.size)⟩
     rcases Nat.lt_or_ge j n.toNat with h | h
     ·exact HR.out.2.2.1 j hj (by omega)
     ·obtain rfl : j = n.toNat := by omega
      rw [← HX.out]; exact HLB.out
    clear hb1
    go_roundw
    case rel => exact ⟨n + 1, by go_num, ⟨hfin⟩⟩
    case measure => simp [intOf]; omega
   | false =>
    rw [hb, Bool.not_false] at hcl2
    unfold nodeCells at hcl2
    have HC2 := Aside0.mk hcl2
    have HLB := Aside0.mk hb
    clear hcl2 hb
    go_wp2_with (go_at_call 59; refine HC2.out.mono ?_; rintro e w1 ⟨rfl, hb1⟩)
    rw [← hQ.out]
    refine ⟨n, rfl, ?_, HB.out.trans (hb1.mono HB.out.size)⟩
    rw [not_led (j := n.toNat) (hj := HNL.out) (by rw [← HX.out]; exact HLB.out), decide_eq_true (show n ≥ 0 from h0)]
    rfl
  ·have c1 : decide (n < (l.length : Int)) = false := decide_eq_false hlt
   go_wp2
   rw [← hQ.out]
   refine ⟨-1, rfl, ?_, HB.out⟩
   rw [all_led (fun j hj => HR.out.2.2.1 j hj (by omega))]
   rfl
theorem Contains_calls (l : List Node) (hr : riseB l = true) (hz : nodesZ l = true) (A0 : Option Addr) (c0 : Nat) (hc0 : l.length ≤ c0) (B : Nat) (W : World) (hbox : W.cell? ⟨B, 0, none⟩ = some (.slice A0 l.length c0)) (hC : Kd.C k38 W A0 l.length l) :
  Calls Tryd.prog 58 #[.slice A0 l.length c0, .func (.func 59) #[] #[.pointer (some ⟨B, 0, none⟩)]] W fun e W' => e = .returned (.bool (!(l.all (ledB l)))) ∧ Below W.heap.size W W' := by
 have HI := Aside0.mk (Index_calls l hr hz A0 c0 hc0 B W hbox hC)
 clear hr hz hC
 go_enter Tryd.func58, Tryd.ntmps58
 go_wp2_with (go_at_call 73; refine HI.out.mono ?_; rintro e w1 ⟨n, rfl, hn, hb⟩; have HN := Aside0.mk hn; clear hn)
 go_ret
 exact ⟨by rw [← HN.out]; rfl, hb⟩
def headOk' (l : List Node) (i : Nat) (h : i < l.length) : Bool := (decide (i = 0) || lt (l[i - 1]'(by omega)).f0 l[i].f0) && !decide (l[i].f3 = 49) && goodM (memOf l[i])
def GRel (l : List Node) (W : World) (A0 : Option Addr) (c0 : Nat) (i : Int) (wr : World) : Prop := 0 ≤ i ∧ i ≤ l.length ∧ (∀ (j : Nat) (hj : j < l.length), (j : Int) < i → headOk' l j hj = true) ∧ Below W.heap.size W wr ∧ wr.cell? ⟨W.heap.size, 0, none⟩ = some (.slice A0 l.length c0)
theorem goodTree_head {l : List Node} (h : ∀ (i : Nat) (hi : i < l.length), headOk' l i hi = true) : riseB l = true ∧ goodTree l = (decide (l.length ≤ 4096) && l.all (ledB l)) := by
 have hp : ∀ (i : Nat) (hi : i < l.length), (i = 0 ∨ lt (l[i - 1]'(by omega)).f0 l[i].f0 = true) ∧ ¬ l[i].f3 = 49 ∧ goodM (memOf l[i]) = true := fun i hi => by
  have := h i hi
  unfold headOk' at this
  simp only [Bool.and_eq_true, Bool.or_eq_true, decide_eq_true_iff, Bool.not_eq_true', decide_eq_false_iff_not] at this
  exact ⟨this.1.1, this.1.2, this.2⟩
 have hr : riseB l = true := riseB_step (fun i hi => by
  have := (hp (i + 1) hi).1
  rcases this with h | h
  ·cases h
  ·exact h)
 refine ⟨hr, ?_⟩
 unfold goodTree
 have h1 : (l.all (fun x => !decide (x.f3 = 49) && goodM (memOf x))) = true := by
  rw [List.all_eq_true]
  intro x hx
  obtain ⟨i, hi, rfl⟩ := List.getElem_of_mem hx
  rw [Bool.and_eq_true, Bool.not_eq_true', decide_eq_false_iff_not]
  exact ⟨(hp i hi).2.1, (hp i hi).2.2⟩
 rw [hr, h1]
 rfl
theorem goodTree_nothead {l : List Node} (i : Nat) (hi : i < l.length) (h : headOk' l i hi = false) : goodTree l = false :=
 goodTree_not i hi (by show (headOk' l i hi && ledB (l.take (i + 1)) l[i]) = false; rw [h]; rfl)
theorem prev_lt' {l : List Node} {n j : Int} {h : j.toNat < l.length} {h' : n.toNat - 1 < l.length} {y0 x0 : ByteArray} {b : Bool} (hy : l[j.toNat].f0 = y0) (hj : j = n - 1) (hl : Op.bytesLess y0.toList x0.toList = b) : lt (l[n.toNat - 1]).f0 x0 = b := by
 subst hj
 unfold lt
 rw [← hl, ← hy]
 congr 4
 omega
theorem gRel_next {l : List Node} {W wr w1 : World} {A0 : Option Addr} {c0 : Nat} {n : Int} (h : GRel l W A0 c0 n wr) (hn : n.toNat < l.length) (h1 : headOk' l n.toNat hn = true) (hB : Below wr.heap.size wr w1) : GRel l W A0 c0 (n + 1) w1 := by
 have h0 := h.1
 refine ⟨by omega, by omega, fun q hq hqn => ?_, h.2.2.2.1.trans (hB.mono h.2.2.2.1.size), bkeep hB h.2.2.2.2⟩
 rcases Nat.lt_or_ge q n.toNat with hh | hh
 ·exact h.2.2.1 q hq (by omega)
 ·obtain rfl : q = n.toNat := by omega
  exact h1
def Mid4 (l : List Node) (n : Nat) (h : n < l.length) (b : Bool) (wr wx : World) : Prop := b = !(headOk' l n h) ∧ Below wr.heap.size wr wx
set_option maxRecDepth 100000 in
set_option maxHeartbeats 8000000 in
theorem Good_calls (A0 : Option Addr) (c0 : Nat) (l : List Node) (W : World) (hT : Tabs W) (hC : Kd.C k38 W A0 l.length l) (hc0 : l.length ≤ c0) (hz : NodesG l) :
  Calls Tryd.prog 42 #[.slice A0 l.length c0] W fun e W' => e = .returned (.bool (goodTree l)) ∧ Below W.heap.size W W' := by
 have HC := Aside0.mk hC
 have HZ := Aside0.mk hz
 have HC0 := Aside0.mk hc0
 have HT := Aside0.mk hT
 have hlen : (l.length : Int) ≤ 1000000000000 := by have := hz.1.1; omega
 clear hC hz hc0 hT
 generalize hpost : (fun (e : Ending) (W' : World) => e = .returned (.bool (goodTree l)) ∧ Below W.heap.size W W') = Q
 have hQ := Aside0.mk hpost
 clear hpost
 go_enter Tryd.func42, Tryd.ntmps42
 go_wp2
 go_loopg [7] (l.length) (fun g i wr => ∃ n : Int, i = .int .i64 n ∧ Aside0 (GRel l W A0 c0 n wr) ∧ Aside0 ((g : Int) + n = l.length))
 case atStart => exact ⟨0, rfl, ⟨⟨by omega, by omega, fun j hj h => absurd h (by omega), (Below.refl _ _).alloc (Nat.le_refl _) _, by simp⟩⟩, ⟨by omega⟩⟩
 case round =>
  obtain ⟨n, rfl, HR, HG⟩ := hrel
  have h0 := HR.out.1
  have h1 := HR.out.2.1
  have HB := Aside0.mk HR.out.2.2.2.1
  have hbox := HR.out.2.2.2.2
  by_cases hlt : n < (l.length : Int)
  ·have hnl : n.toNat < l.length := by omega
   obtain ⟨ad, A7, c7, rfl, x0, x1, x2, x3, x4, x5, x6, x7, x8, hl7, hC7⟩ := at_T38 (Kd.C_below HC.out HB.out) n h0 hlt
   have hx := rdN_at l n h0 hlt
   have hxz : NodeZ (rd_T38 l n) ∧ (rd_T38 l n).f0.size ≤ 8000000000000 ∧ (rd_T38 l n).f1.size ≤ 8000000000000 := by rw [hx]; exact ⟨HZ.out.1.2 _ (List.getElem_mem _), HZ.out.2 _ (List.getElem_mem _)⟩
   generalize rd_T38 l n = x at hx hxz x0 x1 x2 x3 x4 x5 x6 x7 x8 hl7 hC7
   have HX := Aside0.mk hx
   have HXZ := Aside0.mk hxz
   have HC7 := Aside0.mk hC7
   have c1b : decide (n < (l.length : Int)) = true := decide_eq_true hlt
   clear hx hxz hC7
   have hmr : MemZ (memOf x) := ⟨HXZ.out.2.1, HXZ.out.2.2, HXZ.out.1.2.2.2⟩
   obtain ⟨kg, hkg⟩ := Ev.rounds (member_Good_eq (memOf x) hmr)
   generalize hgd : goodM (memOf x) = gd at hkg
   have HGD := Aside0.mk hgd
   have HKG : Aside0 (member_Good.f kg x.f0 x.f1 x.f3 x.f4.f0 x.f4.f1 x.f4.f2 x.f4.f3 x.f5 = some gd) := ⟨hkg⟩
   have HCA := Aside0.mk (fun o => Kd.C_alloc HC7.out o)
   have HTA := Aside0.mk (Tabs.below HT.out HB.out)
   have hl7' : x.f5.length ≤ c7 := hl7
   have HNL := Aside0.mk hnl
   have hbn := World.new_ne wr ⟨W.heap.size, 0, none⟩ hbox
   clear hkg hmr hl7 hgd hnl
   go_upto_region 4 with (fail)
   go_cut [44] (fun v wx => ∃ b, v = .bool b ∧ Aside0 (Mid4 l n.toNat HNL.out b wr wx))
   case first =>
    by_cases h49 : x.f3 = 49
    ·have e49 : (x.f3 == 49) = true := beq_iff_eq.2 h49
     have H49 := Aside0.mk h49
     clear h49
     refine start_ (n := 33) (S := fun w' => w'.cell? ⟨wr.heap.size, 0, none⟩ = some (.string x.f0) ∧ w'.cell? ⟨wr.heap.size, 1, none⟩ = some (.string x.f1) ∧ w'.cell? ⟨wr.heap.size, 2, none⟩ = some (.string x.f2) ∧ w'.cell? ⟨wr.heap.size, 3, none⟩ = some (.int .u8 x.f3) ∧ w'.cell? ⟨wr.heap.size, 4, none⟩ = some (.int .i64 x.f4.f0) ∧ w'.cell? ⟨wr.heap.size, 5, none⟩ = some (.int .i64 x.f4.f1) ∧ w'.cell? ⟨wr.heap.size, 6, none⟩ = some (.int .i64 x.f4.f2) ∧ w'.cell? ⟨wr.heap.size, 7, none⟩ = some (.int .i64 x.f4.f3) ∧ w'.cell? ⟨wr.heap.size, 8, none⟩ = some (.slice A7 x.f5.length c7) ∧ w'.cell? ⟨W.heap.size, 0, none⟩ = some (.slice (some ad) l.length c0)) (ds := []) #[false, false, false, false, false, false, false, false, false, false, false, false, false, false, false, false, false, false, false, false, false, false, false, false, false, false, false, false, false, false, false, false, false] (by kernel_rfl) rfl rfl ⟨by simp, by simp, by simp, by simp, by simp, by simp, by simp, by simp, by simp, acell hbox _⟩ (fun hHeld => ?_)
     generalize hwq : (wr.alloc (.cells #[.string x.f0, .string x.f1, .string x.f2, .int .u8 x.f3, .int .i64 x.f4.f0, .int .i64 x.f4.f1, .int .i64 x.f4.f2, .int .i64 x.f4.f3, .slice A7 x.f5.length c7] 38)).drew = wq at hHeld ⊢
     refine pure_ (i := 0) (N := some 12) (v := ?_) (a' := ?_) #[true, false, false, false, false, false, false, false, false, false, false, false, false, false, false, false, false, false, false, false, false, false, false, false, false, false, false, false, false, false, false, false, false] rfl rfl (by kernel_rfl) (fun _ _ _ h => h) (Or.inl ⟨by rfl, ?_⟩) ?_ ?_
     rotate_left
     ·intro w'
      go_simp
      with_reducible rfl
     rotate_left
     ·simp only [Act.put, List.setIfInBounds_toArray, List.set_cons_zero, List.set_cons_succ, i64_w, i32_w]
      rfl
     refine take_ (i := 1) (N := some 13) (v := ?_) (a' := ?_) #[true, true, false, false, false, false, false, false, false, false, false, false, false, false, false, false, false, false, false, false, false, false, false, false, false, false, false, false, false, false, false, false, false] rfl rfl (by kernel_rfl) (fun _ _ _ h => h) (Or.inl ⟨by rfl, ?_⟩) hHeld ?_ ?_
     rotate_left
     ·rintro w' ⟨s0, s1, s2, s3, s4, s5, s6, s7, s8, s9⟩
      go_simp
      with_reducible rfl
     rotate_left
     ·simp only [Act.put, List.setIfInBounds_toArray, List.set_cons_zero, List.set_cons_succ, i64_w, i32_w]
      rfl
     refine pure_ (i := 2) (N := some 14) (v := ?_) (a' := ?_) #[true, true, true, false, false, false, false, false, false, false, false, false, false, false, false, false, false, false, false, false, false, false, false, false, false, false, false, false, false, false, false, false, false] rfl rfl (by kernel_rfl) (fun _ _ _ h => h) (Or.inl ⟨by rfl, ?_⟩) ?_ ?_
     rotate_left
     ·intro w'
      go_simp
      with_reducible rfl
     rotate_left
     ·simp only [Act.put, List.setIfInBounds_toArray, List.set_cons_zero, List.set_cons_succ, i64_w, i32_w]
      rfl
     refine pure_ (i := 3) (N := some 15) (v := ?_) (a' := ?_) #[true, true, true, true, false, false, false, false, false, false, false, false, false, false, false, false, false, false, false, false, false, false, false, false, false, false, false, false, false, false, false, false, false] rfl rfl (by kernel_rfl) (fun _ _ _ h => h) (Or.inl ⟨by rfl, ?_⟩) ?_ ?_
     rotate_left
     ·intro w'
      go_simp
      with_reducible rfl
     rotate_left
     ·simp only [Act.put, List.setIfInBounds_toArray, List.set_cons_zero, List.set_cons_succ, i64_w, i32_w]
      rfl
     refine pure_ (i := 4) (N := some 16) (v := undef) (a' := ?_) #[true, true, true, true, true, false, false, false, false, false, false, false, false, false, false, false, false, false, false, false, false, false, false, false, false, false, false, false, false, false, false, false, false] rfl rfl (by kernel_rfl) (fun _ _ _ h => h) (Or.inr ⟨by rfl, rfl⟩) ?_ ?_
     rotate_left
     ·simp only [Act.put, List.setIfInBounds_toArray, List.set_cons_zero, List.set_cons_succ, i64_w, i32_w]
      rfl
     refine pure_ (i := 5) (N := some 17) (v := undef) (a' := ?_) #[true, true, true, true, true, true, false, false, false, false, false, false, false, false, false, false, false, false, false, false, false, false, false, false, false, false, false, false, false, false, false, false, false] rfl rfl (by kernel_rfl) (fun _ _ _ h => h) (Or.inr ⟨by rfl, rfl⟩) ?_ ?_
     rotate_left
     ·simp only [Act.put, List.setIfInBounds_toArray, List.set_cons_zero, List.set_cons_succ, i64_w, i32_w]
      rfl
     refine pure_ (i := 6) (N := some 18) (v := undef) (a' := ?_) #[true, true, true, true, true, true, true, false, false, false, false, false, false, false, false, false, false, false, false, false, false, false, false, false, false, false, false, false, false, false, false, false, false] rfl rfl (by kernel_rfl) (fun _ _ _ h => h) (Or.inr ⟨by rfl, rfl⟩) ?_ ?_
     rotate_left
     ·simp only [Act.put, List.setIfInBounds_toArray, List.set_cons_zero, List.set_cons_succ, i64_w, i32_w]
      rfl
     refine pure_ (i := 7) (N := some 19) (v := undef) (a' := ?_) #[true, true, true, true, true, true, true, true, false, false, false, false, false, false, false, false, false, false, false, false, false, false, false, false, false, false, false, false, false, false, false, false, false] rfl rfl (by kernel_rfl) (fun _ _ _ h => h) (Or.inr ⟨by rfl, rfl⟩) ?_ ?_
     rotate_left
     ·simp only [Act.put, List.setIfInBounds_toArray, List.set_cons_zero, List.set_cons_succ, i64_w, i32_w]
      rfl
     refine pure_ (i := 8) (N := some 20) (v := undef) (a' := ?_) #[true, true, true, true, true, true, true, true, true, false, false, false, false, false, false, false, false, false, false, false, false, false, false, false, false, false, false, false, false, false, false, false, false] rfl rfl (by kernel_rfl) (fun _ _ _ h => h) (Or.inr ⟨by rfl, rfl⟩) ?_ ?_
     rotate_left
     ·simp only [Act.put, List.setIfInBounds_toArray, List.set_cons_zero, List.set_cons_succ, i64_w, i32_w]
      rfl
     refine pure_ (i := 9) (N := some 21) (v := undef) (a' := ?_) #[true, true, true, true, true, true, true, true, true, true, false, false, false, false, false, false, false, false, false, false, false, false, false, false, false, false, false, false, false, false, false, false, false] rfl rfl (by kernel_rfl) (fun _ _ _ h => h) (Or.inr ⟨by rfl, rfl⟩) ?_ ?_
     rotate_left
     ·simp only [Act.put, List.setIfInBounds_toArray, List.set_cons_zero, List.set_cons_succ, i64_w, i32_w]
      rfl
     refine pure_ (i := 10) (N := some 22) (v := undef) (a' := ?_) #[true, true, true, true, true, true, true, true, true, true, true, false, false, false, false, false, false, false, false, false, false, false, false, false, false, false, false, false, false, false, false, false, false] rfl rfl (by kernel_rfl) (fun _ _ _ h => h) (Or.inr ⟨by rfl, rfl⟩) ?_ ?_
     rotate_left
     ·simp only [Act.put, List.setIfInBounds_toArray, List.set_cons_zero, List.set_cons_succ, i64_w, i32_w]
      rfl
     refine pure_ (i := 11) (N := some 23) (v := undef) (a' := ?_) #[true, true, true, true, true, true, true, true, true, true, true, true, false, false, false, false, false, false, false, false, false, false, false, false, false, false, false, false, false, false, false, false, false] rfl rfl (by kernel_rfl) (fun _ _ _ h => h) (Or.inr ⟨by rfl, rfl⟩) ?_ ?_
     rotate_left
     ·simp only [Act.put, List.setIfInBounds_toArray, List.set_cons_zero, List.set_cons_succ, i64_w, i32_w]
      rfl
     refine pure_ (i := 12) (N := some 24) (v := undef) (a' := ?_) #[true, true, true, true, true, true, true, true, true, true, true, true, true, false, false, false, false, false, false, false, false, false, false, false, false, false, false, false, false, false, false, false, false] rfl rfl (by kernel_rfl) (fun _ _ _ h => h) (Or.inr ⟨by rfl, rfl⟩) ?_ ?_
     rotate_left
     ·simp only [Act.put, List.setIfInBounds_toArray, List.set_cons_zero, List.set_cons_succ, i64_w, i32_w]
      rfl
     refine pure_ (i := 13) (N := some 25) (v := undef) (a' := ?_) #[true, true, true, true, true, true, true, true, true, true, true, true, true, true, false, false, false, false, false, false, false, false, false, false, false, false, false, false, false, false, false, false, false] rfl rfl (by kernel_rfl) (fun _ _ _ h => h) (Or.inr ⟨by rfl, rfl⟩) ?_ ?_
     rotate_left
     ·simp only [Act.put, List.setIfInBounds_toArray, List.set_cons_zero, List.set_cons_succ, i64_w, i32_w]
      rfl
     refine pure_ (i := 14) (N := some 26) (v := undef) (a' := ?_) #[true, true, true, true, true, true, true, true, true, true, true, true, true, true, true, false, false, false, false, false, false, false, false, false, false, false, false, false, false, false, false, false, false] rfl rfl (by kernel_rfl) (fun _ _ _ h => h) (Or.inr ⟨by rfl, rfl⟩) ?_ ?_
     rotate_left
     ·simp only [Act.put, List.setIfInBounds_toArray, List.set_cons_zero, List.set_cons_succ, i64_w, i32_w]
      rfl
     refine pure_ (i := 15) (N := some 27) (v := undef) (a' := ?_) #[true, true, true, true, true, true, true, true, true, true, true, true, true, true, true, true, false, false, false, false, false, false, false, false, false, false, false, false, false, false, false, false, false] rfl rfl (by kernel_rfl) (fun _ _ _ h => h) (Or.inr ⟨by rfl, rfl⟩) ?_ ?_
     rotate_left
     ·simp only [Act.put, List.setIfInBounds_toArray, List.set_cons_zero, List.set_cons_succ, i64_w, i32_w]
      rfl
     refine pure_ (i := 16) (N := some 28) (v := undef) (a' := ?_) #[true, true, true, true, true, true, true, true, true, true, true, true, true, true, true, true, true, false, false, false, false, false, false, false, false, false, false, false, false, false, false, false, false] rfl rfl (by kernel_rfl) (fun _ _ _ h => h) (Or.inr ⟨by rfl, rfl⟩) ?_ ?_
     rotate_left
     ·simp only [Act.put, List.setIfInBounds_toArray, List.set_cons_zero, List.set_cons_succ, i64_w, i32_w]
      rfl
     refine pure_ (i := 17) (N := some 29) (v := ?_) (a' := ?_) #[true, true, true, true, true, true, true, true, true, true, true, true, true, true, true, true, true, true, false, false, false, false, false, false, false, false, false, false, false, false, false, false, false] rfl rfl (by kernel_rfl) (fun _ _ _ h => h) (Or.inl ⟨by rfl, ?_⟩) ?_ ?_
     rotate_left
     ·intro w'
      go_simp
      with_reducible rfl
     rotate_left
     ·simp only [Act.put, List.setIfInBounds_toArray, List.set_cons_zero, List.set_cons_succ, i64_w, i32_w]
      rfl
     refine pure_ (i := 18) (N := some 30) (v := ?_) (a' := ?_) #[true, true, true, true, true, true, true, true, true, true, true, true, true, true, true, true, true, true, true, false, false, false, false, false, false, false, false, false, false, false, false, false, false] rfl rfl (by kernel_rfl) (fun _ _ _ h => h) (Or.inl ⟨by rfl, ?_⟩) ?_ ?_
     rotate_left
     ·intro w'
      go_simp
      with_reducible rfl
     rotate_left
     ·simp only [Act.put, List.setIfInBounds_toArray, List.set_cons_zero, List.set_cons_succ, i64_w, i32_w]
      rfl
     refine pure_ (i := 19) (N := some 31) (v := undef) (a' := ?_) #[true, true, true, true, true, true, true, true, true, true, true, true, true, true, true, true, true, true, true, true, false, false, false, false, false, false, false, false, false, false, false, false, false] rfl rfl (by kernel_rfl) (fun _ _ _ h => h) (Or.inr ⟨by rfl, rfl⟩) ?_ ?_
     rotate_left
     ·simp only [Act.put, List.setIfInBounds_toArray, List.set_cons_zero, List.set_cons_succ, i64_w, i32_w]
      rfl
     refine pure_ (i := 20) (N := some 32) (v := undef) (a' := ?_) #[true, true, true, true, true, true, true, true, true, true, true, true, true, true, true, true, true, true, true, true, true, false, false, false, false, false, false, false, false, false, false, false, false] rfl rfl (by kernel_rfl) (fun _ _ _ h => h) (Or.inr ⟨by rfl, rfl⟩) ?_ ?_
     rotate_left
     ·simp only [Act.put, List.setIfInBounds_toArray, List.set_cons_zero, List.set_cons_succ, i64_w, i32_w]
      rfl
     refine pure_ (i := 21) (N := some 33) (v := undef) (a' := ?_) #[true, true, true, true, true, true, true, true, true, true, true, true, true, true, true, true, true, true, true, true, true, true, false, false, false, false, false, false, false, false, false, false, false] rfl rfl (by kernel_rfl) (fun _ _ _ h => h) (Or.inr ⟨by rfl, rfl⟩) ?_ ?_
     rotate_left
     ·simp only [Act.put, List.setIfInBounds_toArray, List.set_cons_zero, List.set_cons_succ, i64_w, i32_w]
      rfl
     refine pure_ (i := 22) (N := some 34) (v := undef) (a' := ?_) #[true, true, true, true, true, true, true, true, true, true, true, true, true, true, true, true, true, true, true, true, true, true, true, false, false, false, false, false, false, false, false, false, false] rfl rfl (by kernel_rfl) (fun _ _ _ h => h) (Or.inr ⟨by rfl, rfl⟩) ?_ ?_
     rotate_left
     ·simp only [Act.put, List.setIfInBounds_toArray, List.set_cons_zero, List.set_cons_succ, i64_w, i32_w]
      rfl
     refine pure_ (i := 23) (N := some 35) (v := undef) (a' := ?_) #[true, true, true, true, true, true, true, true, true, true, true, true, true, true, true, true, true, true, true, true, true, true, true, true, false, false, false, false, false, false, false, false, false] rfl rfl (by kernel_rfl) (fun _ _ _ h => h) (Or.inr ⟨by rfl, rfl⟩) ?_ ?_
     rotate_left
     ·simp only [Act.put, List.setIfInBounds_toArray, List.set_cons_zero, List.set_cons_succ, i64_w, i32_w]
      rfl
     refine pure_ (i := 24) (N := some 36) (v := undef) (a' := ?_) #[true, true, true, true, true, true, true, true, true, true, true, true, true, true, true, true, true, true, true, true, true, true, true, true, true, false, false, false, false, false, false, false, false] rfl rfl (by kernel_rfl) (fun _ _ _ h => h) (Or.inr ⟨by rfl, rfl⟩) ?_ ?_
     rotate_left
     ·simp only [Act.put, List.setIfInBounds_toArray, List.set_cons_zero, List.set_cons_succ, i64_w, i32_w]
      rfl
     refine pure_ (i := 25) (N := some 37) (v := undef) (a' := ?_) #[true, true, true, true, true, true, true, true, true, true, true, true, true, true, true, true, true, true, true, true, true, true, true, true, true, true, false, false, false, false, false, false, false] rfl rfl (by kernel_rfl) (fun _ _ _ h => h) (Or.inr ⟨by rfl, rfl⟩) ?_ ?_
     rotate_left
     ·simp only [Act.put, List.setIfInBounds_toArray, List.set_cons_zero, List.set_cons_succ, i64_w, i32_w]
      rfl
     refine pure_ (i := 26) (N := some 38) (v := undef) (a' := ?_) #[true, true, true, true, true, true, true, true, true, true, true, true, true, true, true, true, true, true, true, true, true, true, true, true, true, true, true, false, false, false, false, false, false] rfl rfl (by kernel_rfl) (fun _ _ _ h => h) (Or.inr ⟨by rfl, rfl⟩) ?_ ?_
     rotate_left
     ·simp only [Act.put, List.setIfInBounds_toArray, List.set_cons_zero, List.set_cons_succ, i64_w, i32_w]
      rfl
     refine pure_ (i := 27) (N := some 39) (v := undef) (a' := ?_) #[true, true, true, true, true, true, true, true, true, true, true, true, true, true, true, true, true, true, true, true, true, true, true, true, true, true, true, true, false, false, false, false, false] rfl rfl (by kernel_rfl) (fun _ _ _ h => h) (Or.inr ⟨by rfl, rfl⟩) ?_ ?_
     rotate_left
     ·simp only [Act.put, List.setIfInBounds_toArray, List.set_cons_zero, List.set_cons_succ, i64_w, i32_w]
      rfl
     refine pure_ (i := 28) (N := some 40) (v := undef) (a' := ?_) #[true, true, true, true, true, true, true, true, true, true, true, true, true, true, true, true, true, true, true, true, true, true, true, true, true, true, true, true, true, false, false, false, false] rfl rfl (by kernel_rfl) (fun _ _ _ h => h) (Or.inr ⟨by rfl, rfl⟩) ?_ ?_
     rotate_left
     ·simp only [Act.put, List.setIfInBounds_toArray, List.set_cons_zero, List.set_cons_succ, i64_w, i32_w]
      rfl
     refine pure_ (i := 29) (N := some 41) (v := undef) (a' := ?_) #[true, true, true, true, true, true, true, true, true, true, true, true, true, true, true, true, true, true, true, true, true, true, true, true, true, true, true, true, true, true, false, false, false] rfl rfl (by kernel_rfl) (fun _ _ _ h => h) (Or.inr ⟨by rfl, rfl⟩) ?_ ?_
     rotate_left
     ·simp only [Act.put, List.setIfInBounds_toArray, List.set_cons_zero, List.set_cons_succ, i64_w, i32_w]
      rfl
     refine pure_ (i := 30) (N := some 42) (v := undef) (a' := ?_) #[true, true, true, true, true, true, true, true, true, true, true, true, true, true, true, true, true, true, true, true, true, true, true, true, true, true, true, true, true, true, true, false, false] rfl rfl (by kernel_rfl) (fun _ _ _ h => h) (Or.inr ⟨by rfl, rfl⟩) ?_ ?_
     rotate_left
     ·simp only [Act.put, List.setIfInBounds_toArray, List.set_cons_zero, List.set_cons_succ, i64_w, i32_w]
      rfl
     refine pure_ (i := 31) (N := some 43) (v := undef) (a' := ?_) #[true, true, true, true, true, true, true, true, true, true, true, true, true, true, true, true, true, true, true, true, true, true, true, true, true, true, true, true, true, true, true, true, false] rfl rfl (by kernel_rfl) (fun _ _ _ h => h) (Or.inr ⟨by rfl, rfl⟩) ?_ ?_
     rotate_left
     ·simp only [Act.put, List.setIfInBounds_toArray, List.set_cons_zero, List.set_cons_succ, i64_w, i32_w]
      rfl
     refine pure_ (i := 32) (N := some 44) (v := ?_) (a' := ?_) #[true, true, true, true, true, true, true, true, true, true, true, true, true, true, true, true, true, true, true, true, true, true, true, true, true, true, true, true, true, true, true, true, true] rfl rfl (by kernel_rfl) (fun _ _ _ h => h) (Or.inl ⟨by rfl, ?_⟩) ?_ ?_
     rotate_left
     ·intro w'
      go_simp
      with_reducible rfl
     rotate_left
     ·simp only [Act.put, List.setIfInBounds_toArray, List.set_cons_zero, List.set_cons_succ, i64_w, i32_w]
      rfl
     refine done_ (by kernel_rfl) ?_
     go_wp2_with (fail)
     go_meet
     exact ⟨true, rfl, ⟨by unfold headOk'; rw [← HX.out, decide_eq_true H49.out]; simp, by rw [← hwq]; exact below_drew (below_alloc (Below.refl _ _) _)⟩⟩
    ·have e49 : (x.f3 == 49) = false := beq_eq_false_iff_ne.2 h49
     have H49 := Aside0.mk h49
     clear h49
     by_cases hn0 : n = 0
     ·have g1 : decide (0 < n) = false := decide_eq_false (by omega)
      have g2 : decide (n > 0) = false := decide_eq_false (by omega)
      have HN0 := Aside0.mk hn0
      clear hn0
      refine start_ (n := 33) (S := fun w' => w'.cell? ⟨wr.heap.size, 0, none⟩ = some (.string x.f0) ∧ w'.cell? ⟨wr.heap.size, 1, none⟩ = some (.string x.f1) ∧ w'.cell? ⟨wr.heap.size, 2, none⟩ = some (.string x.f2) ∧ w'.cell? ⟨wr.heap.size, 3, none⟩ = some (.int .u8 x.f3) ∧ w'.cell? ⟨wr.heap.size, 4, none⟩ = some (.int .i64 x.f4.f0) ∧ w'.cell? ⟨wr.heap.size, 5, none⟩ = some (.int .i64 x.f4.f1) ∧ w'.cell? ⟨wr.heap.size, 6, none⟩ = some (.int .i64 x.f4.f2) ∧ w'.cell? ⟨wr.heap.size, 7, none⟩ = some (.int .i64 x.f4.f3) ∧ w'.cell? ⟨wr.heap.size, 8, none⟩ = some (.slice A7 x.f5.length c7) ∧ w'.cell? ⟨W.heap.size, 0, none⟩ = some (.slice (some ad) l.length c0)) (ds := []) #[false, false, false, false, false, false, false, false, false, false, false, false, false, false, false, false, false, false, false, false, false, false, false, false, false, false, false, false, false, false, false, false, false] (by kernel_rfl) rfl rfl ⟨by simp, by simp, by simp, by simp, by simp, by simp, by simp, by simp, by simp, acell hbox _⟩ (fun hHeld => ?_)
      generalize hwq : (wr.alloc (.cells #[.string x.f0, .string x.f1, .string x.f2, .int .u8 x.f3, .int .i64 x.f4.f0, .int .i64 x.f4.f1, .int .i64 x.f4.f2, .int .i64 x.f4.f3, .slice A7 x.f5.length c7] 38)).drew = wq at hHeld ⊢
      refine pure_ (i := 0) (N := some 12) (v := ?_) (a' := ?_) #[true, false, false, false, false, false, false, false, false, false, false, false, false, false, false, false, false, false, false, false, false, false, false, false, false, false, false, false, false, false, false, false, false] rfl rfl (by kernel_rfl) (fun _ _ _ h => h) (Or.inl ⟨by rfl, ?_⟩) ?_ ?_
      rotate_left
      ·intro w'
       go_simp
       with_reducible rfl
      rotate_left
      ·simp only [Act.put, List.setIfInBounds_toArray, List.set_cons_zero, List.set_cons_succ, i64_w, i32_w]
       rfl
      refine take_ (i := 1) (N := some 13) (v := ?_) (a' := ?_) #[true, true, false, false, false, false, false, false, false, false, false, false, false, false, false, false, false, false, false, false, false, false, false, false, false, false, false, false, false, false, false, false, false] rfl rfl (by kernel_rfl) (fun _ _ _ h => h) (Or.inl ⟨by rfl, ?_⟩) hHeld ?_ ?_
      rotate_left
      ·rintro w' ⟨s0, s1, s2, s3, s4, s5, s6, s7, s8, s9⟩
       go_simp
       with_reducible rfl
      rotate_left
      ·simp only [Act.put, List.setIfInBounds_toArray, List.set_cons_zero, List.set_cons_succ, i64_w, i32_w]
       rfl
      refine pure_ (i := 2) (N := some 14) (v := ?_) (a' := ?_) #[true, true, true, false, false, false, false, false, false, false, false, false, false, false, false, false, false, false, false, false, false, false, false, false, false, false, false, false, false, false, false, false, false] rfl rfl (by kernel_rfl) (fun _ _ _ h => h) (Or.inl ⟨by rfl, ?_⟩) ?_ ?_
      rotate_left
      ·intro w'
       go_simp
       with_reducible rfl
      rotate_left
      ·simp only [Act.put, List.setIfInBounds_toArray, List.set_cons_zero, List.set_cons_succ, i64_w, i32_w]
       rfl
      refine pure_ (i := 3) (N := some 15) (v := ?_) (a' := ?_) #[true, true, true, true, false, false, false, false, false, false, false, false, false, false, false, false, false, false, false, false, false, false, false, false, false, false, false, false, false, false, false, false, false] rfl rfl (by kernel_rfl) (fun _ _ _ h => h) (Or.inl ⟨by rfl, ?_⟩) ?_ ?_
      rotate_left
      ·intro w'
       go_simp
       with_reducible rfl
      rotate_left
      ·simp only [Act.put, List.setIfInBounds_toArray, List.set_cons_zero, List.set_cons_succ, i64_w, i32_w]
       rfl
      refine pure_ (i := 4) (N := some 16) (v := ?_) (a' := ?_) #[true, true, true, true, true, false, false, false, false, false, false, false, false, false, false, false, false, false, false, false, false, false, false, false, false, false, false, false, false, false, false, false, false] rfl rfl (by kernel_rfl) (fun _ _ _ h => h) (Or.inl ⟨by rfl, ?_⟩) ?_ ?_
      rotate_left
      ·intro w'
       go_simp
       with_reducible rfl
      rotate_left
      ·simp only [Act.put, List.setIfInBounds_toArray, List.set_cons_zero, List.set_cons_succ, i64_w, i32_w]
       rfl
      refine pure_ (i := 5) (N := some 17) (v := ?_) (a' := ?_) #[true, true, true, true, true, true, false, false, false, false, false, false, false, false, false, false, false, false, false, false, false, false, false, false, false, false, false, false, false, false, false, false, false] rfl rfl (by kernel_rfl) (fun _ _ _ h => h) (Or.inl ⟨by rfl, ?_⟩) ?_ ?_
      rotate_left
      ·intro w'
       go_simp
       with_reducible rfl
      rotate_left
      ·simp only [Act.put, List.setIfInBounds_toArray, List.set_cons_zero, List.set_cons_succ, i64_w, i32_w]
       rfl
      refine pure_ (i := 6) (N := some 18) (v := ?_) (a' := ?_) #[true, true, true, true, true, true, true, false, false, false, false, false, false, false, false, false, false, false, false, false, false, false, false, false, false, false, false, false, false, false, false, false, false] rfl rfl (by kernel_rfl) (fun _ _ _ h => h) (Or.inl ⟨by rfl, ?_⟩) ?_ ?_
      rotate_left
      ·intro w'
       go_simp
       with_reducible rfl
      rotate_left
      ·simp only [Act.put, List.setIfInBounds_toArray, List.set_cons_zero, List.set_cons_succ, i64_w, i32_w]
       rfl
      refine pure_ (i := 7) (N := some 19) (v := undef) (a' := ?_) #[true, true, true, true, true, true, true, true, false, false, false, false, false, false, false, false, false, false, false, false, false, false, false, false, false, false, false, false, false, false, false, false, false] rfl rfl (by kernel_rfl) (fun _ _ _ h => h) (Or.inr ⟨by rfl, rfl⟩) ?_ ?_
      rotate_left
      ·simp only [Act.put, List.setIfInBounds_toArray, List.set_cons_zero, List.set_cons_succ, i64_w, i32_w]
       rfl
      refine pure_ (i := 8) (N := some 20) (v := undef) (a' := ?_) #[true, true, true, true, true, true, true, true, true, false, false, false, false, false, false, false, false, false, false, false, false, false, false, false, false, false, false, false, false, false, false, false, false] rfl rfl (by kernel_rfl) (fun _ _ _ h => h) (Or.inr ⟨by rfl, rfl⟩) ?_ ?_
      rotate_left
      ·simp only [Act.put, List.setIfInBounds_toArray, List.set_cons_zero, List.set_cons_succ, i64_w, i32_w]
       rfl
      refine pure_ (i := 9) (N := some 21) (v := undef) (a' := ?_) #[true, true, true, true, true, true, true, true, true, true, false, false, false, false, false, false, false, false, false, false, false, false, false, false, false, false, false, false, false, false, false, false, false] rfl rfl (by kernel_rfl) (fun _ _ _ h => h) (Or.inr ⟨by rfl, rfl⟩) ?_ ?_
      rotate_left
      ·simp only [Act.put, List.setIfInBounds_toArray, List.set_cons_zero, List.set_cons_succ, i64_w, i32_w]
       rfl
      refine pure_ (i := 10) (N := some 22) (v := undef) (a' := ?_) #[true, true, true, true, true, true, true, true, true, true, true, false, false, false, false, false, false, false, false, false, false, false, false, false, false, false, false, false, false, false, false, false, false] rfl rfl (by kernel_rfl) (fun _ _ _ h => h) (Or.inr ⟨by rfl, rfl⟩) ?_ ?_
      rotate_left
      ·simp only [Act.put, List.setIfInBounds_toArray, List.set_cons_zero, List.set_cons_succ, i64_w, i32_w]
       rfl
      refine pure_ (i := 11) (N := some 23) (v := undef) (a' := ?_) #[true, true, true, true, true, true, true, true, true, true, true, true, false, false, false, false, false, false, false, false, false, false, false, false, false, false, false, false, false, false, false, false, false] rfl rfl (by kernel_rfl) (fun _ _ _ h => h) (Or.inr ⟨by rfl, rfl⟩) ?_ ?_
      rotate_left
      ·simp only [Act.put, List.setIfInBounds_toArray, List.set_cons_zero, List.set_cons_succ, i64_w, i32_w]
       rfl
      refine pure_ (i := 12) (N := some 24) (v := undef) (a' := ?_) #[true, true, true, true, true, true, true, true, true, true, true, true, true, false, false, false, false, false, false, false, false, false, false, false, false, false, false, false, false, false, false, false, false] rfl rfl (by kernel_rfl) (fun _ _ _ h => h) (Or.inr ⟨by rfl, rfl⟩) ?_ ?_
      rotate_left
      ·simp only [Act.put, List.setIfInBounds_toArray, List.set_cons_zero, List.set_cons_succ, i64_w, i32_w]
       rfl
      refine pure_ (i := 13) (N := some 25) (v := undef) (a' := ?_) #[true, true, true, true, true, true, true, true, true, true, true, true, true, true, false, false, false, false, false, false, false, false, false, false, false, false, false, false, false, false, false, false, false] rfl rfl (by kernel_rfl) (fun _ _ _ h => h) (Or.inr ⟨by rfl, rfl⟩) ?_ ?_
      rotate_left
      ·simp only [Act.put, List.setIfInBounds_toArray, List.set_cons_zero, List.set_cons_succ, i64_w, i32_w]
       rfl
      refine pure_ (i := 14) (N := some 26) (v := undef) (a' := ?_) #[true, true, true, true, true, true, true, true, true, true, true, true, true, true, true, false, false, false, false, false, false, false, false, false, false, false, false, false, false, false, false, false, false] rfl rfl (by kernel_rfl) (fun _ _ _ h => h) (Or.inr ⟨by rfl, rfl⟩) ?_ ?_
      rotate_left
      ·simp only [Act.put, List.setIfInBounds_toArray, List.set_cons_zero, List.set_cons_succ, i64_w, i32_w]
       rfl
      refine pure_ (i := 15) (N := some 27) (v := undef) (a' := ?_) #[true, true, true, true, true, true, true, true, true, true, true, true, true, true, true, true, false, false, false, false, false, false, false, false, false, false, false, false, false, false, false, false, false] rfl rfl (by kernel_rfl) (fun _ _ _ h => h) (Or.inr ⟨by rfl, rfl⟩) ?_ ?_
      rotate_left
      ·simp only [Act.put, List.setIfInBounds_toArray, List.set_cons_zero, List.set_cons_succ, i64_w, i32_w]
       rfl
      refine pure_ (i := 16) (N := some 28) (v := ?_) (a' := ?_) #[true, true, true, true, true, true, true, true, true, true, true, true, true, true, true, true, true, false, false, false, false, false, false, false, false, false, false, false, false, false, false, false, false] rfl rfl (by kernel_rfl) (fun _ _ _ h => h) (Or.inl ⟨by rfl, ?_⟩) ?_ ?_
      rotate_left
      ·intro w'
       go_simp
       with_reducible rfl
      rotate_left
      ·simp only [Act.put, List.setIfInBounds_toArray, List.set_cons_zero, List.set_cons_succ, i64_w, i32_w]
       rfl
      refine pure_ (i := 17) (N := some 29) (v := ?_) (a' := ?_) #[true, true, true, true, true, true, true, true, true, true, true, true, true, true, true, true, true, true, false, false, false, false, false, false, false, false, false, false, false, false, false, false, false] rfl rfl (by kernel_rfl) (fun _ _ _ h => h) (Or.inl ⟨by rfl, ?_⟩) ?_ ?_
      rotate_left
      ·intro w'
       go_simp
       with_reducible rfl
      rotate_left
      ·simp only [Act.put, List.setIfInBounds_toArray, List.set_cons_zero, List.set_cons_succ, i64_w, i32_w]
       rfl
      refine pure_ (i := 18) (N := some 30) (v := ?_) (a' := ?_) #[true, true, true, true, true, true, true, true, true, true, true, true, true, true, true, true, true, true, true, false, false, false, false, false, false, false, false, false, false, false, false, false, false] rfl rfl (by kernel_rfl) (fun _ _ _ h => h) (Or.inl ⟨by rfl, ?_⟩) ?_ ?_
      rotate_left
      ·intro w'
       go_simp
       with_reducible rfl
      rotate_left
      ·simp only [Act.put, List.setIfInBounds_toArray, List.set_cons_zero, List.set_cons_succ, i64_w, i32_w]
       rfl
      refine pure_ (i := 19) (N := some 31) (v := ?_) (a' := ?_) #[true, true, true, true, true, true, true, true, true, true, true, true, true, true, true, true, true, true, true, true, false, false, false, false, false, false, false, false, false, false, false, false, false] rfl rfl (by kernel_rfl) (fun _ _ _ h => h) (Or.inl ⟨by rfl, ?_⟩) ?_ ?_
      rotate_left
      ·intro w'
       go_simp
       with_reducible rfl
      rotate_left
      ·simp only [Act.put, List.setIfInBounds_toArray, List.set_cons_zero, List.set_cons_succ, i64_w, i32_w]
       rfl
      refine take_ (i := 20) (N := some 32) (v := ?_) (a' := ?_) #[true, true, true, true, true, true, true, true, true, true, true, true, true, true, true, true, true, true, true, true, true, false, false, false, false, false, false, false, false, false, false, false, false] rfl rfl (by kernel_rfl) (fun _ _ _ h => h) (Or.inl ⟨by rfl, ?_⟩) hHeld ?_ ?_
      rotate_left
      ·rintro w' ⟨s0, s1, s2, s3, s4, s5, s6, s7, s8, s9⟩
       go_simp
       with_reducible rfl
      rotate_left
      ·simp only [Act.put, List.setIfInBounds_toArray, List.set_cons_zero, List.set_cons_succ, i64_w, i32_w]
       rfl
      refine pure_ (i := 21) (N := some 33) (v := ?_) (a' := ?_) #[true, true, true, true, true, true, true, true, true, true, true, true, true, true, true, true, true, true, true, true, true, true, false, false, false, false, false, false, false, false, false, false, false] rfl rfl (by kernel_rfl) (fun _ _ _ h => h) (Or.inl ⟨by rfl, ?_⟩) ?_ ?_
      rotate_left
      ·intro w'
       go_simp
       with_reducible rfl
      rotate_left
      ·simp only [Act.put, List.setIfInBounds_toArray, List.set_cons_zero, List.set_cons_succ, i64_w, i32_w]
       rfl
      refine take_ (i := 22) (N := some 34) (v := ?_) (a' := ?_) #[true, true, true, true, true, true, true, true, true, true, true, true, true, true, true, true, true, true, true, true, true, true, true, false, false, false, false, false, false, false, false, false, false] rfl rfl (by kernel_rfl) (fun _ _ _ h => h) (Or.inl ⟨by rfl, ?_⟩) hHeld ?_ ?_
      rotate_left
      ·rintro w' ⟨s0, s1, s2, s3, s4, s5, s6, s7, s8, s9⟩
       go_simp
       with_reducible rfl
      rotate_left
      ·simp only [Act.put, List.setIfInBounds_toArray, List.set_cons_zero, List.set_cons_succ, i64_w, i32_w]
       rfl
      refine pure_ (i := 23) (N := some 35) (v := ?_) (a' := ?_) #[true, true, true, true, true, true, true, true, true, true, true, true, true, true, true, true, true, true, true, true, true, true, true, true, false, false, false, false, false, false, false, false, false] rfl rfl (by kernel_rfl) (fun _ _ _ h => h) (Or.inl ⟨by rfl, ?_⟩) ?_ ?_
      rotate_left
      ·intro w'
       go_simp
       with_reducible rfl
      rotate_left
      ·simp only [Act.put, List.setIfInBounds_toArray, List.set_cons_zero, List.set_cons_succ, i64_w, i32_w]
       rfl
      refine take_ (i := 24) (N := some 36) (v := ?_) (a' := ?_) #[true, true, true, true, true, true, true, true, true, true, true, true, true, true, true, true, true, true, true, true, true, true, true, true, true, false, false, false, false, false, false, false, false] rfl rfl (by kernel_rfl) (fun _ _ _ h => h) (Or.inl ⟨by rfl, ?_⟩) hHeld ?_ ?_
      rotate_left
      ·rintro w' ⟨s0, s1, s2, s3, s4, s5, s6, s7, s8, s9⟩
       go_simp
       with_reducible rfl
      rotate_left
      ·simp only [Act.put, List.setIfInBounds_toArray, List.set_cons_zero, List.set_cons_succ, i64_w, i32_w]
       rfl
      refine pure_ (i := 25) (N := some 37) (v := ?_) (a' := ?_) #[true, true, true, true, true, true, true, true, true, true, true, true, true, true, true, true, true, true, true, true, true, true, true, true, true, true, false, false, false, false, false, false, false] rfl rfl (by kernel_rfl) (fun _ _ _ h => h) (Or.inl ⟨by rfl, ?_⟩) ?_ ?_
      rotate_left
      ·intro w'
       go_simp
       with_reducible rfl
      rotate_left
      ·simp only [Act.put, List.setIfInBounds_toArray, List.set_cons_zero, List.set_cons_succ, i64_w, i32_w]
       rfl
      refine take_ (i := 26) (N := some 38) (v := ?_) (a' := ?_) #[true, true, true, true, true, true, true, true, true, true, true, true, true, true, true, true, true, true, true, true, true, true, true, true, true, true, true, false, false, false, false, false, false] rfl rfl (by kernel_rfl) (fun _ _ _ h => h) (Or.inl ⟨by rfl, ?_⟩) hHeld ?_ ?_
      rotate_left
      ·rintro w' ⟨s0, s1, s2, s3, s4, s5, s6, s7, s8, s9⟩
       go_simp
       with_reducible rfl
      rotate_left
      ·simp only [Act.put, List.setIfInBounds_toArray, List.set_cons_zero, List.set_cons_succ, i64_w, i32_w]
       rfl
      refine pure_ (i := 27) (N := some 39) (v := ?_) (a' := ?_) #[true, true, true, true, true, true, true, true, true, true, true, true, true, true, true, true, true, true, true, true, true, true, true, true, true, true, true, true, false, false, false, false, false] rfl rfl (by kernel_rfl) (fun _ _ _ h => h) (Or.inl ⟨by rfl, ?_⟩) ?_ ?_
      rotate_left
      ·intro w'
       go_simp
       with_reducible rfl
      rotate_left
      ·simp only [Act.put, List.setIfInBounds_toArray, List.set_cons_zero, List.set_cons_succ, i64_w, i32_w]
       rfl
      refine take_ (i := 28) (N := some 40) (v := ?_) (a' := ?_) #[true, true, true, true, true, true, true, true, true, true, true, true, true, true, true, true, true, true, true, true, true, true, true, true, true, true, true, true, true, false, false, false, false] rfl rfl (by kernel_rfl) (fun _ _ _ h => h) (Or.inl ⟨by rfl, ?_⟩) hHeld ?_ ?_
      rotate_left
      ·rintro w' ⟨s0, s1, s2, s3, s4, s5, s6, s7, s8, s9⟩
       go_simp
       with_reducible rfl
      rotate_left
      ·simp only [Act.put, List.setIfInBounds_toArray, List.set_cons_zero, List.set_cons_succ, i64_w, i32_w]
       rfl
      refine pure_ (i := 29) (N := some 41) (v := ?_) (a' := ?_) #[true, true, true, true, true, true, true, true, true, true, true, true, true, true, true, true, true, true, true, true, true, true, true, true, true, true, true, true, true, true, false, false, false] rfl rfl (by kernel_rfl) (fun _ _ _ h => h) (Or.inl ⟨by rfl, ?_⟩) ?_ ?_
      rotate_left
      ·intro w'
       go_simp
       with_reducible rfl
      rotate_left
      ·simp only [Act.put, List.setIfInBounds_toArray, List.set_cons_zero, List.set_cons_succ, i64_w, i32_w]
       rfl
      refine one_ (i := 30) (N := some 42) #[true, true, true, true, true, true, true, true, true, true, true, true, true, true, true, true, true, true, true, true, true, true, true, true, true, true, true, true, true, true, true, false, false] rfl rfl (by kernel_rfl) (by decide) (fun K hK => ?_)
      refine goes_ Tryd.func45 (by kernel_rfl) rfl #[.agg #[.string x.f0, .string x.f1, .int .u8 x.f3, .int .i64 x.f4.f0, .int .i64 x.f4.f1, .int .i64 x.f4.f2, .int .i64 x.f4.f3, .slice A7 x.f5.length c7]] (by rfl) rfl rfl (by first | rfl | (simp [Act.eval]; done)) ?_
      refine (member_Good.calls kg x.f0 x.f1 x.f3 x.f4.f0 x.f4.f1 x.f4.f2 x.f4.f3 A7 c7 x.f5 gd wq ⟨by rw [← hwq]; exact Tabs.below HTA.out (below_drew (below_alloc (Below.refl _ _) _))⟩ (by rw [← hwq]; exact Kd.C_drew (HCA.out _)) hl7' HKG.out).mono ?_
      rintro e w5 ⟨rfl, hb5⟩
      refine ⟨_, rfl, ?_⟩
      refine hK.out _ _ ⟨bkeep hb5 hHeld.1, bkeep hb5 hHeld.2.1, bkeep hb5 hHeld.2.2.1, bkeep hb5 hHeld.2.2.2.1, bkeep hb5 hHeld.2.2.2.2.1, bkeep hb5 hHeld.2.2.2.2.2.1, bkeep hb5 hHeld.2.2.2.2.2.2.1, bkeep hb5 hHeld.2.2.2.2.2.2.2.1, bkeep hb5 hHeld.2.2.2.2.2.2.2.2.1, bkeep hb5 hHeld.2.2.2.2.2.2.2.2.2⟩ (fun hHeld => ?_)
      clear hK K
      refine norm_ (a' := ?_) ?_ ?_
      rotate_left
      ·show Act.put _ (some 42) _ = _
       simp only [Act.put, List.setIfInBounds_toArray, List.set_cons_zero, List.set_cons_succ, i64_w, i32_w]
       rfl
      refine pure_ (i := 31) (N := some 43) (v := ?_) (a' := ?_) #[true, true, true, true, true, true, true, true, true, true, true, true, true, true, true, true, true, true, true, true, true, true, true, true, true, true, true, true, true, true, true, true, false] rfl rfl (by kernel_rfl) (fun _ _ _ h => h) (Or.inl ⟨by rfl, ?_⟩) ?_ ?_
      rotate_left
      ·intro w'
       go_simp
       with_reducible rfl
      rotate_left
      ·simp only [Act.put, List.setIfInBounds_toArray, List.set_cons_zero, List.set_cons_succ, i64_w, i32_w]
       rfl
      refine pure_ (i := 32) (N := some 44) (v := ?_) (a' := ?_) #[true, true, true, true, true, true, true, true, true, true, true, true, true, true, true, true, true, true, true, true, true, true, true, true, true, true, true, true, true, true, true, true, true] rfl rfl (by kernel_rfl) (fun _ _ _ h => h) (Or.inl ⟨by rfl, ?_⟩) ?_ ?_
      rotate_left
      ·intro w'
       go_simp
       with_reducible rfl
      rotate_left
      ·simp only [Act.put, List.setIfInBounds_toArray, List.set_cons_zero, List.set_cons_succ, i64_w, i32_w]
       rfl
      refine done_ (by kernel_rfl) ?_
      go_wp2_with (fail)
      go_meet
      exact ⟨!gd, rfl, ⟨by unfold headOk'; rw [← HX.out, HGD.out, decide_eq_false H49.out, decide_eq_true (show n.toNat = 0 by have := HN0.out; omega)]; simp, (show Below wr.heap.size wr wq from by rw [← hwq]; exact below_drew (below_alloc (Below.refl _ _) _)).trans (hb5.mono (by rw [← hwq]; show wr.heap.size ≤ (wr.alloc (.cells #[.string x.f0, .string x.f1, .string x.f2, .int .u8 x.f3, .int .i64 x.f4.f0, .int .i64 x.f4.f1, .int .i64 x.f4.f2, .int .i64 x.f4.f3, .slice A7 x.f5.length c7] 38)).heap.size; rw [World.size_alloc]; omega))⟩⟩
     ·have g1 : decide (0 < n) = true := decide_eq_true (by omega)
      have g2 : decide (n > 0) = true := decide_eq_true (by omega)
      obtain ⟨j, hj⟩ : ∃ j, j = n - 1 := ⟨_, rfl⟩
      have hn1 : 0 ≤ j := by omega
      have hn2 : j < (l.length : Int) := by omega
      obtain ⟨ad', _, _, hA, hp0, _⟩ := at_T38 (Kd.C_below HC.out HB.out) j hn1 hn2
      cases hA
      have hy := rdN_at l j hn1 hn2
      generalize hy0 : (rd_T38 l j).f0 = y0 at hp0
      rw [hy] at hy0
      have HN0 := Aside0.mk hn0
      have HY := Aside0.mk hy0
      have hw64 : wrap64 (n - 1) = j := by unfold wrap64; omega
      have HJ := Aside0.mk hj
      clear hn0 hy hy0 hj
      cases hls : Op.bytesLess y0.toList x.f0.toList with
      | false =>
       refine start_ (n := 33) (S := fun w' => w'.cell? ⟨wr.heap.size, 0, none⟩ = some (.string x.f0) ∧ w'.cell? ⟨wr.heap.size, 1, none⟩ = some (.string x.f1) ∧ w'.cell? ⟨wr.heap.size, 2, none⟩ = some (.string x.f2) ∧ w'.cell? ⟨wr.heap.size, 3, none⟩ = some (.int .u8 x.f3) ∧ w'.cell? ⟨wr.heap.size, 4, none⟩ = some (.int .i64 x.f4.f0) ∧ w'.cell? ⟨wr.heap.size, 5, none⟩ = some (.int .i64 x.f4.f1) ∧ w'.cell? ⟨wr.heap.size, 6, none⟩ = some (.int .i64 x.f4.f2) ∧ w'.cell? ⟨wr.heap.size, 7, none⟩ = some (.int .i64 x.f4.f3) ∧ w'.cell? ⟨wr.heap.size, 8, none⟩ = some (.slice A7 x.f5.length c7) ∧ w'.cell? ⟨W.heap.size, 0, none⟩ = some (.slice (some ad) l.length c0) ∧ w'.cell? (ad.add (j.toNat * 9)) = some (.string y0)) (ds := []) #[false, false, false, false, false, false, false, false, false, false, false, false, false, false, false, false, false, false, false, false, false, false, false, false, false, false, false, false, false, false, false, false, false] (by kernel_rfl) rfl rfl ⟨by simp, by simp, by simp, by simp, by simp, by simp, by simp, by simp, by simp, acell hbox _, acell hp0 _⟩ (fun hHeld => ?_)
       generalize hwq : (wr.alloc (.cells #[.string x.f0, .string x.f1, .string x.f2, .int .u8 x.f3, .int .i64 x.f4.f0, .int .i64 x.f4.f1, .int .i64 x.f4.f2, .int .i64 x.f4.f3, .slice A7 x.f5.length c7] 38)).drew = wq at hHeld ⊢
       refine pure_ (i := 0) (N := some 12) (v := ?_) (a' := ?_) #[true, false, false, false, false, false, false, false, false, false, false, false, false, false, false, false, false, false, false, false, false, false, false, false, false, false, false, false, false, false, false, false, false] rfl rfl (by kernel_rfl) (fun _ _ _ h => h) (Or.inl ⟨by rfl, ?_⟩) ?_ ?_
       rotate_left
       ·intro w'
        go_simp
        with_reducible rfl
       rotate_left
       ·simp only [Act.put, List.setIfInBounds_toArray, List.set_cons_zero, List.set_cons_succ, i64_w, i32_w]
        rfl
       refine take_ (i := 1) (N := some 13) (v := ?_) (a' := ?_) #[true, true, false, false, false, false, false, false, false, false, false, false, false, false, false, false, false, false, false, false, false, false, false, false, false, false, false, false, false, false, false, false, false] rfl rfl (by kernel_rfl) (fun _ _ _ h => h) (Or.inl ⟨by rfl, ?_⟩) hHeld ?_ ?_
       rotate_left
       ·rintro w' ⟨s0, s1, s2, s3, s4, s5, s6, s7, s8, s9, s10⟩
        go_simp
        with_reducible rfl
       rotate_left
       ·simp only [Act.put, List.setIfInBounds_toArray, List.set_cons_zero, List.set_cons_succ, i64_w, i32_w]
        rfl
       refine pure_ (i := 2) (N := some 14) (v := ?_) (a' := ?_) #[true, true, true, false, false, false, false, false, false, false, false, false, false, false, false, false, false, false, false, false, false, false, false, false, false, false, false, false, false, false, false, false, false] rfl rfl (by kernel_rfl) (fun _ _ _ h => h) (Or.inl ⟨by rfl, ?_⟩) ?_ ?_
       rotate_left
       ·intro w'
        go_simp
        with_reducible rfl
       rotate_left
       ·simp only [Act.put, List.setIfInBounds_toArray, List.set_cons_zero, List.set_cons_succ, i64_w, i32_w]
        rfl
       refine pure_ (i := 3) (N := some 15) (v := ?_) (a' := ?_) #[true, true, true, true, false, false, false, false, false, false, false, false, false, false, false, false, false, false, false, false, false, false, false, false, false, false, false, false, false, false, false, false, false] rfl rfl (by kernel_rfl) (fun _ _ _ h => h) (Or.inl ⟨by rfl, ?_⟩) ?_ ?_
       rotate_left
       ·intro w'
        go_simp
        with_reducible rfl
       rotate_left
       ·simp only [Act.put, List.setIfInBounds_toArray, List.set_cons_zero, List.set_cons_succ, i64_w, i32_w]
        rfl
       refine pure_ (i := 4) (N := some 16) (v := ?_) (a' := ?_) #[true, true, true, true, true, false, false, false, false, false, false, false, false, false, false, false, false, false, false, false, false, false, false, false, false, false, false, false, false, false, false, false, false] rfl rfl (by kernel_rfl) (fun _ _ _ h => h) (Or.inl ⟨by rfl, ?_⟩) ?_ ?_
       rotate_left
       ·intro w'
        go_simp
        with_reducible rfl
       rotate_left
       ·simp only [Act.put, List.setIfInBounds_toArray, List.set_cons_zero, List.set_cons_succ, i64_w, i32_w]
        rfl
       refine pure_ (i := 5) (N := some 17) (v := ?_) (a' := ?_) #[true, true, true, true, true, true, false, false, false, false, false, false, false, false, false, false, false, false, false, false, false, false, false, false, false, false, false, false, false, false, false, false, false] rfl rfl (by kernel_rfl) (fun _ _ _ h => h) (Or.inl ⟨by rfl, ?_⟩) ?_ ?_
       rotate_left
       ·intro w'
        go_simp
        with_reducible rfl
       rotate_left
       ·simp only [Act.put, List.setIfInBounds_toArray, List.set_cons_zero, List.set_cons_succ, i64_w, i32_w]
        rfl
       refine pure_ (i := 6) (N := some 18) (v := ?_) (a' := ?_) #[true, true, true, true, true, true, true, false, false, false, false, false, false, false, false, false, false, false, false, false, false, false, false, false, false, false, false, false, false, false, false, false, false] rfl rfl (by kernel_rfl) (fun _ _ _ h => h) (Or.inl ⟨by rfl, ?_⟩) ?_ ?_
       rotate_left
       ·intro w'
        go_simp
        with_reducible rfl
       rotate_left
       ·simp only [Act.put, List.setIfInBounds_toArray, List.set_cons_zero, List.set_cons_succ, i64_w, i32_w]
        rfl
       refine take_ (i := 7) (N := some 19) (v := ?_) (a' := ?_) #[true, true, true, true, true, true, true, true, false, false, false, false, false, false, false, false, false, false, false, false, false, false, false, false, false, false, false, false, false, false, false, false, false] rfl rfl (by kernel_rfl) (fun _ _ _ h => h) (Or.inl ⟨by rfl, ?_⟩) hHeld ?_ ?_
       rotate_left
       ·rintro w' ⟨s0, s1, s2, s3, s4, s5, s6, s7, s8, s9, s10⟩
        go_simp
        with_reducible rfl
       rotate_left
       ·simp only [Act.put, List.setIfInBounds_toArray, List.set_cons_zero, List.set_cons_succ, i64_w, i32_w]
        rfl
       refine pure_ (i := 8) (N := some 20) (v := ?_) (a' := ?_) #[true, true, true, true, true, true, true, true, true, false, false, false, false, false, false, false, false, false, false, false, false, false, false, false, false, false, false, false, false, false, false, false, false] rfl rfl (by kernel_rfl) (fun _ _ _ h => h) (Or.inl ⟨by rfl, ?_⟩) ?_ ?_
       rotate_left
       ·intro w'
        go_simp
        with_reducible rfl
       rotate_left
       ·simp only [Act.put, List.setIfInBounds_toArray, List.set_cons_zero, List.set_cons_succ, i64_w, i32_w]
        rfl
       refine pure_ (i := 9) (N := some 21) (v := ?_) (a' := ?_) #[true, true, true, true, true, true, true, true, true, true, false, false, false, false, false, false, false, false, false, false, false, false, false, false, false, false, false, false, false, false, false, false, false] rfl rfl (by kernel_rfl) (fun _ _ _ h => h) (Or.inl ⟨by rfl, ?_⟩) ?_ ?_
       rotate_left
       ·intro w'
        go_simp
        with_reducible rfl
       rotate_left
       ·simp only [Act.put, List.setIfInBounds_toArray, List.set_cons_zero, List.set_cons_succ, i64_w, i32_w]
        rfl
       refine pure_ (i := 10) (N := some 22) (v := ?_) (a' := ?_) #[true, true, true, true, true, true, true, true, true, true, true, false, false, false, false, false, false, false, false, false, false, false, false, false, false, false, false, false, false, false, false, false, false] rfl rfl (by kernel_rfl) (fun _ _ _ h => h) (Or.inl ⟨by rfl, ?_⟩) ?_ ?_
       rotate_left
       ·intro w'
        go_simp
        with_reducible rfl
       rotate_left
       ·simp only [Act.put, List.setIfInBounds_toArray, List.set_cons_zero, List.set_cons_succ, i64_w, i32_w]
        rfl
       refine pure_ (i := 11) (N := some 23) (v := ?_) (a' := ?_) #[true, true, true, true, true, true, true, true, true, true, true, true, false, false, false, false, false, false, false, false, false, false, false, false, false, false, false, false, false, false, false, false, false] rfl rfl (by kernel_rfl) (fun _ _ _ h => h) (Or.inl ⟨by rfl, ?_⟩) ?_ ?_
       rotate_left
       ·intro w'
        go_simp
        with_reducible rfl
       rotate_left
       ·simp only [Act.put, List.setIfInBounds_toArray, List.set_cons_zero, List.set_cons_succ, i64_w, i32_w]
        rfl
       refine take_ (i := 12) (N := some 24) (v := ?_) (a' := ?_) #[true, true, true, true, true, true, true, true, true, true, true, true, true, false, false, false, false, false, false, false, false, false, false, false, false, false, false, false, false, false, false, false, false] rfl rfl (by kernel_rfl) (fun _ _ _ h => h) (Or.inl ⟨by rfl, ?_⟩) hHeld ?_ ?_
       rotate_left
       ·rintro w' ⟨s0, s1, s2, s3, s4, s5, s6, s7, s8, s9, s10⟩
        go_simp
        with_reducible rfl
       rotate_left
       ·simp only [Act.put, List.setIfInBounds_toArray, List.set_cons_zero, List.set_cons_succ, i64_w, i32_w]
        rfl
       refine pure_ (i := 13) (N := some 25) (v := ?_) (a' := ?_) #[true, true, true, true, true, true, true, true, true, true, true, true, true, true, false, false, false, false, false, false, false, false, false, false, false, false, false, false, false, false, false, false, false] rfl rfl (by kernel_rfl) (fun _ _ _ h => h) (Or.inl ⟨by rfl, ?_⟩) ?_ ?_
       rotate_left
       ·intro w'
        go_simp
        with_reducible rfl
       rotate_left
       ·simp only [Act.put, List.setIfInBounds_toArray, List.set_cons_zero, List.set_cons_succ, i64_w, i32_w]
        rfl
       refine take_ (i := 14) (N := some 26) (v := ?_) (a' := ?_) #[true, true, true, true, true, true, true, true, true, true, true, true, true, true, true, false, false, false, false, false, false, false, false, false, false, false, false, false, false, false, false, false, false] rfl rfl (by kernel_rfl) (fun _ _ _ h => h) (Or.inl ⟨by rfl, ?_⟩) hHeld ?_ ?_
       rotate_left
       ·rintro w' ⟨s0, s1, s2, s3, s4, s5, s6, s7, s8, s9, s10⟩
        go_simp
        with_reducible rfl
       rotate_left
       ·simp only [Act.put, List.setIfInBounds_toArray, List.set_cons_zero, List.set_cons_succ, i64_w, i32_w]
        rfl
       refine pure_ (i := 15) (N := some 27) (v := ?_) (a' := ?_) #[true, true, true, true, true, true, true, true, true, true, true, true, true, true, true, true, false, false, false, false, false, false, false, false, false, false, false, false, false, false, false, false, false] rfl rfl (by kernel_rfl) (fun _ _ _ h => h) (Or.inl ⟨by rfl, ?_⟩) ?_ ?_
       rotate_left
       ·intro w'
        go_simp
        with_reducible rfl
       rotate_left
       ·simp only [Act.put, List.setIfInBounds_toArray, List.set_cons_zero, List.set_cons_succ, i64_w, i32_w]
        rfl
       refine pure_ (i := 16) (N := some 28) (v := ?_) (a' := ?_) #[true, true, true, true, true, true, true, true, true, true, true, true, true, true, true, true, true, false, false, false, false, false, false, false, false, false, false, false, false, false, false, false, false] rfl rfl (by kernel_rfl) (fun _ _ _ h => h) (Or.inl ⟨by rfl, ?_⟩) ?_ ?_
       rotate_left
       ·intro w'
        go_simp
        with_reducible rfl
       rotate_left
       ·simp only [Act.put, List.setIfInBounds_toArray, List.set_cons_zero, List.set_cons_succ, i64_w, i32_w]
        rfl
       refine pure_ (i := 17) (N := some 29) (v := ?_) (a' := ?_) #[true, true, true, true, true, true, true, true, true, true, true, true, true, true, true, true, true, true, false, false, false, false, false, false, false, false, false, false, false, false, false, false, false] rfl rfl (by kernel_rfl) (fun _ _ _ h => h) (Or.inl ⟨by rfl, ?_⟩) ?_ ?_
       rotate_left
       ·intro w'
        go_simp
        with_reducible rfl
       rotate_left
       ·simp only [Act.put, List.setIfInBounds_toArray, List.set_cons_zero, List.set_cons_succ, i64_w, i32_w]
        rfl
       refine pure_ (i := 18) (N := some 30) (v := ?_) (a' := ?_) #[true, true, true, true, true, true, true, true, true, true, true, true, true, true, true, true, true, true, true, false, false, false, false, false, false, false, false, false, false, false, false, false, false] rfl rfl (by kernel_rfl) (fun _ _ _ h => h) (Or.inl ⟨by rfl, ?_⟩) ?_ ?_
       rotate_left
       ·intro w'
        go_simp
        with_reducible rfl
       rotate_left
       ·simp only [Act.put, List.setIfInBounds_toArray, List.set_cons_zero, List.set_cons_succ, i64_w, i32_w]
        rfl
       refine pure_ (i := 19) (N := some 31) (v := undef) (a' := ?_) #[true, true, true, true, true, true, true, true, true, true, true, true, true, true, true, true, true, true, true, true, false, false, false, false, false, false, false, false, false, false, false, false, false] rfl rfl (by kernel_rfl) (fun _ _ _ h => h) (Or.inr ⟨by rfl, rfl⟩) ?_ ?_
       rotate_left
       ·simp only [Act.put, List.setIfInBounds_toArray, List.set_cons_zero, List.set_cons_succ, i64_w, i32_w]
        rfl
       refine pure_ (i := 20) (N := some 32) (v := undef) (a' := ?_) #[true, true, true, true, true, true, true, true, true, true, true, true, true, true, true, true, true, true, true, true, true, false, false, false, false, false, false, false, false, false, false, false, false] rfl rfl (by kernel_rfl) (fun _ _ _ h => h) (Or.inr ⟨by rfl, rfl⟩) ?_ ?_
       rotate_left
       ·simp only [Act.put, List.setIfInBounds_toArray, List.set_cons_zero, List.set_cons_succ, i64_w, i32_w]
        rfl
       refine pure_ (i := 21) (N := some 33) (v := undef) (a' := ?_) #[true, true, true, true, true, true, true, true, true, true, true, true, true, true, true, true, true, true, true, true, true, true, false, false, false, false, false, false, false, false, false, false, false] rfl rfl (by kernel_rfl) (fun _ _ _ h => h) (Or.inr ⟨by rfl, rfl⟩) ?_ ?_
       rotate_left
       ·simp only [Act.put, List.setIfInBounds_toArray, List.set_cons_zero, List.set_cons_succ, i64_w, i32_w]
        rfl
       refine pure_ (i := 22) (N := some 34) (v := undef) (a' := ?_) #[true, true, true, true, true, true, true, true, true, true, true, true, true, true, true, true, true, true, true, true, true, true, true, false, false, false, false, false, false, false, false, false, false] rfl rfl (by kernel_rfl) (fun _ _ _ h => h) (Or.inr ⟨by rfl, rfl⟩) ?_ ?_
       rotate_left
       ·simp only [Act.put, List.setIfInBounds_toArray, List.set_cons_zero, List.set_cons_succ, i64_w, i32_w]
        rfl
       refine pure_ (i := 23) (N := some 35) (v := undef) (a' := ?_) #[true, true, true, true, true, true, true, true, true, true, true, true, true, true, true, true, true, true, true, true, true, true, true, true, false, false, false, false, false, false, false, false, false] rfl rfl (by kernel_rfl) (fun _ _ _ h => h) (Or.inr ⟨by rfl, rfl⟩) ?_ ?_
       rotate_left
       ·simp only [Act.put, List.setIfInBounds_toArray, List.set_cons_zero, List.set_cons_succ, i64_w, i32_w]
        rfl
       refine pure_ (i := 24) (N := some 36) (v := undef) (a' := ?_) #[true, true, true, true, true, true, true, true, true, true, true, true, true, true, true, true, true, true, true, true, true, true, true, true, true, false, false, false, false, false, false, false, false] rfl rfl (by kernel_rfl) (fun _ _ _ h => h) (Or.inr ⟨by rfl, rfl⟩) ?_ ?_
       rotate_left
       ·simp only [Act.put, List.setIfInBounds_toArray, List.set_cons_zero, List.set_cons_succ, i64_w, i32_w]
        rfl
       refine pure_ (i := 25) (N := some 37) (v := undef) (a' := ?_) #[true, true, true, true, true, true, true, true, true, true, true, true, true, true, true, true, true, true, true, true, true, true, true, true, true, true, false, false, false, false, false, false, false] rfl rfl (by kernel_rfl) (fun _ _ _ h => h) (Or.inr ⟨by rfl, rfl⟩) ?_ ?_
       rotate_left
       ·simp only [Act.put, List.setIfInBounds_toArray, List.set_cons_zero, List.set_cons_succ, i64_w, i32_w]
        rfl
       refine pure_ (i := 26) (N := some 38) (v := undef) (a' := ?_) #[true, true, true, true, true, true, true, true, true, true, true, true, true, true, true, true, true, true, true, true, true, true, true, true, true, true, true, false, false, false, false, false, false] rfl rfl (by kernel_rfl) (fun _ _ _ h => h) (Or.inr ⟨by rfl, rfl⟩) ?_ ?_
       rotate_left
       ·simp only [Act.put, List.setIfInBounds_toArray, List.set_cons_zero, List.set_cons_succ, i64_w, i32_w]
        rfl
       refine pure_ (i := 27) (N := some 39) (v := undef) (a' := ?_) #[true, true, true, true, true, true, true, true, true, true, true, true, true, true, true, true, true, true, true, true, true, true, true, true, true, true, true, true, false, false, false, false, false] rfl rfl (by kernel_rfl) (fun _ _ _ h => h) (Or.inr ⟨by rfl, rfl⟩) ?_ ?_
       rotate_left
       ·simp only [Act.put, List.setIfInBounds_toArray, List.set_cons_zero, List.set_cons_succ, i64_w, i32_w]
        rfl
       refine pure_ (i := 28) (N := some 40) (v := undef) (a' := ?_) #[true, true, true, true, true, true, true, true, true, true, true, true, true, true, true, true, true, true, true, true, true, true, true, true, true, true, true, true, true, false, false, false, false] rfl rfl (by kernel_rfl) (fun _ _ _ h => h) (Or.inr ⟨by rfl, rfl⟩) ?_ ?_
       rotate_left
       ·simp only [Act.put, List.setIfInBounds_toArray, List.set_cons_zero, List.set_cons_succ, i64_w, i32_w]
        rfl
       refine pure_ (i := 29) (N := some 41) (v := undef) (a' := ?_) #[true, true, true, true, true, true, true, true, true, true, true, true, true, true, true, true, true, true, true, true, true, true, true, true, true, true, true, true, true, true, false, false, false] rfl rfl (by kernel_rfl) (fun _ _ _ h => h) (Or.inr ⟨by rfl, rfl⟩) ?_ ?_
       rotate_left
       ·simp only [Act.put, List.setIfInBounds_toArray, List.set_cons_zero, List.set_cons_succ, i64_w, i32_w]
        rfl
       refine pure_ (i := 30) (N := some 42) (v := undef) (a' := ?_) #[true, true, true, true, true, true, true, true, true, true, true, true, true, true, true, true, true, true, true, true, true, true, true, true, true, true, true, true, true, true, true, false, false] rfl rfl (by kernel_rfl) (fun _ _ _ h => h) (Or.inr ⟨by rfl, rfl⟩) ?_ ?_
       rotate_left
       ·simp only [Act.put, List.setIfInBounds_toArray, List.set_cons_zero, List.set_cons_succ, i64_w, i32_w]
        rfl
       refine pure_ (i := 31) (N := some 43) (v := undef) (a' := ?_) #[true, true, true, true, true, true, true, true, true, true, true, true, true, true, true, true, true, true, true, true, true, true, true, true, true, true, true, true, true, true, true, true, false] rfl rfl (by kernel_rfl) (fun _ _ _ h => h) (Or.inr ⟨by rfl, rfl⟩) ?_ ?_
       rotate_left
       ·simp only [Act.put, List.setIfInBounds_toArray, List.set_cons_zero, List.set_cons_succ, i64_w, i32_w]
        rfl
       refine pure_ (i := 32) (N := some 44) (v := ?_) (a' := ?_) #[true, true, true, true, true, true, true, true, true, true, true, true, true, true, true, true, true, true, true, true, true, true, true, true, true, true, true, true, true, true, true, true, true] rfl rfl (by kernel_rfl) (fun _ _ _ h => h) (Or.inl ⟨by rfl, ?_⟩) ?_ ?_
       rotate_left
       ·intro w'
        go_simp
        with_reducible rfl
       rotate_left
       ·simp only [Act.put, List.setIfInBounds_toArray, List.set_cons_zero, List.set_cons_succ, i64_w, i32_w]
        rfl
       refine done_ (by kernel_rfl) ?_
       clear hw64
       go_wp2_with (fail)
       go_meet
       exact ⟨true, rfl, ⟨by unfold headOk'; rw [← HX.out, decide_eq_false (show ¬ n.toNat = 0 by have := HN0.out; omega), show lt (l[n.toNat - 1]'(by have := HNL.out; omega)).f0 x.f0 = false from (prev_lt' HY.out HJ.out hls)]; simp, by rw [← hwq]; exact below_drew (below_alloc (Below.refl _ _) _)⟩⟩
      | true =>
       refine start_ (n := 33) (S := fun w' => w'.cell? ⟨wr.heap.size, 0, none⟩ = some (.string x.f0) ∧ w'.cell? ⟨wr.heap.size, 1, none⟩ = some (.string x.f1) ∧ w'.cell? ⟨wr.heap.size, 2, none⟩ = some (.string x.f2) ∧ w'.cell? ⟨wr.heap.size, 3, none⟩ = some (.int .u8 x.f3) ∧ w'.cell? ⟨wr.heap.size, 4, none⟩ = some (.int .i64 x.f4.f0) ∧ w'.cell? ⟨wr.heap.size, 5, none⟩ = some (.int .i64 x.f4.f1) ∧ w'.cell? ⟨wr.heap.size, 6, none⟩ = some (.int .i64 x.f4.f2) ∧ w'.cell? ⟨wr.heap.size, 7, none⟩ = some (.int .i64 x.f4.f3) ∧ w'.cell? ⟨wr.heap.size, 8, none⟩ = some (.slice A7 x.f5.length c7) ∧ w'.cell? ⟨W.heap.size, 0, none⟩ = some (.slice (some ad) l.length c0) ∧ w'.cell? (ad.add (j.toNat * 9)) = some (.string y0)) (ds := []) #[false, false, false, false, false, false, false, false, false, false, false, false, false, false, false, false, false, false, false, false, false, false, false, false, false, false, false, false, false, false, false, false, false] (by kernel_rfl) rfl rfl ⟨by simp, by simp, by simp, by simp, by simp, by simp, by simp, by simp, by simp, acell hbox _, acell hp0 _⟩ (fun hHeld => ?_)
       generalize hwq : (wr.alloc (.cells #[.string x.f0, .string x.f1, .string x.f2, .int .u8 x.f3, .int .i64 x.f4.f0, .int .i64 x.f4.f1, .int .i64 x.f4.f2, .int .i64 x.f4.f3, .slice A7 x.f5.length c7] 38)).drew = wq at hHeld ⊢
       refine pure_ (i := 0) (N := some 12) (v := ?_) (a' := ?_) #[true, false, false, false, false, false, false, false, false, false, false, false, false, false, false, false, false, false, false, false, false, false, false, false, false, false, false, false, false, false, false, false, false] rfl rfl (by kernel_rfl) (fun _ _ _ h => h) (Or.inl ⟨by rfl, ?_⟩) ?_ ?_
       rotate_left
       ·intro w'
        go_simp
        with_reducible rfl
       rotate_left
       ·simp only [Act.put, List.setIfInBounds_toArray, List.set_cons_zero, List.set_cons_succ, i64_w, i32_w]
        rfl
       refine take_ (i := 1) (N := some 13) (v := ?_) (a' := ?_) #[true, true, false, false, false, false, false, false, false, false, false, false, false, false, false, false, false, false, false, false, false, false, false, false, false, false, false, false, false, false, false, false, false] rfl rfl (by kernel_rfl) (fun _ _ _ h => h) (Or.inl ⟨by rfl, ?_⟩) hHeld ?_ ?_
       rotate_left
       ·rintro w' ⟨s0, s1, s2, s3, s4, s5, s6, s7, s8, s9, s10⟩
        go_simp
        with_reducible rfl
       rotate_left
       ·simp only [Act.put, List.setIfInBounds_toArray, List.set_cons_zero, List.set_cons_succ, i64_w, i32_w]
        rfl
       refine pure_ (i := 2) (N := some 14) (v := ?_) (a' := ?_) #[true, true, true, false, false, false, false, false, false, false, false, false, false, false, false, false, false, false, false, false, false, false, false, false, false, false, false, false, false, false, false, false, false] rfl rfl (by kernel_rfl) (fun _ _ _ h => h) (Or.inl ⟨by rfl, ?_⟩) ?_ ?_
       rotate_left
       ·intro w'
        go_simp
        with_reducible rfl
       rotate_left
       ·simp only [Act.put, List.setIfInBounds_toArray, List.set_cons_zero, List.set_cons_succ, i64_w, i32_w]
        rfl
       refine pure_ (i := 3) (N := some 15) (v := ?_) (a' := ?_) #[true, true, true, true, false, false, false, false, false, false, false, false, false, false, false, false, false, false, false, false, false, false, false, false, false, false, false, false, false, false, false, false, false] rfl rfl (by kernel_rfl) (fun _ _ _ h => h) (Or.inl ⟨by rfl, ?_⟩) ?_ ?_
       rotate_left
       ·intro w'
        go_simp
        with_reducible rfl
       rotate_left
       ·simp only [Act.put, List.setIfInBounds_toArray, List.set_cons_zero, List.set_cons_succ, i64_w, i32_w]
        rfl
       refine pure_ (i := 4) (N := some 16) (v := ?_) (a' := ?_) #[true, true, true, true, true, false, false, false, false, false, false, false, false, false, false, false, false, false, false, false, false, false, false, false, false, false, false, false, false, false, false, false, false] rfl rfl (by kernel_rfl) (fun _ _ _ h => h) (Or.inl ⟨by rfl, ?_⟩) ?_ ?_
       rotate_left
       ·intro w'
        go_simp
        with_reducible rfl
       rotate_left
       ·simp only [Act.put, List.setIfInBounds_toArray, List.set_cons_zero, List.set_cons_succ, i64_w, i32_w]
        rfl
       refine pure_ (i := 5) (N := some 17) (v := ?_) (a' := ?_) #[true, true, true, true, true, true, false, false, false, false, false, false, false, false, false, false, false, false, false, false, false, false, false, false, false, false, false, false, false, false, false, false, false] rfl rfl (by kernel_rfl) (fun _ _ _ h => h) (Or.inl ⟨by rfl, ?_⟩) ?_ ?_
       rotate_left
       ·intro w'
        go_simp
        with_reducible rfl
       rotate_left
       ·simp only [Act.put, List.setIfInBounds_toArray, List.set_cons_zero, List.set_cons_succ, i64_w, i32_w]
        rfl
       refine pure_ (i := 6) (N := some 18) (v := ?_) (a' := ?_) #[true, true, true, true, true, true, true, false, false, false, false, false, false, false, false, false, false, false, false, false, false, false, false, false, false, false, false, false, false, false, false, false, false] rfl rfl (by kernel_rfl) (fun _ _ _ h => h) (Or.inl ⟨by rfl, ?_⟩) ?_ ?_
       rotate_left
       ·intro w'
        go_simp
        with_reducible rfl
       rotate_left
       ·simp only [Act.put, List.setIfInBounds_toArray, List.set_cons_zero, List.set_cons_succ, i64_w, i32_w]
        rfl
       refine take_ (i := 7) (N := some 19) (v := ?_) (a' := ?_) #[true, true, true, true, true, true, true, true, false, false, false, false, false, false, false, false, false, false, false, false, false, false, false, false, false, false, false, false, false, false, false, false, false] rfl rfl (by kernel_rfl) (fun _ _ _ h => h) (Or.inl ⟨by rfl, ?_⟩) hHeld ?_ ?_
       rotate_left
       ·rintro w' ⟨s0, s1, s2, s3, s4, s5, s6, s7, s8, s9, s10⟩
        go_simp
        with_reducible rfl
       rotate_left
       ·simp only [Act.put, List.setIfInBounds_toArray, List.set_cons_zero, List.set_cons_succ, i64_w, i32_w]
        rfl
       refine pure_ (i := 8) (N := some 20) (v := ?_) (a' := ?_) #[true, true, true, true, true, true, true, true, true, false, false, false, false, false, false, false, false, false, false, false, false, false, false, false, false, false, false, false, false, false, false, false, false] rfl rfl (by kernel_rfl) (fun _ _ _ h => h) (Or.inl ⟨by rfl, ?_⟩) ?_ ?_
       rotate_left
       ·intro w'
        go_simp
        with_reducible rfl
       rotate_left
       ·simp only [Act.put, List.setIfInBounds_toArray, List.set_cons_zero, List.set_cons_succ, i64_w, i32_w]
        rfl
       refine pure_ (i := 9) (N := some 21) (v := ?_) (a' := ?_) #[true, true, true, true, true, true, true, true, true, true, false, false, false, false, false, false, false, false, false, false, false, false, false, false, false, false, false, false, false, false, false, false, false] rfl rfl (by kernel_rfl) (fun _ _ _ h => h) (Or.inl ⟨by rfl, ?_⟩) ?_ ?_
       rotate_left
       ·intro w'
        go_simp
        with_reducible rfl
       rotate_left
       ·simp only [Act.put, List.setIfInBounds_toArray, List.set_cons_zero, List.set_cons_succ, i64_w, i32_w]
        rfl
       refine pure_ (i := 10) (N := some 22) (v := ?_) (a' := ?_) #[true, true, true, true, true, true, true, true, true, true, true, false, false, false, false, false, false, false, false, false, false, false, false, false, false, false, false, false, false, false, false, false, false] rfl rfl (by kernel_rfl) (fun _ _ _ h => h) (Or.inl ⟨by rfl, ?_⟩) ?_ ?_
       rotate_left
       ·intro w'
        go_simp
        with_reducible rfl
       rotate_left
       ·simp only [Act.put, List.setIfInBounds_toArray, List.set_cons_zero, List.set_cons_succ, i64_w, i32_w]
        rfl
       refine pure_ (i := 11) (N := some 23) (v := ?_) (a' := ?_) #[true, true, true, true, true, true, true, true, true, true, true, true, false, false, false, false, false, false, false, false, false, false, false, false, false, false, false, false, false, false, false, false, false] rfl rfl (by kernel_rfl) (fun _ _ _ h => h) (Or.inl ⟨by rfl, ?_⟩) ?_ ?_
       rotate_left
       ·intro w'
        go_simp
        with_reducible rfl
       rotate_left
       ·simp only [Act.put, List.setIfInBounds_toArray, List.set_cons_zero, List.set_cons_succ, i64_w, i32_w]
        rfl
       refine take_ (i := 12) (N := some 24) (v := ?_) (a' := ?_) #[true, true, true, true, true, true, true, true, true, true, true, true, true, false, false, false, false, false, false, false, false, false, false, false, false, false, false, false, false, false, false, false, false] rfl rfl (by kernel_rfl) (fun _ _ _ h => h) (Or.inl ⟨by rfl, ?_⟩) hHeld ?_ ?_
       rotate_left
       ·rintro w' ⟨s0, s1, s2, s3, s4, s5, s6, s7, s8, s9, s10⟩
        go_simp
        with_reducible rfl
       rotate_left
       ·simp only [Act.put, List.setIfInBounds_toArray, List.set_cons_zero, List.set_cons_succ, i64_w, i32_w]
        rfl
       refine pure_ (i := 13) (N := some 25) (v := ?_) (a' := ?_) #[true, true, true, true, true, true, true, true, true, true, true, true, true, true, false, false, false, false, false, false, false, false, false, false, false, false, false, false, false, false, false, false, false] rfl rfl (by kernel_rfl) (fun _ _ _ h => h) (Or.inl ⟨by rfl, ?_⟩) ?_ ?_
       rotate_left
       ·intro w'
        go_simp
        with_reducible rfl
       rotate_left
       ·simp only [Act.put, List.setIfInBounds_toArray, List.set_cons_zero, List.set_cons_succ, i64_w, i32_w]
        rfl
       refine take_ (i := 14) (N := some 26) (v := ?_) (a' := ?_) #[true, true, true, true, true, true, true, true, true, true, true, true, true, true, true, false, false, false, false, false, false, false, false, false, false, false, false, false, false, false, false, false, false] rfl rfl (by kernel_rfl) (fun _ _ _ h => h) (Or.inl ⟨by rfl, ?_⟩) hHeld ?_ ?_
       rotate_left
       ·rintro w' ⟨s0, s1, s2, s3, s4, s5, s6, s7, s8, s9, s10⟩
        go_simp
        with_reducible rfl
       rotate_left
       ·simp only [Act.put, List.setIfInBounds_toArray, List.set_cons_zero, List.set_cons_succ, i64_w, i32_w]
        rfl
       refine pure_ (i := 15) (N := some 27) (v := ?_) (a' := ?_) #[true, true, true, true, true, true, true, true, true, true, true, true, true, true, true, true, false, false, false, false, false, false, false, false, false, false, false, false, false, false, false, false, false] rfl rfl (by kernel_rfl) (fun _ _ _ h => h) (Or.inl ⟨by rfl, ?_⟩) ?_ ?_
       rotate_left
       ·intro w'
        go_simp
        with_reducible rfl
       rotate_left
       ·simp only [Act.put, List.setIfInBounds_toArray, List.set_cons_zero, List.set_cons_succ, i64_w, i32_w]
        rfl
       refine pure_ (i := 16) (N := some 28) (v := ?_) (a' := ?_) #[true, true, true, true, true, true, true, true, true, true, true, true, true, true, true, true, true, false, false, false, false, false, false, false, false, false, false, false, false, false, false, false, false] rfl rfl (by kernel_rfl) (fun _ _ _ h => h) (Or.inl ⟨by rfl, ?_⟩) ?_ ?_
       rotate_left
       ·intro w'
        go_simp
        with_reducible rfl
       rotate_left
       ·simp only [Act.put, List.setIfInBounds_toArray, List.set_cons_zero, List.set_cons_succ, i64_w, i32_w]
        rfl
       refine pure_ (i := 17) (N := some 29) (v := ?_) (a' := ?_) #[true, true, true, true, true, true, true, true, true, true, true, true, true, true, true, true, true, true, false, false, false, false, false, false, false, false, false, false, false, false, false, false, false] rfl rfl (by kernel_rfl) (fun _ _ _ h => h) (Or.inl ⟨by rfl, ?_⟩) ?_ ?_
       rotate_left
       ·intro w'
        go_simp
        with_reducible rfl
       rotate_left
       ·simp only [Act.put, List.setIfInBounds_toArray, List.set_cons_zero, List.set_cons_succ, i64_w, i32_w]
        rfl
       refine pure_ (i := 18) (N := some 30) (v := ?_) (a' := ?_) #[true, true, true, true, true, true, true, true, true, true, true, true, true, true, true, true, true, true, true, false, false, false, false, false, false, false, false, false, false, false, false, false, false] rfl rfl (by kernel_rfl) (fun _ _ _ h => h) (Or.inl ⟨by rfl, ?_⟩) ?_ ?_
       rotate_left
       ·intro w'
        go_simp
        with_reducible rfl
       rotate_left
       ·simp only [Act.put, List.setIfInBounds_toArray, List.set_cons_zero, List.set_cons_succ, i64_w, i32_w]
        rfl
       refine pure_ (i := 19) (N := some 31) (v := ?_) (a' := ?_) #[true, true, true, true, true, true, true, true, true, true, true, true, true, true, true, true, true, true, true, true, false, false, false, false, false, false, false, false, false, false, false, false, false] rfl rfl (by kernel_rfl) (fun _ _ _ h => h) (Or.inl ⟨by rfl, ?_⟩) ?_ ?_
       rotate_left
       ·intro w'
        go_simp
        with_reducible rfl
       rotate_left
       ·simp only [Act.put, List.setIfInBounds_toArray, List.set_cons_zero, List.set_cons_succ, i64_w, i32_w]
        rfl
       refine take_ (i := 20) (N := some 32) (v := ?_) (a' := ?_) #[true, true, true, true, true, true, true, true, true, true, true, true, true, true, true, true, true, true, true, true, true, false, false, false, false, false, false, false, false, false, false, false, false] rfl rfl (by kernel_rfl) (fun _ _ _ h => h) (Or.inl ⟨by rfl, ?_⟩) hHeld ?_ ?_
       rotate_left
       ·rintro w' ⟨s0, s1, s2, s3, s4, s5, s6, s7, s8, s9, s10⟩
        go_simp
        with_reducible rfl
       rotate_left
       ·simp only [Act.put, List.setIfInBounds_toArray, List.set_cons_zero, List.set_cons_succ, i64_w, i32_w]
        rfl
       refine pure_ (i := 21) (N := some 33) (v := ?_) (a' := ?_) #[true, true, true, true, true, true, true, true, true, true, true, true, true, true, true, true, true, true, true, true, true, true, false, false, false, false, false, false, false, false, false, false, false] rfl rfl (by kernel_rfl) (fun _ _ _ h => h) (Or.inl ⟨by rfl, ?_⟩) ?_ ?_
       rotate_left
       ·intro w'
        go_simp
        with_reducible rfl
       rotate_left
       ·simp only [Act.put, List.setIfInBounds_toArray, List.set_cons_zero, List.set_cons_succ, i64_w, i32_w]
        rfl
       refine take_ (i := 22) (N := some 34) (v := ?_) (a' := ?_) #[true, true, true, true, true, true, true, true, true, true, true, true, true, true, true, true, true, true, true, true, true, true, true, false, false, false, false, false, false, false, false, false, false] rfl rfl (by kernel_rfl) (fun _ _ _ h => h) (Or.inl ⟨by rfl, ?_⟩) hHeld ?_ ?_
       rotate_left
       ·rintro w' ⟨s0, s1, s2, s3, s4, s5, s6, s7, s8, s9, s10⟩
        go_simp
        with_reducible rfl
       rotate_left
       ·simp only [Act.put, List.setIfInBounds_toArray, List.set_cons_zero, List.set_cons_succ, i64_w, i32_w]
        rfl
       refine pure_ (i := 23) (N := some 35) (v := ?_) (a' := ?_) #[true, true, true, true, true, true, true, true, true, true, true, true, true, true, true, true, true, true, true, true, true, true, true, true, false, false, false, false, false, false, false, false, false] rfl rfl (by kernel_rfl) (fun _ _ _ h => h) (Or.inl ⟨by rfl, ?_⟩) ?_ ?_
       rotate_left
       ·intro w'
        go_simp
        with_reducible rfl
       rotate_left
       ·simp only [Act.put, List.setIfInBounds_toArray, List.set_cons_zero, List.set_cons_succ, i64_w, i32_w]
        rfl
       refine take_ (i := 24) (N := some 36) (v := ?_) (a' := ?_) #[true, true, true, true, true, true, true, true, true, true, true, true, true, true, true, true, true, true, true, true, true, true, true, true, true, false, false, false, false, false, false, false, false] rfl rfl (by kernel_rfl) (fun _ _ _ h => h) (Or.inl ⟨by rfl, ?_⟩) hHeld ?_ ?_
       rotate_left
       ·rintro w' ⟨s0, s1, s2, s3, s4, s5, s6, s7, s8, s9, s10⟩
        go_simp
        with_reducible rfl
       rotate_left
       ·simp only [Act.put, List.setIfInBounds_toArray, List.set_cons_zero, List.set_cons_succ, i64_w, i32_w]
        rfl
       refine pure_ (i := 25) (N := some 37) (v := ?_) (a' := ?_) #[true, true, true, true, true, true, true, true, true, true, true, true, true, true, true, true, true, true, true, true, true, true, true, true, true, true, false, false, false, false, false, false, false] rfl rfl (by kernel_rfl) (fun _ _ _ h => h) (Or.inl ⟨by rfl, ?_⟩) ?_ ?_
       rotate_left
       ·intro w'
        go_simp
        with_reducible rfl
       rotate_left
       ·simp only [Act.put, List.setIfInBounds_toArray, List.set_cons_zero, List.set_cons_succ, i64_w, i32_w]
        rfl
       refine take_ (i := 26) (N := some 38) (v := ?_) (a' := ?_) #[true, true, true, true, true, true, true, true, true, true, true, true, true, true, true, true, true, true, true, true, true, true, true, true, true, true, true, false, false, false, false, false, false] rfl rfl (by kernel_rfl) (fun _ _ _ h => h) (Or.inl ⟨by rfl, ?_⟩) hHeld ?_ ?_
       rotate_left
       ·rintro w' ⟨s0, s1, s2, s3, s4, s5, s6, s7, s8, s9, s10⟩
        go_simp
        with_reducible rfl
       rotate_left
       ·simp only [Act.put, List.setIfInBounds_toArray, List.set_cons_zero, List.set_cons_succ, i64_w, i32_w]
        rfl
       refine pure_ (i := 27) (N := some 39) (v := ?_) (a' := ?_) #[true, true, true, true, true, true, true, true, true, true, true, true, true, true, true, true, true, true, true, true, true, true, true, true, true, true, true, true, false, false, false, false, false] rfl rfl (by kernel_rfl) (fun _ _ _ h => h) (Or.inl ⟨by rfl, ?_⟩) ?_ ?_
       rotate_left
       ·intro w'
        go_simp
        with_reducible rfl
       rotate_left
       ·simp only [Act.put, List.setIfInBounds_toArray, List.set_cons_zero, List.set_cons_succ, i64_w, i32_w]
        rfl
       refine take_ (i := 28) (N := some 40) (v := ?_) (a' := ?_) #[true, true, true, true, true, true, true, true, true, true, true, true, true, true, true, true, true, true, true, true, true, true, true, true, true, true, true, true, true, false, false, false, false] rfl rfl (by kernel_rfl) (fun _ _ _ h => h) (Or.inl ⟨by rfl, ?_⟩) hHeld ?_ ?_
       rotate_left
       ·rintro w' ⟨s0, s1, s2, s3, s4, s5, s6, s7, s8, s9, s10⟩
        go_simp
        with_reducible rfl
       rotate_left
       ·simp only [Act.put, List.setIfInBounds_toArray, List.set_cons_zero, List.set_cons_succ, i64_w, i32_w]
        rfl
       refine pure_ (i := 29) (N := some 41) (v := ?_) (a' := ?_) #[true, true, true, true, true, true, true, true, true, true, true, true, true, true, true, true, true, true, true, true, true, true, true, true, true, true, true, true, true, true, false, false, false] rfl rfl (by kernel_rfl) (fun _ _ _ h => h) (Or.inl ⟨by rfl, ?_⟩) ?_ ?_
       rotate_left
       ·intro w'
        go_simp
        with_reducible rfl
       rotate_left
       ·simp only [Act.put, List.setIfInBounds_toArray, List.set_cons_zero, List.set_cons_succ, i64_w, i32_w]
        rfl
       refine one_ (i := 30) (N := some 42) #[true, true, true, true, true, true, true, true, true, true, true, true, true, true, true, true, true, true, true, true, true, true, true, true, true, true, true, true, true, true, true, false, false] rfl rfl (by kernel_rfl) (by decide) (fun K hK => ?_)
       refine goes_ Tryd.func45 (by kernel_rfl) rfl #[.agg #[.string x.f0, .string x.f1, .int .u8 x.f3, .int .i64 x.f4.f0, .int .i64 x.f4.f1, .int .i64 x.f4.f2, .int .i64 x.f4.f3, .slice A7 x.f5.length c7]] (by rfl) rfl rfl (by first | rfl | (simp [Act.eval]; done)) ?_
       refine (member_Good.calls kg x.f0 x.f1 x.f3 x.f4.f0 x.f4.f1 x.f4.f2 x.f4.f3 A7 c7 x.f5 gd wq ⟨by rw [← hwq]; exact Tabs.below HTA.out (below_drew (below_alloc (Below.refl _ _) _))⟩ (by rw [← hwq]; exact Kd.C_drew (HCA.out _)) hl7' HKG.out).mono ?_
       rintro e w5 ⟨rfl, hb5⟩
       refine ⟨_, rfl, ?_⟩
       refine hK.out _ _ ⟨bkeep hb5 hHeld.1, bkeep hb5 hHeld.2.1, bkeep hb5 hHeld.2.2.1, bkeep hb5 hHeld.2.2.2.1, bkeep hb5 hHeld.2.2.2.2.1, bkeep hb5 hHeld.2.2.2.2.2.1, bkeep hb5 hHeld.2.2.2.2.2.2.1, bkeep hb5 hHeld.2.2.2.2.2.2.2.1, bkeep hb5 hHeld.2.2.2.2.2.2.2.2.1, bkeep hb5 hHeld.2.2.2.2.2.2.2.2.2.1, bkeep hb5 hHeld.2.2.2.2.2.2.2.2.2.2⟩ (fun hHeld => ?_)
       clear hK K
       refine norm_ (a' := ?_) ?_ ?_
       rotate_left
       ·show Act.put _ (some 42) _ = _
        simp only [Act.put, List.setIfInBounds_toArray, List.set_cons_zero, List.set_cons_succ, i64_w, i32_w]
        rfl
       refine pure_ (i := 31) (N := some 43) (v := ?_) (a' := ?_) #[true, true, true, true, true, true, true, true, true, true, true, true, true, true, true, true, true, true, true, true, true, true, true, true, true, true, true, true, true, true, true, true, false] rfl rfl (by kernel_rfl) (fun _ _ _ h => h) (Or.inl ⟨by rfl, ?_⟩) ?_ ?_
       rotate_left
       ·intro w'
        go_simp
        with_reducible rfl
       rotate_left
       ·simp only [Act.put, List.setIfInBounds_toArray, List.set_cons_zero, List.set_cons_succ, i64_w, i32_w]
        rfl
       refine pure_ (i := 32) (N := some 44) (v := ?_) (a' := ?_) #[true, true, true, true, true, true, true, true, true, true, true, true, true, true, true, true, true, true, true, true, true, true, true, true, true, true, true, true, true, true, true, true, true] rfl rfl (by kernel_rfl) (fun _ _ _ h => h) (Or.inl ⟨by rfl, ?_⟩) ?_ ?_
       rotate_left
       ·intro w'
        go_simp
        with_reducible rfl
       rotate_left
       ·simp only [Act.put, List.setIfInBounds_toArray, List.set_cons_zero, List.set_cons_succ, i64_w, i32_w]
        rfl
       refine done_ (by kernel_rfl) ?_
       clear hw64
       go_wp2_with (fail)
       go_meet
       exact ⟨!gd, rfl, ⟨by unfold headOk'; rw [← HX.out, HGD.out, decide_eq_false H49.out, show lt (l[n.toNat - 1]'(by have := HNL.out; omega)).f0 x.f0 = true from (prev_lt' HY.out HJ.out hls)]; simp, (show Below wr.heap.size wr wq from by rw [← hwq]; exact below_drew (below_alloc (Below.refl _ _) _)).trans (hb5.mono (by rw [← hwq]; show wr.heap.size ≤ (wr.alloc (.cells #[.string x.f0, .string x.f1, .string x.f2, .int .u8 x.f3, .int .i64 x.f4.f0, .int .i64 x.f4.f1, .int .i64 x.f4.f2, .int .i64 x.f4.f3, .slice A7 x.f5.length c7] 38)).heap.size; rw [World.size_alloc]; omega))⟩⟩
   case rest =>
    obtain ⟨b, rfl, HM⟩ := hcut
    cases b with
    | true =>
     go_wp2
     rw [← hQ.out]
     exact ⟨by rw [goodTree_nothead n.toNat HNL.out (by have := HM.out.1; simpa using this.symm)], HB.out.trans (HM.out.2.mono HB.out.size)⟩
    | false =>
     have hfin : GRel l W (some ad) c0 (n + 1) wc := gRel_next HR.out HNL.out (by have := HM.out.1; simpa using this.symm) HM.out.2
     have HF := Aside0.mk hfin
     clear hfin
     go_wp2
     go_roundg (gk - 1)
     case measure => have := HG.out; omega
     case rel => exact ⟨n + 1, by go_num, HF, ⟨by have := HG.out; omega⟩⟩
  ·have c1b : decide (n < (l.length : Int)) = false := decide_eq_false hlt
   obtain ⟨hr, hgt⟩ := goodTree_head (l := l) (fun i hi => HR.out.2.2.1 i hi (by omega))
   have HCT := Aside0.mk (Contains_calls l hr ((nodesZ_iff l).2 HZ.out.1) A0 c0 HC0.out W.heap.size wr hbox (Kd.C_below HC.out HB.out))
   have HGT := Aside0.mk hgt
   clear hgt hr
   by_cases h4 : l.length ≤ 4096
   ·have h4b : decide ((l.length : Int) ≤ 4096) = true := decide_eq_true (by omega)
    have h4c : decide (l.length ≤ 4096) = true := decide_eq_true h4
    have H4 := Aside0.mk h4
    clear h4
    go_wp2_with (go_at_call 58; refine HCT.out.mono ?_; rintro e w1 ⟨rfl, hb1⟩)
    rw [← hQ.out]
    refine ⟨?_, HB.out.trans (hb1.mono HB.out.size)⟩
    rw [HGT.out, decide_eq_true H4.out]
    simp
   ·have h4b : decide ((l.length : Int) ≤ 4096) = false := decide_eq_false (by omega)
    have h4c : decide (l.length ≤ 4096) = false := decide_eq_false h4
    have H4 := Aside0.mk h4
    clear h4
    go_wp2
    rw [← hQ.out]
    refine ⟨?_, HB.out⟩
    rw [HGT.out, decide_eq_false H4.out]
    rfl
end Go.Proofs.YtfmphccoeinhcaaDoor

namespace Go.Proofs.YtfmphccoeinhcaaDoor
open Go.RowKit Go.Shelf Go.Proofs.YtfmphccoeinhcaaDoor.Print Go.Proofs.YtfmphccoeinhcaaDoorW.PrintWords
set_option linter.unusedVariables false
set_option linter.unusedSimpArgs false
def litW (w : World) (cs : Array Value) : World := (w.alloc (.cells cs 5)).freeze ⟨w.heap.size, cs.size, none⟩ 1
theorem litW_new (w : World) (cs : Array Value) : (litW w cs).heap[w.heap.size]? = some (.cells cs 5 (cs.size, cs.size + 1)) := by
 simp [litW, World.freeze, World.alloc, -World.alloc_eq]
 rw [Array.getElem_modify_self]
 simp
theorem litW_size (w : World) (cs : Array Value) : (litW w cs).heap.size = w.heap.size + 1 := by
 simp [litW, World.freeze, World.alloc, -World.alloc_eq]
theorem litW_old (w : World) (cs : Array Value) (j : Nat) (hj : j < w.heap.size) : (litW w cs).heap[j]? = w.heap[j]? := by
 have h1 : w.heap.size ≠ j := by omega
 simp [litW, World.freeze, World.alloc, -World.alloc_eq, Array.getElem?_modify, Array.getElem?_push, h1, Ne.symm h1]
theorem litW_below (w : World) (cs : Array Value) : Below w.heap.size w (litW w cs) :=
 ⟨rfl, rfl, rfl, by rw [litW_size]; omega, fun i hi => litW_old w cs i hi⟩
theorem litW_conv (w : World) (cs : Array Value) (n c : Nat) : (convert 25 25 (.slice (some ⟨w.heap.size, 0, none⟩) n c)).run Tryd.prog (w.alloc (.cells cs 5)) = .ok (.slice (some ⟨w.heap.size, 0, none⟩) n c) (litW w cs) := by
 have hsh : (w.alloc (.cells cs 5)).shape? w.heap.size = some (5, cs.size) := by
  simp [World.shape?, World.alloc, -World.alloc_eq]
 simp [convert, run_underlying Tryd.underlying25, run_underlying Tryd.underlying5, markStringish, litW, hsh, Result.andThen]
theorem C_block {α : Type} {d : Kd α} {w : World} {g : Nat} {cs : Array Value} {t : TypeId} {fz : Nat × Nat} {xs : List α} (hb : w.heap[g]? = some (.cells cs t fz)) (hm : xs.length ≤ 9223372036854775807) (hr : Reps (d.K w) d.sz xs cs.toList) : Kd.C d w (some ⟨g, 0, none⟩) xs.length xs := by
 refine ⟨rfl, hm, fun _ => ⟨_, rfl, fun j p hj => ?_⟩⟩
 refine ⟨(cs.toList.drop (j * d.sz)).take d.sz, ?_, hr.2 j p hj, fun i u hu => ?_⟩
 ·exact d.K_len (hr.2 j p hj)
 ·rw [add_plain]
  unfold World.cell?
  dsimp only
  rw [hb]
  dsimp only
  have hi : i < d.sz := by
   have h1 := (List.getElem?_eq_some_iff.1 hu).1
   rw [List.length_take] at h1
   omega
  rw [List.getElem?_take_of_lt hi, List.getElem?_drop] at hu
  simpa using hu
theorem Reps_cons {α : Type} {R : α → List Value → Prop} {size : Nat} {ps : List α} {cs c : List Value} {p : α} (hp : R p c) (hc : c.length = size) (h : Reps R size ps cs) : Reps R size (p :: ps) (c ++ cs) := by
 refine ⟨by rw [List.length_append, hc, h.1, List.length_cons, Nat.add_mul, Nat.one_mul, Nat.add_comm], fun j q hq => ?_⟩
 cases j with
 | zero =>
  simp only [List.getElem?_cons_zero, Option.some.injEq] at hq
  subst hq
  rw [Nat.zero_mul, List.drop_zero, List.take_append_of_le_length (by omega), List.take_of_length_le (by omega)]
  exact hp
 | succ j =>
  simp only [List.getElem?_cons_succ] at hq
  have := h.2 j q hq
  rw [Nat.add_mul, Nat.one_mul, Nat.add_comm, ← hc, List.drop_append, hc]
  rw [List.drop_eq_nil_of_le (by omega), List.nil_append, show size + j * size - size = j * size from by omega]
  exact this
abbrev aB : ByteArray := ⟨#[97]⟩
abbrev bB : ByteArray := ⟨#[98]⟩
abbrev l10 : List Mem := [⟨bB, emp, 48, ⟨0, 0, 0, 0⟩, [120]⟩, ⟨aB, bB, 49, ⟨0, 0, 0, 0⟩, []⟩]
abbrev t10 : List Node := [⟨aB, emp, aB, 48, ⟨0, 0, 0, 0⟩, [120]⟩, ⟨bB, emp, aB, 48, ⟨0, 0, 0, 0⟩, [120]⟩]
theorem str120 : strOfNums [120] = ⟨#[120]⟩ := by rfl
theorem fold10 : foldF l10 = (t10, 0, 0) := by kernel_rfl
theorem fold11 : foldF [⟨aB, bB, 49, ⟨0, 0, 0, 0⟩, []⟩] = ([], 7, 0) := by kernel_rfl
theorem good10 : goodTree t10 = true := by kernel_rfl
theorem good11 : goodTree [z38] = false := by kernel_rfl
def Ans1 (X : World) (e : Ending) (w' : World) : Prop := ∃ g c A8 c8, e = .returned (.tuple #[.slice (some ⟨g, 0, none⟩) 2 c, .agg #[.int .i64 0, .int .i64 0]]) ∧ Kd.C k38 w' (some ⟨g, 0, none⟩) 2 t10 ∧ w'.cell? ⟨g, 2, none⟩ = some (.string ⟨#[97]⟩) ∧ w'.cell? ⟨g, 11, none⟩ = some (.string ⟨#[97]⟩) ∧ w'.cell? ⟨g, 8, none⟩ = some (.slice A8 1 c8) ∧ Kd.C (Kd.int .u8) w' A8 1 [120] ∧ 2 ≤ c ∧ Below X.heap.size X w'
theorem ans1_calls (X : World) (hT : Tabs X) : Calls Tryd.prog 18 #[.slice (some ⟨X.heap.size + 1, 0, none⟩) 2 2] ((litW X #[.int .u8 120]).alloc (.cells #[.string ⟨#[98]⟩, .string ⟨#[]⟩, .int .u8 48, .int .i64 0, .int .i64 0, .int .i64 0, .int .i64 0, .slice (some ⟨X.heap.size, 0, none⟩) 1 1, .string ⟨#[97]⟩, .string ⟨#[98]⟩, .int .u8 49, .int .i64 0, .int .i64 0, .int .i64 0, .int .i64 0, .slice none 0 0] 27)) (Ans1 X) := by
 generalize hO : (Obj.cells _ _) = O
 have hb1 := litW_below X #[.int .u8 120]
 have hs1 := litW_size X #[.int .u8 120]
 have hb2 : Below X.heap.size X ((litW X #[.int .u8 120]).alloc O) := hb1.alloc (by omega) _
 have hblk : ((litW X #[.int .u8 120]).alloc O).heap[X.heap.size + 1]? = some O := by rw [← hs1]; exact blk_new _ _
 have hu : Kd.C (Kd.int .u8) ((litW X #[.int .u8 120]).alloc O) (some ⟨X.heap.size, 0, none⟩) 1 [120] := by
  have h1 : Kd.C (Kd.int .u8) (litW X #[.int .u8 120]) (some ⟨X.heap.size, 0, none⟩) ([120] : List Int).length [120] := C_block (litW_new X #[.int .u8 120]) (by decide) (Reps.one (show Kd.K (Kd.int .u8) _ 120 [.int .u8 120] from rfl) (Reps.none _ _))
  exact Kd.C_alloc h1 _
 subst hO
 have hC : Kd.C k27 _ (some ⟨X.heap.size + 1, 0, none⟩) l10.length l10 := C_block hblk (by decide)
  (Reps_cons (k27_mk _ _ (by decide) hu) rfl (Reps_cons (k27_mk _ _ (Nat.le_refl _) (Kd.C_nil _ _)) rfl (Reps.none _ _)))
 refine (Fold_calls (some ⟨X.heap.size + 1, 0, none⟩) 2 l10 _ (Tabs.below hT hb2) hC ((memsZ_iff _).1 (by decide))).mono ?_
 rintro e w' ⟨v, rfl, hV, hB, hform⟩
 rw [fold10] at hV hform ⊢
 obtain ⟨g, c, rfl⟩ := hform (by decide)
 obtain ⟨h1, h2, h3⟩ := Kd.V_reads' hV
 obtain ⟨ad, A8, c8, hA, x0, x1, x2, x3, x4, x5, x6, x7, x8, hl8, hC8⟩ := at_T38 h3 0 (by decide) (by decide)
 cases hA
 obtain ⟨ad, A9, c9, hA, y0, y1, y2, _⟩ := at_T38 h3 1 (by decide) (by decide)
 cases hA
 exact ⟨g, c, A8, c8, rfl, h3, x2, y2, x8, hC8, h2, hb2.trans (hB.mono hb2.size)⟩
def Ans2 (X : World) (e : Ending) (w' : World) : Prop := ∃ v, e = .returned (.tuple #[v, .agg #[.int .i64 7, .int .i64 0]]) ∧ Below X.heap.size X w'
theorem ans2_calls (X : World) (b : Nat) (hb : X.heap.size = b) (hT : Tabs X) : Calls Tryd.prog 18 #[.slice (some ⟨b, 0, none⟩) 1 1] (X.alloc (.cells #[.string ⟨#[97]⟩, .string ⟨#[98]⟩, .int .u8 49, .int .i64 0, .int .i64 0, .int .i64 0, .int .i64 0, .slice none 0 0] 27)) (Ans2 X) := by
 subst hb
 have hblk := blk_new X (Obj.cells #[.string ⟨#[97]⟩, .string ⟨#[98]⟩, .int .u8 49, .int .i64 0, .int .i64 0, .int .i64 0, .int .i64 0, .slice none 0 0] 27)
 have hb2 := below_alloc (Below.refl X.heap.size X) (Obj.cells #[.string ⟨#[97]⟩, .string ⟨#[98]⟩, .int .u8 49, .int .i64 0, .int .i64 0, .int .i64 0, .int .i64 0, .slice none 0 0] 27)
 have hC : Kd.C k27 _ (some ⟨X.heap.size, 0, none⟩) ([⟨aB, bB, 49, ⟨0, 0, 0, 0⟩, []⟩] : List Mem).length [⟨aB, bB, 49, ⟨0, 0, 0, 0⟩, []⟩] := C_block hblk (by decide)
  (Reps_cons (k27_mk _ _ (Nat.le_refl _) (Kd.C_nil _ _)) rfl (Reps.none _ _))
 refine (Fold_calls (some ⟨X.heap.size, 0, none⟩) 1 _ _ (Tabs.below hT hb2) hC ((memsZ_iff _).1 (by decide))).mono ?_
 rintro e w' ⟨v, rfl, hV, hB, hform⟩
 rw [fold11]
 exact ⟨v, rfl, hb2.trans (hB.mono hb2.size)⟩
theorem ans4_calls (X : World) (b : Nat) (hb : X.heap.size = b) (hT : Tabs X) : Calls Tryd.prog 42 #[.slice (some ⟨b, 0, none⟩) 1 1] (X.alloc (.cells #[.string ⟨#[]⟩, .string ⟨#[]⟩, .string ⟨#[]⟩, .int .u8 0, .int .i64 0, .int .i64 0, .int .i64 0, .int .i64 0, .slice none 0 0] 38)) fun e w' => e = .returned (.bool false) ∧ Below X.heap.size X w' := by
 subst hb
 have hblk := blk_new X (Obj.cells #[.string ⟨#[]⟩, .string ⟨#[]⟩, .string ⟨#[]⟩, .int .u8 0, .int .i64 0, .int .i64 0, .int .i64 0, .int .i64 0, .slice none 0 0] 38)
 have hb2 := below_alloc (Below.refl X.heap.size X) (Obj.cells #[.string ⟨#[]⟩, .string ⟨#[]⟩, .string ⟨#[]⟩, .int .u8 0, .int .i64 0, .int .i64 0, .int .i64 0, .int .i64 0, .slice none 0 0] 38)
 have hC : Kd.C k38 _ (some ⟨X.heap.size, 0, none⟩) ([z38] : List Node).length [z38] := C_block hblk (by decide)
  (Reps_cons (k38_mk _ z38 (Nat.le_refl _) (Kd.C_nil _ _)) rfl (Reps.none _ _))
 refine (Good_calls (some ⟨X.heap.size, 0, none⟩) 1 [z38] _ (Tabs.below hT hb2) hC (by decide) ((nodesG_iff _).1 (by decide))).mono ?_
 rintro e w' ⟨rfl, hB⟩
 rw [good11]
 exact ⟨rfl, hb2.trans (hB.mono hb2.size)⟩
theorem ans3_calls (Y : World) (g c : Nat) (hC : Kd.C k38 Y (some ⟨g, 0, none⟩) 2 t10) (hc : 2 ≤ c) (hT : Tabs Y) : Calls Tryd.prog 42 #[.slice (some ⟨g, 0, none⟩) 2 c] Y fun e w' => e = .returned (.bool true) ∧ Below Y.heap.size Y w' := by
 have h := Good_calls (some ⟨g, 0, none⟩) c t10 Y hT hC hc ((nodesG_iff _).1 (by decide))
 rw [good10] at h
 exact h
set_option maxRecDepth 100000 in
set_option maxHeartbeats 4000000 in
theorem answers10_calls (w : World) (hT : Tabs w) :
  Calls Tryd.prog 17 #[] w fun e w' => e = .returned (.bool true) ∧ Below w.heap.size w w' := by
 have HT : Aside0 (∀ X : World, Below w.heap.size w X → Tabs X) := ⟨fun X hb => Tabs.below hT hb⟩
 have c1 := Aside0.mk (ans1_calls w hT)
 have kc := fun (W : World) => litW_conv W (#[.int .u8 120] : Array Value) 1 1
 have hls := litW_size w #[.int .u8 120]
 clear hT
 go_enter Tryd.func17, Tryd.ntmps17
 go_wp2_with (first
  | (go_at_call 18; (with_reducible refine c1.out.mono ?_); rintro e w1 ⟨g, c, A8, c8, rfl, hC, x2, y2, x8, hC8, hc2, hb1⟩; have HC := Aside0.mk hC; have HC8 := Aside0.mk hC8; have HB1 := Aside0.mk hb1; have hg := World.block_lt_of_cell? w1 _ x2; dsimp only at hg; have hg1 : g < w1.heap.size + 1 := (by omega); have hgn : ¬ w1.heap.size = g := (by omega); have hgn1 : ¬ w1.heap.size + 1 = g := (by omega); have hw1 := hb1.size; clear hC hC8 hb1)
  | (go_at_call 18; refine (ans2_calls _ _ (by simp) (HT.out _ ?hx)).mono ?_; (case hx => repeat (first | with_reducible refine below_put ?_ _ _ (by omega) _ | with_reducible refine below_alloc ?_ _); exact HB1.out); rintro e w2 ⟨v2, rfl, hb2⟩; obtain ⟨hd2, hf2⟩ := bcell hb2; have hz2 := hb2.size; simp only [World.size_alloc, World.size_setCell] at hz2; have HB2 := Aside0.mk hb2; have hq1 : w1.heap.size < w2.heap.size := (by omega); have hq2 : ¬ w1.heap.size = w2.heap.size := (by omega); have hq3 : ¬ w2.heap.size = w1.heap.size := (by omega); have hq4 : g < w2.heap.size := (by omega); have hq5 : ¬ g = w2.heap.size := (by omega); have hq6 : ¬ w2.heap.size = g := (by omega); have hX : Below w1.heap.size w1 w2 := (by refine Below.trans ?_ (HB2.out.mono (by simp)); repeat (first | with_reducible refine below_put ?_ _ _ (by omega) _ | with_reducible refine below_alloc ?_ _); exact Below.refl _ _); have hstr := (fun (o : Obj) => Kd.C_string (P := Tryd.prog) (src := 25) (dst := 9) (n := 1) (c := c8) Tryd.underlying25 Tryd.underlying5 Tryd.underlying9 (Kd.C_alloc (Kd.C_below HC8.out hX) o)); rw [str120] at hstr; have HX := Aside0.mk hX; have HW2 := Aside0.mk (HB1.out.trans (HX.out.mono hw1)); clear hb2 hX)
  | (go_at_call 42; (with_reducible refine (ans3_calls _ g c (Kd.C_alloc (Kd.C_below HC.out HX.out) _) hc2 (HT.out _ (below_alloc HW2.out _))).mono ?_); rintro e w3 ⟨rfl, hb3⟩; obtain ⟨hd3, hf3⟩ := bcell hb3; have hz3 := hb3.size; simp only [World.size_alloc] at hz3; have HB3 := Aside0.mk hb3; have hs23 := HW2.out.size; have HW3 := Aside0.mk ((below_alloc HW2.out _).trans (HB3.out.mono (by rw [World.size_alloc]; omega))); clear hb3)
  | (go_at_call 42; refine (ans4_calls _ _ rfl (HT.out _ HW3.out)).mono ?_; rintro e w4 ⟨rfl, hb4⟩)
  | fail)
 go_ret
 exact ⟨rfl, HW3.out.trans (hb4.mono HW3.out.size)⟩
end Go.Proofs.YtfmphccoeinhcaaDoor
namespace Go.Proofs.YtfmphccoeinhcaaDoor.Print
open Go.RowKit Go.Proofs.YtfmphccoeinhcaaDoor Go.Proofs.YtfmphccoeinhcaaDoorW.PrintWords
def bindlelaw10_answers.f : Option (Bool) := some true
theorem bindlelaw10_answers.calls (r : Bool) (w : World) (hT : Aside0 (Tabs w)) (h : bindlelaw10_answers.f = some r) :
  Calls Tryd.prog 17 #[] w fun e w' => e = .returned (.bool r) ∧ Below w.heap.size w w' := by
 cases h
 exact answers10_calls w hT.out
end Go.Proofs.YtfmphccoeinhcaaDoor.Print

namespace Go.Proofs.YtfmphccoeinhcaaDoor
open Go.RowKit Go.Proofs.YtfmphccoeinhcaaDoor.Print Go.Proofs.YtfmphccoeinhcaaDoorW.PrintWords
theorem metHeap : Kd.Heap k24 := Kd.heap_iso _ (Kd.heap_pair (Kd.heap_int _) (Kd.heap_pair (Kd.heap_int _) (Kd.heap_pair (Kd.heap_int _) (Kd.heap_int _))))
theorem nodeHeap : Kd.Heap k38 := Kd.heap_iso _ (Kd.heap_pair Kd.heap_string (Kd.heap_pair Kd.heap_string (Kd.heap_pair Kd.heap_string (Kd.heap_pair (Kd.heap_int _) (Kd.heap_pair metHeap (Kd.heap_slice _ (Kd.heap_int _)))))))
theorem memHeap : Kd.Heap k27 := Kd.heap_iso _ (Kd.heap_pair Kd.heap_string (Kd.heap_pair Kd.heap_string (Kd.heap_pair (Kd.heap_int _) (Kd.heap_pair metHeap (Kd.heap_slice _ (Kd.heap_int _))))))
end Go.Proofs.YtfmphccoeinhcaaDoor

namespace Go.Proofs.YtfmphccoeinhcaaDoor.Print
open Go.RowKit Go.Proofs.YtfmphccoeinhcaaDoorW.PrintWords Go.Proofs.YtfmphccoeinhcaaDoorW.PrintLast Go.Proofs.YtfmphccoeinhcaaDoorW.PrintMore
attribute [local go_sem] max2_int min2_int max_two min_two max_three min_three max_four min_four   -- for this text's walks alone
set_option linter.unusedVariables false
set_option linter.unusedSimpArgs false
def bindleref08_Find.l0 : Nat → List (S38) → ByteArray → Int → Option (ByteArray × ByteArray × ByteArray × Int × Int × Int × Int × Int × List Int × Bool)
 | 0, _, _, _ => none
 | k + 1, x0, x1, x6 => if x6 < (x0.length : Int) then (if 0 ≤ x6 then (if ((rd_T38 x0 x6).f0).toList = x1.toList then (some ((rd_T38 x0 x6).f0, (rd_T38 x0 x6).f1, (rd_T38 x0 x6).f2, (rd_T38 x0 x6).f3, (rd_T38 x0 x6).f4.f0, (rd_T38 x0 x6).f4.f1, (rd_T38 x0 x6).f4.f2, (rd_T38 x0 x6).f4.f3, (rd_T38 x0 x6).f5, true)) else (bindleref08_Find.l0 k x0 x1 (wrap64 (x6 + 1)))) else (none)) else (some ((⟨#[]⟩ : ByteArray), (⟨#[]⟩ : ByteArray), (⟨#[]⟩ : ByteArray), 0, 0, 0, 0, 0, ([] : List Int), false))
def bindleref08_Find.f (k : Nat) (l0 : List (S38)) (a1 : ByteArray) : Option (ByteArray × ByteArray × ByteArray × Int × Int × Int × Int × Int × List Int × Bool) := bindleref08_Find.l0 k l0 a1 0
set_option maxHeartbeats 8000000 in
set_option maxRecDepth 100000 in
theorem bindleref08_Find.calls (k : Nat) (P0_ : Nat → Prop) (A0 : Option Addr) (c0 : Nat) (l0 : List (S38)) (a1 : ByteArray) (r1 : ByteArray) (r2 : ByteArray) (r3 : ByteArray) (r4 : Int) (r5 : Int) (r6 : Int) (r7 : Int) (r8 : Int) (r9 : List Int) (r10 : Bool) (w : World) (hs0 : Kd.V k38 38 w w.heap.size (fun k_ => P0_ k_) (.slice A0 l0.length c0) l0) (h : bindleref08_Find.f k l0 a1 = some (r1, r2, r3, r4, r5, r6, r7, r8, r9, r10)) :
  Calls Tryd.prog 19 #[.slice A0 l0.length c0, .string a1] w fun e w' => ∃ v8_ : Value, e = .returned (.tuple #[.agg #[.string r1, .string r2, .string r3, .int .u8 r4, .int .i64 r5, .int .i64 r6, .int .i64 r7, .int .i64 r8, v8_], .bool r10]) ∧ Kd.V (Kd.int .u8) 5 w' w.heap.size (fun k_ => (P0_ k_ ∨ w.heap.size ≤ k_)) v8_ r9 ∧ Below w.heap.size w w' := by
 have hu38 := Tryd.underlying38
 have HO0 := A0_ (show Kd.V k38 38 w w.heap.size (fun k_ => (P0_ k_ ∨ w.heap.size ≤ k_)) (.slice A0 l0.length c0) l0 from Kd.V_mono hs0 (fun k_ hk => .inl hk))
 have HB := A0_ (Below.refl w.heap.size w)
 have H : (bindleref08_Find.l0 k l0 a1 0) = some (r1, r2, r3, r4, r5, r6, r7, r8, r9, r10) := h
 clear h
 have H' := A0_ H
 clear H
 go_enter Tryd.func19, Tryd.ntmps19
 go_wp2_with (first | ((with_reducible refine gate_dst (N := 4) rfl ?_); refine box_event ?hg (N := 4) ?hd (cs := #[.string (⟨#[]⟩ : ByteArray), .string (⟨#[]⟩ : ByteArray), .string (⟨#[]⟩ : ByteArray), .int .u8 0, .int .i64 0, .int .i64 0, .int .i64 0, .int .i64 0, .slice none 0 0]) (t := 38) ?hr ?_; (case hd => rfl); (case hg => rfl); (case hr => first | (go_simp; done) | (go_simp; rfl)); intro gb115 hg w3 hbox hb; have n0_ := A0_ (Vb_ (Kd.V_elderB (wV_ HO0.out) gb115 (Nat.le_of_eq hg.symm)) hb); have n1_ := A0_ (below_step (wb_ HB.out) hb); have n2_ := A0_ (hbox); have n3_ := A0_ ((by rw [hg]; exact (below_size (wb_ HB.out)) : w.heap.size ≤ gb115)); have n4_ := A0_ ((by rw [hg]; exact (below_size (wb_ HB.out)) : w.heap.size ≤ gb115)); clear HO0; clear HB; have HO0 := n0_; have HB := n1_; have BK115 := n2_; have GW115 := n3_; have GE115 := n4_; clear n0_ n1_ n2_ n3_ n4_; clear hb hbox hg))
 go_loopg [6] k (fun kq v6 w' => ∃ (x6_1 : Int) (x116000_1 : ByteArray) (x116001_1 : ByteArray) (x116002_1 : ByteArray) (x116003_1 : Int) (x116004_1 : Int) (x116005_1 : Int) (x116006_1 : Int) (x116007_1 : Int), v6 = .int .i64 x6_1 ∧ Aside0 (bindleref08_Find.l0 kq l0 a1 x6_1 = some (r1, r2, r3, r4, r5, r6, r7, r8, r9, r10)) ∧ Aside0 (kq ≤ k) ∧ Aside0 (Kd.V k38 38 w' w.heap.size (fun k_ => (P0_ k_ ∨ w.heap.size ≤ k_) ∧ k_ ≠ gb115) (.slice A0 l0.length c0) l0) ∧ Aside0 (w'.heap[gb115]? = some (.cells #[.string x116000_1, .string x116001_1, .string x116002_1, .int .u8 x116003_1, .int .i64 x116004_1, .int .i64 x116005_1, .int .i64 x116006_1, .int .i64 x116007_1, (.slice none 0 0)] 38 (0, 0))) ∧ Aside0 (Below w.heap.size w w'))
 case atStart => exact ⟨(0), ((⟨#[]⟩ : ByteArray)), ((⟨#[]⟩ : ByteArray)), ((⟨#[]⟩ : ByteArray)), (0), (0), (0), (0), (0), wr_, H', ⟨Nat.le_refl _⟩, ⟨wV_ HO0.out⟩, ⟨wB_ BK115.out⟩, ⟨wb1_ HB.out GE115.out⟩⟩
 case round =>
  clear H'
  try clear c1
  try clear p2
  obtain ⟨x6_1, x116000_1, x116001_1, x116002_1, x116003_1, x116004_1, x116005_1, x116006_1, x116007_1, rfl, HA, HK1, HO_0, BK115, HB⟩ := hrel
  cases gk with
  | zero => exact absurd HA.out (by simp [bindleref08_Find.l0])
  | succ k1 =>
   have H := HA.out
   clear HA
   simp only [bindleref08_Find.l0] at H
   by_cases c4 : x6_1 < (l0.length : Int)
   rotate_left
   ·rw [if_neg c4] at H
    have c4b0 : decide (x6_1 < (l0.length : Int)) = false := decide_eq_false c4
    clear c4
    simp only [Option.some.injEq, Prod.mk.injEq] at H
    obtain ⟨rfl, rfl, rfl, rfl, rfl, rfl, rfl, rfl, rfl, rfl⟩ := H
    have hcz8_0 : wr.cell? ⟨gb115, 0, none⟩ = some (.string x116000_1) := (bc_ BK115.out 0).trans rfl
    have hcz8_1 : wr.cell? ⟨gb115, 1, none⟩ = some (.string x116001_1) := (bc_ BK115.out 1).trans rfl
    have hcz8_2 : wr.cell? ⟨gb115, 2, none⟩ = some (.string x116002_1) := (bc_ BK115.out 2).trans rfl
    have hcz8_3 : wr.cell? ⟨gb115, 3, none⟩ = some (.int .u8 x116003_1) := (bc_ BK115.out 3).trans rfl
    have hcz8_4 : wr.cell? ⟨gb115, 4, none⟩ = some (.int .i64 x116004_1) := (bc_ BK115.out 4).trans rfl
    have hcz8_5 : wr.cell? ⟨gb115, 5, none⟩ = some (.int .i64 x116005_1) := (bc_ BK115.out 5).trans rfl
    have hcz8_6 : wr.cell? ⟨gb115, 6, none⟩ = some (.int .i64 x116006_1) := (bc_ BK115.out 6).trans rfl
    have hcz8_7 : wr.cell? ⟨gb115, 7, none⟩ = some (.int .i64 x116007_1) := (bc_ BK115.out 7).trans rfl
    have hcz8_8 : wr.cell? ⟨gb115, 8, none⟩ = some (.slice none 0 0) := (bc_ BK115.out 8).trans rfl
    have hfz8_0 := bf_ BK115.out 0
    have hfz8_1 := bf_ BK115.out 1
    have hfz8_2 := bf_ BK115.out 2
    have hfz8_3 := bf_ BK115.out 3
    have hfz8_4 := bf_ BK115.out 4
    have hfz8_5 := bf_ BK115.out 5
    have hfz8_6 := bf_ BK115.out 6
    have hfz8_7 := bf_ BK115.out 7
    have hfz8_8 := bf_ BK115.out 8
    go_wp2
    refine bodyPost_ret (results_ct rfl _ _ gb115 38 #[.string (⟨#[]⟩ : ByteArray), .string (⟨#[]⟩ : ByteArray), .string (⟨#[]⟩ : ByteArray), .int .u8 0, .int .i64 0, .int .i64 0, .int .i64 0, .int .i64 0, .slice none 0 0] (0, 0) _ rfl (by (with_reducible repeat (first | refine blk_drewN ?_ _ | refine blk_drew ?_ | refine blk_alloc ?_ _)); refine blk_put (cs := #[.string (⟨#[]⟩ : ByteArray), .string (⟨#[]⟩ : ByteArray), .string (⟨#[]⟩ : ByteArray), .int .u8 0, .int .i64 0, .int .i64 0, .int .i64 0, .int .i64 0, .slice none 0 0]) ?_ 8 _ rfl; (with_reducible repeat (first | refine blk_drewN ?_ _ | refine blk_drew ?_ | refine blk_alloc ?_ _)); refine blk_put (cs := #[.string (⟨#[]⟩ : ByteArray), .string (⟨#[]⟩ : ByteArray), .string (⟨#[]⟩ : ByteArray), .int .u8 0, .int .i64 0, .int .i64 0, .int .i64 0, .int .i64 x116007_1, .slice none 0 0]) ?_ 7 _ rfl; (with_reducible repeat (first | refine blk_drewN ?_ _ | refine blk_drew ?_ | refine blk_alloc ?_ _)); refine blk_put (cs := #[.string (⟨#[]⟩ : ByteArray), .string (⟨#[]⟩ : ByteArray), .string (⟨#[]⟩ : ByteArray), .int .u8 0, .int .i64 0, .int .i64 0, .int .i64 x116006_1, .int .i64 x116007_1, .slice none 0 0]) ?_ 6 _ rfl; (with_reducible repeat (first | refine blk_drewN ?_ _ | refine blk_drew ?_ | refine blk_alloc ?_ _)); refine blk_put (cs := #[.string (⟨#[]⟩ : ByteArray), .string (⟨#[]⟩ : ByteArray), .string (⟨#[]⟩ : ByteArray), .int .u8 0, .int .i64 0, .int .i64 x116005_1, .int .i64 x116006_1, .int .i64 x116007_1, .slice none 0 0]) ?_ 5 _ rfl; (with_reducible repeat (first | refine blk_drewN ?_ _ | refine blk_drew ?_ | refine blk_alloc ?_ _)); refine blk_put (cs := #[.string (⟨#[]⟩ : ByteArray), .string (⟨#[]⟩ : ByteArray), .string (⟨#[]⟩ : ByteArray), .int .u8 0, .int .i64 x116004_1, .int .i64 x116005_1, .int .i64 x116006_1, .int .i64 x116007_1, .slice none 0 0]) ?_ 4 _ rfl; (with_reducible repeat (first | refine blk_drewN ?_ _ | refine blk_drew ?_ | refine blk_alloc ?_ _)); refine blk_put (cs := #[.string (⟨#[]⟩ : ByteArray), .string (⟨#[]⟩ : ByteArray), .string (⟨#[]⟩ : ByteArray), .int .u8 x116003_1, .int .i64 x116004_1, .int .i64 x116005_1, .int .i64 x116006_1, .int .i64 x116007_1, .slice none 0 0]) ?_ 3 _ rfl; (with_reducible repeat (first | refine blk_drewN ?_ _ | refine blk_drew ?_ | refine blk_alloc ?_ _)); refine blk_put (cs := #[.string (⟨#[]⟩ : ByteArray), .string (⟨#[]⟩ : ByteArray), .string x116002_1, .int .u8 x116003_1, .int .i64 x116004_1, .int .i64 x116005_1, .int .i64 x116006_1, .int .i64 x116007_1, .slice none 0 0]) ?_ 2 _ rfl; (with_reducible repeat (first | refine blk_drewN ?_ _ | refine blk_drew ?_ | refine blk_alloc ?_ _)); refine blk_put (cs := #[.string (⟨#[]⟩ : ByteArray), .string x116001_1, .string x116002_1, .int .u8 x116003_1, .int .i64 x116004_1, .int .i64 x116005_1, .int .i64 x116006_1, .int .i64 x116007_1, .slice none 0 0]) ?_ 1 _ rfl; (with_reducible repeat (first | refine blk_drewN ?_ _ | refine blk_drew ?_ | refine blk_alloc ?_ _)); refine blk_put (cs := #[.string x116000_1, .string x116001_1, .string x116002_1, .int .u8 x116003_1, .int .i64 x116004_1, .int .i64 x116005_1, .int .i64 x116006_1, .int .i64 x116007_1, .slice none 0 0]) ?_ 0 _ rfl; (with_reducible repeat (first | refine blk_drewN ?_ _ | refine blk_drew ?_ | refine blk_alloc ?_ _)); exact BK115.out) Tryd.underlying38 rfl (by kernel_rfl)) rfl ?_
    exact ⟨_, we_, (Kd.V_nil _ _ _ _ _), wb1_ HB.out GE115.out⟩
   rw [if_pos c4] at H
   have c4b0 : decide (x6_1 < (l0.length : Int)) = true := decide_eq_true c4
   clear c4
   by_cases c5 : 0 ≤ x6_1
   rotate_left
   ·rw [if_neg c5] at H
    exact absurd H (by simp)
   rw [if_pos c5] at H
   have c5b0 : decide (0 ≤ x6_1) = true := decide_eq_true c5
   clear c5
   by_cases c6 : ((rd_T38 l0 x6_1).f0).toList = a1.toList
   rotate_left
   ·rw [if_neg c6] at H
    have c6b0 : (((rd_T38 l0 x6_1).f0).toList == a1.toList) = false := beq_eq_false_iff_ne.mpr c6
    have c6b1 : (((rd_T38 l0 x6_1).f0).toList != a1.toList) = true := bne_iff_ne.mpr c6
    have H' := A0_ H
    clear H
    have p116 : 0 ≤ (x6_1 : Int) := wd_
    have q116 : x6_1 < (l0.length : Int) := wd_
    obtain ⟨ad116, A116_8, c116_8, e116, hx116_0, hx116_1, hx116_2, hx116_3, hx116_4, hx116_5, hx116_6, hx116_7, hx116_8, hl116_8, hi116_8⟩ := at_T38 (Kd.V_reads' HO_0.out).2.2 x6_1 p116 q116
    cases e116
    obtain ⟨ce116, hce116, hMe116, hcc116⟩ := Kd.V_get HO_0.out z38 x6_1 p116 (by first | exact q116 | exact wd_ | (have e_ := (Kd.V_reads' HO_0.out).1; omega))
    obtain ⟨ua116_8, uc116_8, rfl, ul116_8, ge116_8⟩ := k38_openF hMe116
    have hv116_8 := hcc116 8 _ rfl
    rw [add_field _ _ 8 (by omega)] at hv116_8
    replace hv116_8 := Option.some.inj (hv116_8.symm.trans hx116_8)
    injection hv116_8 with hva_ hvn_ hvc_
    rw [hva_] at ge116_8
    rw [hvc_] at ul116_8
    have HL116_8 := A0_ (show Kd.V (Kd.int .u8) 5 _ w.heap.size _ _ ((rd_T38 l0 x6_1).f5) from Kd.V_mk ul116_8 ge116_8)
    clear hva_ hvn_ hvc_ ge116_8 ul116_8
    clear hcc116 hce116
    have HR116_8 := A0_ hi116_8
    have HC116_8 := A0_ hl116_8
    clear hi116_8 hl116_8
    replace p116 := eq_true p116
    replace q116 := eq_true q116
    go_wp2
    go_roundg k1
    case measure => have := HK1.out; omega
    case rel => exact ⟨(wrap64 (x6_1 + 1)), (x116000_1), (x116001_1), (x116002_1), (x116003_1), (x116004_1), (x116005_1), (x116006_1), (x116007_1), wr_, H', ⟨by have := HK1.out; omega⟩, ⟨wV_ HO_0.out⟩, ⟨wB_ BK115.out⟩, ⟨wb1_ HB.out GE115.out⟩⟩
   rw [if_pos c6] at H
   have c6b0 : (((rd_T38 l0 x6_1).f0).toList == a1.toList) = true := beq_iff_eq.mpr c6
   have c6b1 : (((rd_T38 l0 x6_1).f0).toList != a1.toList) = false := bne_eq_false_iff_eq.mpr c6
   clear c6
   simp only [Option.some.injEq, Prod.mk.injEq] at H
   obtain ⟨rfl, rfl, rfl, rfl, rfl, rfl, rfl, rfl, rfl, rfl⟩ := H
   have p116 : 0 ≤ (x6_1 : Int) := wd_
   have q116 : x6_1 < (l0.length : Int) := wd_
   obtain ⟨ad116, A116_8, c116_8, e116, hx116_0, hx116_1, hx116_2, hx116_3, hx116_4, hx116_5, hx116_6, hx116_7, hx116_8, hl116_8, hi116_8⟩ := at_T38 (Kd.V_reads' HO_0.out).2.2 x6_1 p116 q116
   cases e116
   obtain ⟨ce116, hce116, hMe116, hcc116⟩ := Kd.V_get HO_0.out z38 x6_1 p116 (by first | exact q116 | exact wd_ | (have e_ := (Kd.V_reads' HO_0.out).1; omega))
   obtain ⟨ua116_8, uc116_8, rfl, ul116_8, ge116_8⟩ := k38_openF hMe116
   have hv116_8 := hcc116 8 _ rfl
   rw [add_field _ _ 8 (by omega)] at hv116_8
   replace hv116_8 := Option.some.inj (hv116_8.symm.trans hx116_8)
   injection hv116_8 with hva_ hvn_ hvc_
   rw [hva_] at ge116_8
   rw [hvc_] at ul116_8
   have HL116_8 := A0_ (show Kd.V (Kd.int .u8) 5 _ w.heap.size _ _ ((rd_T38 l0 x6_1).f5) from Kd.V_mk ul116_8 ge116_8)
   clear hva_ hvn_ hvc_ ge116_8 ul116_8
   clear hcc116 hce116
   have HR116_8 := A0_ hi116_8
   have HC116_8 := A0_ hl116_8
   clear hi116_8 hl116_8
   replace p116 := eq_true p116
   replace q116 := eq_true q116
   have p117 : 0 ≤ (x6_1 : Int) := wd_
   have q117 : x6_1 < (l0.length : Int) := wd_
   obtain ⟨ad117, A117_8, c117_8, e117, hx117_0, hx117_1, hx117_2, hx117_3, hx117_4, hx117_5, hx117_6, hx117_7, hx117_8, hl117_8, hi117_8⟩ := at_T38 (Kd.V_reads' HO_0.out).2.2 x6_1 p117 q117
   obtain rfl : ad116 = ad117 := (by injection e117)
   obtain ⟨ce117, hce117, hMe117, hcc117⟩ := Kd.V_get HO_0.out z38 x6_1 p117 (by first | exact q117 | exact wd_ | (have e_ := (Kd.V_reads' HO_0.out).1; omega))
   obtain ⟨ua117_8, uc117_8, rfl, ul117_8, ge117_8⟩ := k38_openF hMe117
   have hv117_8 := hcc117 8 _ rfl
   rw [add_field _ _ 8 (by omega)] at hv117_8
   replace hv117_8 := Option.some.inj (hv117_8.symm.trans hx117_8)
   injection hv117_8 with hva_ hvn_ hvc_
   rw [hva_] at ge117_8
   rw [hvc_] at ul117_8
   have HL117_8 := A0_ (show Kd.V (Kd.int .u8) 5 _ w.heap.size _ _ ((rd_T38 l0 x6_1).f5) from Kd.V_mk ul117_8 ge117_8)
   clear hva_ hvn_ hvc_ ge117_8 ul117_8
   clear hcc117 hce117
   have HR117_8 := A0_ hi117_8
   have HC117_8 := A0_ hl117_8
   clear hi117_8 hl117_8
   replace p117 := eq_true p117
   replace q117 := eq_true q117
   have ea_ := Option.some.inj (hx116_8.symm.trans hx117_8)
   injection ea_ with ea_ en_ ec_
   subst ea_
   subst ec_
   clear en_
   have hcz7_0 : wr.cell? ⟨gb115, 0, none⟩ = some (.string x116000_1) := (bc_ BK115.out 0).trans rfl
   have hcz7_1 : wr.cell? ⟨gb115, 1, none⟩ = some (.string x116001_1) := (bc_ BK115.out 1).trans rfl
   have hcz7_2 : wr.cell? ⟨gb115, 2, none⟩ = some (.string x116002_1) := (bc_ BK115.out 2).trans rfl
   have hcz7_3 : wr.cell? ⟨gb115, 3, none⟩ = some (.int .u8 x116003_1) := (bc_ BK115.out 3).trans rfl
   have hcz7_4 : wr.cell? ⟨gb115, 4, none⟩ = some (.int .i64 x116004_1) := (bc_ BK115.out 4).trans rfl
   have hcz7_5 : wr.cell? ⟨gb115, 5, none⟩ = some (.int .i64 x116005_1) := (bc_ BK115.out 5).trans rfl
   have hcz7_6 : wr.cell? ⟨gb115, 6, none⟩ = some (.int .i64 x116006_1) := (bc_ BK115.out 6).trans rfl
   have hcz7_7 : wr.cell? ⟨gb115, 7, none⟩ = some (.int .i64 x116007_1) := (bc_ BK115.out 7).trans rfl
   have hcz7_8 : wr.cell? ⟨gb115, 8, none⟩ = some (.slice none 0 0) := (bc_ BK115.out 8).trans rfl
   have hfz7_0 := bf_ BK115.out 0
   have hfz7_1 := bf_ BK115.out 1
   have hfz7_2 := bf_ BK115.out 2
   have hfz7_3 := bf_ BK115.out 3
   have hfz7_4 := bf_ BK115.out 4
   have hfz7_5 := bf_ BK115.out 5
   have hfz7_6 := bf_ BK115.out 6
   have hfz7_7 := bf_ BK115.out 7
   have hfz7_8 := bf_ BK115.out 8
   go_wp2
   refine bodyPost_ret (results_ct rfl _ _ gb115 38 #[.string ((rd_T38 l0 x6_1).f0), .string ((rd_T38 l0 x6_1).f1), .string ((rd_T38 l0 x6_1).f2), .int .u8 ((rd_T38 l0 x6_1).f3), .int .i64 ((rd_T38 l0 x6_1).f4.f0), .int .i64 ((rd_T38 l0 x6_1).f4.f1), .int .i64 ((rd_T38 l0 x6_1).f4.f2), .int .i64 ((rd_T38 l0 x6_1).f4.f3), .slice A116_8 ((rd_T38 l0 x6_1).f5).length c116_8] (0, 0) _ rfl (by (with_reducible repeat (first | refine blk_drewN ?_ _ | refine blk_drew ?_ | refine blk_alloc ?_ _)); refine blk_put (cs := #[.string ((rd_T38 l0 x6_1).f0), .string ((rd_T38 l0 x6_1).f1), .string ((rd_T38 l0 x6_1).f2), .int .u8 ((rd_T38 l0 x6_1).f3), .int .i64 ((rd_T38 l0 x6_1).f4.f0), .int .i64 ((rd_T38 l0 x6_1).f4.f1), .int .i64 ((rd_T38 l0 x6_1).f4.f2), .int .i64 ((rd_T38 l0 x6_1).f4.f3), .slice none 0 0]) ?_ 8 _ rfl; (with_reducible repeat (first | refine blk_drewN ?_ _ | refine blk_drew ?_ | refine blk_alloc ?_ _)); refine blk_put (cs := #[.string ((rd_T38 l0 x6_1).f0), .string ((rd_T38 l0 x6_1).f1), .string ((rd_T38 l0 x6_1).f2), .int .u8 ((rd_T38 l0 x6_1).f3), .int .i64 ((rd_T38 l0 x6_1).f4.f0), .int .i64 ((rd_T38 l0 x6_1).f4.f1), .int .i64 ((rd_T38 l0 x6_1).f4.f2), .int .i64 x116007_1, .slice none 0 0]) ?_ 7 _ rfl; (with_reducible repeat (first | refine blk_drewN ?_ _ | refine blk_drew ?_ | refine blk_alloc ?_ _)); refine blk_put (cs := #[.string ((rd_T38 l0 x6_1).f0), .string ((rd_T38 l0 x6_1).f1), .string ((rd_T38 l0 x6_1).f2), .int .u8 ((rd_T38 l0 x6_1).f3), .int .i64 ((rd_T38 l0 x6_1).f4.f0), .int .i64 ((rd_T38 l0 x6_1).f4.f1), .int .i64 x116006_1, .int .i64 x116007_1, .slice none 0 0]) ?_ 6 _ rfl; (with_reducible repeat (first | refine blk_drewN ?_ _ | refine blk_drew ?_ | refine blk_alloc ?_ _)); refine blk_put (cs := #[.string ((rd_T38 l0 x6_1).f0), .string ((rd_T38 l0 x6_1).f1), .string ((rd_T38 l0 x6_1).f2), .int .u8 ((rd_T38 l0 x6_1).f3), .int .i64 ((rd_T38 l0 x6_1).f4.f0), .int .i64 x116005_1, .int .i64 x116006_1, .int .i64 x116007_1, .slice none 0 0]) ?_ 5 _ rfl; (with_reducible repeat (first | refine blk_drewN ?_ _ | refine blk_drew ?_ | refine blk_alloc ?_ _)); refine blk_put (cs := #[.string ((rd_T38 l0 x6_1).f0), .string ((rd_T38 l0 x6_1).f1), .string ((rd_T38 l0 x6_1).f2), .int .u8 ((rd_T38 l0 x6_1).f3), .int .i64 x116004_1, .int .i64 x116005_1, .int .i64 x116006_1, .int .i64 x116007_1, .slice none 0 0]) ?_ 4 _ rfl; (with_reducible repeat (first | refine blk_drewN ?_ _ | refine blk_drew ?_ | refine blk_alloc ?_ _)); refine blk_put (cs := #[.string ((rd_T38 l0 x6_1).f0), .string ((rd_T38 l0 x6_1).f1), .string ((rd_T38 l0 x6_1).f2), .int .u8 x116003_1, .int .i64 x116004_1, .int .i64 x116005_1, .int .i64 x116006_1, .int .i64 x116007_1, .slice none 0 0]) ?_ 3 _ rfl; (with_reducible repeat (first | refine blk_drewN ?_ _ | refine blk_drew ?_ | refine blk_alloc ?_ _)); refine blk_put (cs := #[.string ((rd_T38 l0 x6_1).f0), .string ((rd_T38 l0 x6_1).f1), .string x116002_1, .int .u8 x116003_1, .int .i64 x116004_1, .int .i64 x116005_1, .int .i64 x116006_1, .int .i64 x116007_1, .slice none 0 0]) ?_ 2 _ rfl; (with_reducible repeat (first | refine blk_drewN ?_ _ | refine blk_drew ?_ | refine blk_alloc ?_ _)); refine blk_put (cs := #[.string ((rd_T38 l0 x6_1).f0), .string x116001_1, .string x116002_1, .int .u8 x116003_1, .int .i64 x116004_1, .int .i64 x116005_1, .int .i64 x116006_1, .int .i64 x116007_1, .slice none 0 0]) ?_ 1 _ rfl; (with_reducible repeat (first | refine blk_drewN ?_ _ | refine blk_drew ?_ | refine blk_alloc ?_ _)); refine blk_put (cs := #[.string x116000_1, .string x116001_1, .string x116002_1, .int .u8 x116003_1, .int .i64 x116004_1, .int .i64 x116005_1, .int .i64 x116006_1, .int .i64 x116007_1, .slice none 0 0]) ?_ 0 _ rfl; (with_reducible repeat (first | refine blk_drewN ?_ _ | refine blk_drew ?_ | refine blk_alloc ?_ _)); exact BK115.out) Tryd.underlying38 rfl (by kernel_rfl)) rfl ?_
   exact ⟨_, we_, by (with_reducible repeat (first | apply Va_ | apply VN_ | apply V1_)); exact Kd.V_mono (Kd.V_far (p := ⟨gb115, 8, none⟩) (Kd.V_far (p := ⟨gb115, 7, none⟩) (Kd.V_far (p := ⟨gb115, 6, none⟩) (Kd.V_far (p := ⟨gb115, 5, none⟩) (Kd.V_far (p := ⟨gb115, 4, none⟩) (Kd.V_far (p := ⟨gb115, 3, none⟩) (Kd.V_far (p := ⟨gb115, 2, none⟩) (Kd.V_far (p := ⟨gb115, 1, none⟩) (Kd.V_far (p := ⟨gb115, 0, none⟩) (Kd.V_mono HL117_8.out (fun k_ hk => (⟨hk, hk.2⟩ : _ ∧ k_ ≠ gb115))) (fun _ hk => hk.2) (.string ((rd_T38 l0 x6_1).f0))) (fun _ hk => hk.2) (.string ((rd_T38 l0 x6_1).f1))) (fun _ hk => hk.2) (.string ((rd_T38 l0 x6_1).f2))) (fun _ hk => hk.2) (.int .u8 ((rd_T38 l0 x6_1).f3))) (fun _ hk => hk.2) (.int .i64 ((rd_T38 l0 x6_1).f4.f0))) (fun _ hk => hk.2) (.int .i64 ((rd_T38 l0 x6_1).f4.f1))) (fun _ hk => hk.2) (.int .i64 ((rd_T38 l0 x6_1).f4.f2))) (fun _ hk => hk.2) (.int .i64 ((rd_T38 l0 x6_1).f4.f3))) (fun _ hk => hk.2) (.slice A116_8 ((rd_T38 l0 x6_1).f5).length c116_8)) (fun _ hk => hk.1.1), wb1_ HB.out GE115.out⟩
end Go.Proofs.YtfmphccoeinhcaaDoor.Print

namespace Go.Proofs.YtfmphccoeinhcaaDoor
open Go.RowKit Go.Proofs.YtfmphccoeinhcaaDoor.Print Go.Proofs.YtfmphccoeinhcaaDoorW.PrintWords Go.Proofs.YtfmphccoeinhcaaDoorW.PrintLast Go.Proofs.YtfmphccoeinhcaaDoorW.PrintMore
set_option linter.unusedVariables false
theorem rfind_l (l : List Node) (p : ByteArray) (hlen : l.length ≤ 1000000000000) : ∀ (d i : Nat), i + d = l.length → Ev (fun k => bindleref08_Find.l0 k l p (i : Int)) (tupN (findF (l.drop i) p)) := by
 intro d
 induction d with
 | zero =>
  intro i hi
  rw [List.drop_of_length_le (by omega)]
  exact Ev.step (f := fun _ => some (tupN none)) (fun k => by rw [bindleref08_Find.l0, if_neg (by omega)]; rfl) (Ev.now _)
 | succ d ih =>
  intro i hi
  have hil : i < l.length := by omega
  have hx : rd_T38 l (i : Int) = l[i] := by rw [rdN_at l (i : Int) (by omega) (by omega)]; simp
  rw [List.drop_eq_getElem_cons hil]
  unfold findF
  rw [List.find?_cons]
  by_cases he : l[i].f0.toList = p.toList
  ·rw [decide_eq_true he]
   exact Ev.step (f := fun _ => some (tupN (some l[i]))) (fun k => by rw [bindleref08_Find.l0, if_pos (by omega), if_pos (by omega), hx, if_pos he]; rfl) (Ev.now _)
  ·rw [decide_eq_false he]
   refine Ev.step (fun k => ?_) (ih (i + 1) (by omega))
   rw [bindleref08_Find.l0, if_pos (by omega), if_pos (by omega), hx, if_neg he]
   rw [show wrap64 ((i : Int) + 1) = ((i + 1 : Nat) : Int) by unfold wrap64; omega]
theorem rfind_eq (l : List Node) (p : ByteArray) (hlen : l.length ≤ 1000000000000) : Ev (fun k => bindleref08_Find.f k l p) (tupN (findF l p)) := rfind_l l p hlen l.length 0 (by omega)
theorem RefFind_F (ok : Nat → Prop) (A0 : Option Addr) (c0 : Nat) (l : List Node) (p : ByteArray) (W : World) (hF : Kd.F k38 W ok A0 l.length l) (hc : l.length ≤ c0) (hlen : l.length ≤ 1000000000000) :
  Calls Tryd.prog 19 #[.slice A0 l.length c0, .string p] W fun e W' => ∃ x b A c, (match findF l p with | some y => x = y ∧ b = true | none => x = z38 ∧ b = false) ∧ e = .returned (.tuple #[.agg (nodeCells x (.slice A x.f5.length c)), .bool b]) ∧ x.f5.length ≤ c ∧ Kd.F (Kd.int .u8) W' (fun k => ok k ∨ W.heap.size ≤ k) A x.f5.length x.f5 ∧ Below W.heap.size W W' := by
 obtain ⟨k, hk⟩ := Ev.rounds (rfind_eq l p hlen)
 have hV : Kd.V k38 38 W W.heap.size ok (.slice A0 l.length c0) l := Kd.V_mk hc hF
 cases hf : findF l p with
 | none =>
  rw [hf] at hk
  refine (bindleref08_Find.calls k _ A0 c0 l p _ _ _ _ _ _ _ _ _ _ W hV hk).mono ?_
  rintro e w' ⟨v, rfl, hv, hb⟩
  obtain ⟨A, c, rfl⟩ := Kd.V_slice hv
  exact ⟨z38, false, A, c, ⟨rfl, rfl⟩, rfl, (Kd.V_reads' hv).2.1, Kd.V_F hv, hb⟩
 | some y =>
  rw [hf] at hk
  refine (bindleref08_Find.calls k _ A0 c0 l p _ _ _ _ _ _ _ _ _ _ W hV hk).mono ?_
  rintro e w' ⟨v, rfl, hv, hb⟩
  obtain ⟨A, c, rfl⟩ := Kd.V_slice hv
  exact ⟨y, true, A, c, ⟨rfl, rfl⟩, rfl, (Kd.V_reads' hv).2.1, Kd.V_F hv, hb⟩
theorem RefFind_calls (A0 : Option Addr) (c0 : Nat) (l : List Node) (p : ByteArray) (W : World) (hC : Kd.C k38 W A0 l.length l) (hc : l.length ≤ c0) (hlen : l.length ≤ 1000000000000) :
  Calls Tryd.prog 19 #[.slice A0 l.length c0, .string p] W fun e W' => ∃ x b A c, (match findF l p with | some y => x = y ∧ b = true | none => x = z38 ∧ b = false) ∧ e = .returned (.tuple #[.agg (nodeCells x (.slice A x.f5.length c)), .bool b]) ∧ x.f5.length ≤ c ∧ Kd.C (Kd.int .u8) W' A x.f5.length x.f5 ∧ Below W.heap.size W W' := by
 refine (RefFind_F _ A0 c0 l p W (Kd.C_F nodeHeap hC) hc hlen).mono ?_
 rintro e w' ⟨x, b, A, c, h1, h2, h3, h4, h5⟩
 exact ⟨x, b, A, c, h1, h2, h3, Kd.F_now h4, h5⟩
end Go.Proofs.YtfmphccoeinhcaaDoor

namespace Go.Proofs.YtfmphccoeinhcaaDoor
open Go.RowKit Go.Maps Go.Proofs.YtfmphccoeinhcaaDoor.Print Go.Proofs.YtfmphccoeinhcaaDoorW.PrintWords Go.Proofs.YtfmphccoeinhcaaDoorW.PrintLast Go.Proofs.YtfmphccoeinhcaaDoorW.PrintMore
set_option linter.unusedVariables false
structure R4 (w6 : World) (xs ys : List Mem) (o8 : Option Nat) (vx vy : Value) (w : World) : Prop where
 B : Below w6.heap.size w6 w
 nx : Kd.N k27 27 w w6.heap.size (fun k => True ∧ some k ≠ vy.ownBlock) vx xs
 ny : Kd.N k27 27 w w6.heap.size (fun k => True ∧ some k ≠ vx.ownBlock) vy ys
 g8 : ∀ b, o8 = some b → w.heap[b]? = some (.cells #[.int .i64 0, .int .i64 0] 34 (0, 0)) ∧ w6.heap.size ≤ b
abbrev nilV : Value := .slice none 0 0
theorem own_nil : nilV.ownBlock = none := rfl
theorem r4_lt {w : World} {b : Nat} {o : Obj} (h : w.heap[b]? = some o) : b < w.heap.size := (Array.getElem?_eq_some_iff.1 h).1
theorem R4.start {w6 w : World} (hb : Below w6.heap.size w6 w) : R4 w6 [] [] none nilV nilV w :=
 ⟨hb, Kd.N_nil _ _ _ _ _, Kd.N_nil _ _ _ _ _, fun b hb => by cases hb⟩
section
variable {w6 w w1 : World} {xs ys : List Mem} {o8 : Option Nat} {vx vy v1 : Value} {o : Oper} {a : Act} {K : Act → World → Prop} {Q : Exit → Act → World → Prop} {P : Program} {ops : Array Oper}
theorem R4.g8_grown (h : R4 w6 xs ys o8 vx vy w) {row : Option Nat} (hg : w.grownBy w1 row) (hne : ∀ b cs, w.heap[b]? = some (.cells cs 34 (0, 0)) → some b ≠ row) : ∀ b, o8 = some b → w1.heap[b]? = some (.cells #[.int .i64 0, .int .i64 0] 34 (0, 0)) ∧ w6.heap.size ≤ b := fun b hb => by
 obtain ⟨h1, h2⟩ := h.g8 b hb
 exact ⟨(hg.block b (r4_lt h1) (hne b _ h1)).trans h1, h2⟩
theorem R4.none_ (h : R4 w6 [] ys o8 nilV vy w) {N' : Tmp} (hw : Region.wanted o (yielded ops a.tmps) = true) (hd : o.dst = some N') (hrun : (execOp a.eval o).run P w = .ok (.value (.slice (some ⟨w.heap.size, 0, none⟩) 0 0)) (w.alloc (.cells #[] 27)))
  (hk : ∀ v1 w1, R4 w6 [] ys o8 v1 vy w1 → K (a.put (some N') v1) w1) : if Region.wanted o (yielded ops a.tmps) = true then Oper.wp P o a w K Q else K (a.put o.dst undef) w := by
 refine Kd.N_lit_step k27 (w0 := w6) w6.heap.size 27 hw hd (xs := ([] : List Mem)) (inner := []) (ok := fun k => True ∧ some k ≠ vy.ownBlock) (okp := fun _ => False) hrun (Reps.none _ _) (fun _ hk => hk.elim) ⟨trivial, fun e => absurd (Kd.N_lt h.ny _ e.symm) (Nat.lt_irrefl _)⟩ h.B h.B.size (by simp) ?_
 intro v1 w1 hN hB hg hat
 rw [hd]
 refine hk v1 w1 ⟨hB, hN, Kd.N_after (u := nilV) h.ny (by rw [own_nil]; exact hg) (.inr hat), h.g8_grown hg (fun b cs _ => by simp)⟩
theorem R4.one_ (h : R4 w6 xs [] o8 vx nilV w) {N' : Tmp} {m : Mem} {A7 : Option Addr} {c7 : Nat} (hw : Region.wanted o (yielded ops a.tmps) = true) (hd : o.dst = some N') (hC7 : Kd.C (Kd.int .u8) w6 A7 m.f4.length m.f4) (hc7 : m.f4.length ≤ c7)
  (hrun : (execOp a.eval o).run P w = .ok (.value (.slice (some ⟨w.heap.size, 0, none⟩) 1 1)) (w.alloc (.cells #[.string m.f0, .string m.f1, .int .u8 m.f2, .int .i64 m.f3.f0, .int .i64 m.f3.f1, .int .i64 m.f3.f2, .int .i64 m.f3.f3, .slice A7 m.f4.length c7] 27)))
  (hk : ∀ v1 w1, R4 w6 xs [m] o8 vx v1 w1 → K (a.put (some N') v1) w1) : if Region.wanted o (yielded ops a.tmps) = true then Oper.wp P o a w K Q else K (a.put o.dst undef) w := by
 have hF : Kd.F (Kd.int .u8) w (fun k => k < w6.heap.size) A7 m.f4.length m.f4 := Kd.F_below (Kd.C_F (Kd.heap_int _) hC7) h.B
 have hbase : ∀ k, k < w6.heap.size → some k ≠ vx.ownBlock := fun k hk e => by have := Kd.N_base h.nx k e.symm; omega
 refine Kd.N_lit_step k27 (w0 := w6) w6.heap.size 27 hw hd (xs := [m]) (inner := [.string m.f0, .string m.f1, .int .u8 m.f2, .int .i64 m.f3.f0, .int .i64 m.f3.f1, .int .i64 m.f3.f2, .int .i64 m.f3.f3, .slice A7 m.f4.length c7]) (ok := fun k => True ∧ some k ≠ vx.ownBlock) (okp := fun k => k < w6.heap.size) hrun (Reps_cons (k27_mkF _ _ m hc7 hF) rfl (Reps.none _ _)) (fun k hk => ⟨trivial, hbase k hk⟩) ⟨trivial, fun e => absurd (Kd.N_lt h.nx _ e.symm) (Nat.lt_irrefl _)⟩ h.B h.B.size (by simp) ?_
 intro v1 w1 hN hB hg hat
 rw [hd]
 refine hk v1 w1 ⟨hB, Kd.N_after (u := nilV) h.nx (by rw [own_nil]; exact hg) (.inr hat), hN, h.g8_grown hg (fun b cs _ => by simp)⟩
theorem R4.list_ (h : R4 w6 [] ys o8 vx vy w) {l : List Mem} {A0 : Option Addr} {c0 : Nat} (s x : Operand) {N' : Tmp} (hd : o.dst = some N') (hw : Region.wanted o (yielded ops a.tmps) = true) (ho : o.op = .call { callee := .builtin .append, args := #[s, x], argTypes := #[22, 22] })
  (hs : a.eval s = vx) (hx : a.eval x = .slice A0 l.length c0) (hC : Kd.C k27 w6 A0 l.length l) (hl : l.length ≤ 1000000)
  (hk : ∀ v1 w1, R4 w6 l ys o8 v1 vy w1 → K (a.put (some N') v1) w1) : if Region.wanted o (yielded ops a.tmps) = true then Oper.wp Tryd.prog o a w K Q else K (a.put o.dst undef) w := by
 have hF : Kd.F k27 w (fun k => k < w6.heap.size) A0 l.length l := Kd.F_below (Kd.C_F memHeap hC) h.B
 have hbx : ∀ k, k < w6.heap.size → some k ≠ vx.ownBlock := fun k hk e => by have := Kd.N_base h.nx k e.symm; omega
 have hby : ∀ k, k < w6.heap.size → some k ≠ vy.ownBlock := fun k hk e => by have := Kd.N_base h.ny k e.symm; omega
 refine Kd.N_append_rows_step k27 (w0 := w6) w6.heap.size hw s x 22 27 _ 96 ho Tryd.underlying22 infoMem rfl (by decide) (by decide) vx [] l A0 l.length c0 (fun k => True ∧ some k ≠ vy.ownBlock) (fun k => k < w6.heap.size) hs hx h.nx hF (fun k hk => ⟨⟨trivial, hby k hk⟩, hbx k hk⟩) (fun k hk => ⟨trivial, fun e => absurd (Kd.N_lt h.ny _ e.symm) (by omega)⟩) h.B h.B.size (by simp; omega) ?_
 intro v1 w1 hN hB hg hat
 rw [hd]
 rw [List.nil_append] at hN
 exact hk v1 w1 ⟨hB, hN, Kd.N_after h.ny hg hat, h.g8_grown hg (fun b cs hb => Kd.N_ne h.nx hb (by decide))⟩
theorem R4.box_ (h : R4 w6 xs ys none vx vy w) {N' : Tmp} (hw : Region.wanted o (yielded ops a.tmps) = true) (hd : o.dst = some N') (hrun : (execOp a.eval o).run P w = .ok (.value (.pointer (some ⟨w.heap.size, 0, none⟩))) (w.alloc (.cells #[.int .i64 0, .int .i64 0] 34)))
  (hk : ∀ b w1, R4 w6 xs ys (some b) vx vy w1 → K (a.put (some N') (.pointer (some ⟨b, 0, none⟩))) w1) : if Region.wanted o (yielded ops a.tmps) = true then Oper.wp P o a w K Q else K (a.put o.dst undef) w := by
 have hb : Below w.heap.size w (w.alloc (.cells #[.int .i64 0, .int .i64 0] 34)) := below_alloc (Below.refl _ _) _
 refine value_ hw rfl hrun ?_
 rw [hd]
 refine hk w.heap.size _ ⟨h.B.trans (hb.mono h.B.size), Kd.N_below h.nx hb, Kd.N_below h.ny hb, fun b e => ?_⟩
 cases e
 exact ⟨blk_new _ _, h.B.size⟩
structure R5 (w6 : World) (ls : List Mem) (o8 : Option Nat) (v : Value) (w : World) : Prop where
 B : Below w6.heap.size w6 w
 C : ∃ A c, v = .slice A ls.length c ∧ ls.length ≤ c ∧ Kd.C k27 w A ls.length ls
 g8 : ∀ b, o8 = some b → w.heap[b]? = some (.cells #[.int .i64 0, .int .i64 0] 34 (0, 0)) ∧ w6.heap.size ≤ b
theorem R4.both_ (h : R4 w6 xs ys o8 vx vy w) (s x : Operand) {N' : Tmp} (hd : o.dst = some N') (hw : Region.wanted o (yielded ops a.tmps) = true) (ho : o.op = .call { callee := .builtin .append, args := #[s, x], argTypes := #[22, 22] })
  (hs : a.eval s = vx) (hx : a.eval x = vy) (hl : xs.length + ys.length ≤ 1000000)
  (hk : ∀ v1 w1, R5 w6 (xs ++ ys) o8 v1 w1 → K (a.put (some N') v1) w1) : if Region.wanted o (yielded ops a.tmps) = true then Oper.wp Tryd.prog o a w K Q else K (a.put o.dst undef) w := by
 obtain ⟨Ay, cy, e⟩ := Kd.N_slice h.ny
 have hny := h.ny
 rw [e] at hny
 refine Kd.N_append_rows_step k27 (w0 := w6) w6.heap.size hw s x 22 27 _ 96 ho Tryd.underlying22 infoMem rfl (by decide) (by decide) vx xs ys Ay ys.length cy (fun _ => True) (fun k => True ∧ some k ≠ vx.ownBlock) hs (by rw [hx, e]) (Kd.N_mono h.nx (fun _ _ => trivial)) (Kd.N_F hny) (fun k hk => hk) (fun _ _ => trivial) h.B h.B.size (by omega) ?_
 intro v1 w1 hN hB hg hat
 rw [hd]
 obtain ⟨A, c, e1, e2, e3⟩ := Kd.N_reads hN
 exact hk v1 w1 ⟨hB, ⟨A, c, e1, e2, e3⟩, h.g8_grown hg (fun b cs hb => Kd.N_ne h.nx hb (by decide))⟩
theorem R5.box_ {ls : List Mem} {v : Value} (h : R5 w6 ls none v w) {N' : Tmp} (hw : Region.wanted o (yielded ops a.tmps) = true) (hd : o.dst = some N') (hrun : (execOp a.eval o).run P w = .ok (.value (.pointer (some ⟨w.heap.size, 0, none⟩))) (w.alloc (.cells #[.int .i64 0, .int .i64 0] 34)))
  (hk : ∀ b w1, R5 w6 ls (some b) v w1 → K (a.put (some N') (.pointer (some ⟨b, 0, none⟩))) w1) : if Region.wanted o (yielded ops a.tmps) = true then Oper.wp P o a w K Q else K (a.put o.dst undef) w := by
 have hb : Below w.heap.size w (w.alloc (.cells #[.int .i64 0, .int .i64 0] 34)) := below_alloc (Below.refl _ _) _
 obtain ⟨A, c, e1, e2, e3⟩ := h.C
 refine value_ hw rfl hrun ?_
 rw [hd]
 refine hk w.heap.size _ ⟨h.B.trans (hb.mono h.B.size), ⟨A, c, e1, e2, Kd.C_below e3 hb⟩, fun b e => ?_⟩
 cases e
 exact ⟨blk_new _ _, h.B.size⟩
structure R6 (w6 : World) (ul : List Node) (o8 : Option Nat) (A : Option Addr) (c : Nat) (w : World) : Prop where
 B : Below w6.heap.size w6 w
 C : Kd.F k38 w (fun k => ∀ b, o8 = some b → k ≠ b) A ul.length ul
 hc : ul.length ≤ c
 g8 : ∀ b, o8 = some b → w.heap[b]? = some (.cells #[.int .i64 0, .int .i64 0] 34 (0, 0)) ∧ w6.heap.size ≤ b
theorem R6.box_ {ul : List Node} {A : Option Addr} {c : Nat} (h : R6 w6 ul none A c w) {N' : Tmp} (hw : Region.wanted o (yielded ops a.tmps) = true) (hd : o.dst = some N') (hrun : (execOp a.eval o).run P w = .ok (.value (.pointer (some ⟨w.heap.size, 0, none⟩))) (w.alloc (.cells #[.int .i64 0, .int .i64 0] 34)))
  (hk : ∀ b w1, R6 w6 ul (some b) A c w1 → K (a.put (some N') (.pointer (some ⟨b, 0, none⟩))) w1) : if Region.wanted o (yielded ops a.tmps) = true then Oper.wp P o a w K Q else K (a.put o.dst undef) w := by
 have hb : Below w.heap.size w (w.alloc (.cells #[.int .i64 0, .int .i64 0] 34)) := below_alloc (Below.refl _ _) _
 have hF : Kd.F k38 w (fun k => ∀ b, some w.heap.size = some b → k ≠ b) A ul.length ul := Kd.F_mono (Kd.F_bound h.C) (fun k hk b e => by cases e; have := hk.2; omega)
 refine value_ hw rfl hrun ?_
 rw [hd]
 refine hk w.heap.size _ ⟨h.B.trans (hb.mono h.B.size), Kd.F_below hF hb, h.hc, fun b e => ?_⟩
 cases e
 exact ⟨blk_new _ _, h.B.size⟩
theorem R6.stored {ul : List Node} {b : Nat} {A : Option Addr} {c : Nat} (h : R6 w6 ul (some b) A c w) (e n : Int) : Below w6.heap.size w6 ((w.setCell ⟨b, 0, none⟩ (.int .i64 e)).setCell ⟨b, 1, none⟩ (.int .i64 n)) ∧ Kd.C k38 ((w.setCell ⟨b, 0, none⟩ (.int .i64 e)).setCell ⟨b, 1, none⟩ (.int .i64 n)) A ul.length ul ∧
  ((w.setCell ⟨b, 0, none⟩ (.int .i64 e)).setCell ⟨b, 1, none⟩ (.int .i64 n)).heap[b]? = some (.cells #[.int .i64 e, .int .i64 n] 34 (0, 0)) := by
 obtain ⟨hb, hge⟩ := h.g8 b rfl
 refine ⟨below_set (below_set h.B hge) hge, Kd.F_now (Kd.F_far (p := ⟨b, 1, none⟩) (Kd.F_far (p := ⟨b, 0, none⟩) h.C (fun k hk => hk b rfl) _) (fun k hk => hk b rfl) _), ?_⟩
 have h1 := blk_put (cs' := #[.int .i64 e, .int .i64 0]) hb 0 (.int .i64 e) rfl
 exact blk_put (cs' := #[.int .i64 e, .int .i64 n]) h1 1 (.int .i64 n) rfl
end
end Go.Proofs.YtfmphccoeinhcaaDoor

namespace Go.Proofs.YtfmphccoeinhcaaDoor
open Go.RowKit Go.Maps Go.Proofs.YtfmphccoeinhcaaDoor.Print Go.Proofs.YtfmphccoeinhcaaDoorW.PrintWords Go.Proofs.YtfmphccoeinhcaaDoorW.PrintLast Go.Proofs.YtfmphccoeinhcaaDoorW.PrintMore
set_option linter.unusedVariables false
set_option linter.unusedSimpArgs false
theorem blk_lt2 {w : World} {b : Nat} {o : Obj} (h : w.heap[b]? = some o) : b < w.heap.size := (Array.getElem?_eq_some_iff.1 h).1
abbrev memArr (x : Mem) (A : Option Addr) (c : Nat) : Array Value := #[.string x.f0, .string x.f1, .int .u8 x.f2, .int .i64 x.f3.f0, .int .i64 x.f3.f1, .int .i64 x.f3.f2, .int .i64 x.f3.f3, .slice A x.f4.length c]
def BoxAt (m : Mem) (A : Option Addr) (c : Nat) (b : Nat) (w : World) : Prop := w.heap[b]? = some (.cells (memArr m A c) 27 (0, 0))
theorem box_at {m : Mem} {A : Option Addr} {c nd : Nat} {W w1 : World} (h : w1 = (W.alloc (.cells (memArr m A c) 27)).drewN nd) : BoxAt m A c W.heap.size w1 := by
 rw [h]
 have hb : Below (W.alloc (.cells (memArr m A c) 27)).heap.size (W.alloc (.cells (memArr m A c) 27)) ((W.alloc (.cells (memArr m A c) 27)).drewN nd) := pw_below_drewN (Below.refl _ _) _
 exact (hb.block _ (by rw [World.size_alloc]; omega)).trans (blk_new W _)
theorem box_keep {m : Mem} {A : Option Addr} {c b : Nat} {w w1 : World} (h : BoxAt m A c b w) (hb : Below w.heap.size w w1) : BoxAt m A c b w1 := (hb.block _ (blk_lt2 h)).trans h
theorem box_grown {m : Mem} {A : Option Addr} {c b : Nat} {w w1 : World} (h : BoxAt m A c b w) (hg : w.grownBy w1 none) : BoxAt m A c b w1 := (hg.block _ (blk_lt2 h) (by simp)).trans h
theorem mem_facts {m : Mem} {A : Option Addr} {c b : Nat} {w : World} (h : BoxAt m A c b w) : w.cell? ⟨b, 0, none⟩ = some (.string m.f0) ∧ w.cell? ⟨b, 1, none⟩ = some (.string m.f1) ∧ w.cell? ⟨b, 2, none⟩ = some (.int .u8 m.f2) ∧ w.cell? ⟨b, 3, none⟩ = some (.int .i64 m.f3.f0) ∧ w.cell? ⟨b, 4, none⟩ = some (.int .i64 m.f3.f1) ∧ w.cell? ⟨b, 5, none⟩ = some (.int .i64 m.f3.f2) ∧ w.cell? ⟨b, 6, none⟩ = some (.int .i64 m.f3.f3) ∧ w.cell? ⟨b, 7, none⟩ = some (.slice A m.f4.length c) := by
 unfold BoxAt at h
 refine ⟨?_, ?_, ?_, ?_, ?_, ?_, ?_, ?_⟩ <;> · unfold World.cell?; dsimp only; rw [h]; rfl
theorem mem_reps {w : World} {x : Mem} {A : Option Addr} {c : Nat} (hC : Kd.C (Kd.int .u8) w A x.f4.length x.f4) (hc : x.f4.length ≤ c) :
  Reps (Kd.FK k27 w (fun k => k < w.heap.size)) (k27).sz [x] [.string x.f0, .string x.f1, .int .u8 x.f2, .int .i64 x.f3.f0, .int .i64 x.f3.f1, .int .i64 x.f3.f2, .int .i64 x.f3.f3, .slice A x.f4.length c] :=
 Reps_cons (k27_mkF _ _ x hc (Kd.C_F (Kd.heap_int _) hC)) rfl (Reps.none _ _)
theorem enter_step {P : Program} {ops : Array Oper} {Q : Exit → Act → World → Prop} {rest : List Oper} {o : Oper} {a : Act} {w : World} {f : FuncId} {fn : Func} {ars : Array Operand} {ts : Array TypeId} (hf : P.funcs[f]? = some fn) (hname : (fn.name == "runtime.NumGoroutine") = false) (hb : fn.body.isSome = true) (args : Array Value)
  (hop : o.op = .call { callee := .value (.func f), args := ars, argTypes := ts }) (hargs : ars.map a.eval = args) (hw : Region.wanted o (yielded ops a.tmps) = true)
  (h : Calls P f args w fun e w' => ∃ v, e = .returned v ∧ wpList P ops Q rest (a.put o.dst v) w') : wpList P ops Q (o :: rest) a w :=
 wpList_step fun K hK => goes_ (N := o.dst) hf hname hb args hw rfl hop hargs (h.mono fun e w' ⟨v, e1, hk⟩ => ⟨v, e1, hK _ _ hk⟩)
structure LMid (W : World) (m : Mem) (A7 : Option Addr) (c7 : Nat) (A5 : Option Addr) (tl : List Node) (b6 : Nat) (e0 n0 : Int) (Au : Option Addr) (cu : Nat) (ul : List Node) (b8 : Nat) (e1 n1 : Int) (wx : World) : Prop where
 B : Below W.heap.size W wx
 X : BoxAt m A7 c7 W.heap.size wx
 T : Kd.C k38 wx A5 tl.length tl
 F : wx.heap[b6]? = some (.cells #[.int .i64 e0, .int .i64 n0] 34 (0, 0))
 U : Kd.C k38 wx Au ul.length ul
 hu : ul.length ≤ cu
 G : wx.heap[b8]? = some (.cells #[.int .i64 e1, .int .i64 n1] 34 (0, 0))
theorem fault_facts {w : World} {b : Nat} {e n : Int} (h : w.heap[b]? = some (.cells #[.int .i64 e, .int .i64 n] 34 (0, 0))) : w.cell? ⟨b, 0, none⟩ = some (.int .i64 e) ∧ w.cell? ⟨b, 1, none⟩ = some (.int .i64 n) := by
 refine ⟨?_, ?_⟩ <;> · unfold World.cell?; dsimp only; rw [h]; rfl
theorem LMid.below {W m A7 c7 A5 tl b6 e0 n0 Au cu ul b8 e1 n1 wx wy} (h : LMid W m A7 c7 A5 tl b6 e0 n0 Au cu ul b8 e1 n1 wx) (hb : Below wx.heap.size wx wy) : LMid W m A7 c7 A5 tl b6 e0 n0 Au cu ul b8 e1 n1 wy :=
 ⟨h.B.trans (hb.mono h.B.size), box_keep h.X hb, Kd.C_below h.T hb, (hb.block _ (blk_lt2 h.F)).trans h.F, Kd.C_below h.U hb, h.hu, (hb.block _ (blk_lt2 h.G)).trans h.G⟩
def LRel (W : World) (m : Mem) (A7 : Option Addr) (c7 : Nat) (A5 : Option Addr) (tl : List Node) (b6 : Nat) (n0 : Int) (Au : Option Addr) (cu : Nat) (ul : List Node) (b8 : Nat) (n1 : Int) (i : Int) (wr : World) : Prop := 0 ≤ i ∧ i ≤ tl.length ∧ LMid W m A7 c7 A5 tl b6 0 n0 Au cu ul b8 0 n1 wr
def UFindPost (ul : List Node) (p : ByteArray) (W : World) (e : Ending) (W' : World) : Prop := ∃ y b A c, (∀ y', findF ul p = some y' → y = y' ∧ b = true) ∧ e = .returned (.tuple #[.agg #[.string y.f0, .string y.f1, .string y.f2, .int .u8 y.f3, .int .i64 y.f4.f0, .int .i64 y.f4.f1, .int .i64 y.f4.f2, .int .i64 y.f4.f3, .slice A y.f5.length c], .bool b]) ∧ y.f5.length ≤ c ∧ Kd.C (Kd.int .u8) W' A y.f5.length y.f5 ∧ Below W.heap.size W W'
theorem UFind (A0 : Option Addr) (c0 : Nat) (l : List Node) (p : ByteArray) (W : World) (hC : Kd.C k38 W A0 l.length l) (hc : l.length ≤ c0) (hlen : l.length ≤ 1000000000000) : Calls Tryd.prog 19 #[.slice A0 l.length c0, .string p] W (UFindPost l p W) := by
 refine (RefFind_calls A0 c0 l p W hC hc hlen).mono ?_
 rintro e w' ⟨x, b, A, c, h1, h2, h3, h4, h5⟩
 refine ⟨x, b, A, c, fun y' hy => ?_, h2, h3, h4, h5⟩
 rw [hy] at h1
 exact h1
theorem node_facts {w : World} {b : Nat} {y : Node} {v : Value} (h : w.heap[b]? = some (.cells #[.string y.f0, .string y.f1, .string y.f2, .int .u8 y.f3, .int .i64 y.f4.f0, .int .i64 y.f4.f1, .int .i64 y.f4.f2, .int .i64 y.f4.f3, v] 38 (0, 0))) :
  w.cell? ⟨b, 0, none⟩ = some (.string y.f0) ∧ w.cell? ⟨b, 1, none⟩ = some (.string y.f1) ∧ w.cell? ⟨b, 2, none⟩ = some (.string y.f2) ∧ w.cell? ⟨b, 3, none⟩ = some (.int .u8 y.f3) ∧ w.cell? ⟨b, 4, none⟩ = some (.int .i64 y.f4.f0) ∧ w.cell? ⟨b, 5, none⟩ = some (.int .i64 y.f4.f1) ∧ w.cell? ⟨b, 6, none⟩ = some (.int .i64 y.f4.f2) ∧ w.cell? ⟨b, 7, none⟩ = some (.int .i64 y.f4.f3) ∧ w.cell? ⟨b, 8, none⟩ = some v := by
 refine ⟨?_, ?_, ?_, ?_, ?_, ?_, ?_, ?_, ?_⟩ <;> · unfold World.cell?; dsimp only; rw [h]; rfl
def LFoldPost (l : List Mem) (W : World) (e : Ending) (W' : World) : Prop := ∃ A c, e = .returned (.tuple #[.slice A (foldF l).1.length c, .agg #[.int .i64 (foldF l).2.1, .int .i64 (foldF l).2.2]]) ∧ Kd.C k38 W' A (foldF l).1.length (foldF l).1 ∧ (foldF l).1.length ≤ c ∧ Below W.heap.size W W'
theorem LFold (A0 : Option Addr) (c0 : Nat) (l : List Mem) (W : World) (hT : Tabs W) (hC : Kd.C k27 W A0 l.length l) (hz : MemsZ l) : Calls Tryd.prog 18 #[.slice A0 l.length c0] W (LFoldPost l W) := by
 refine (Fold_calls A0 c0 l W hT hC hz).mono ?_
 rintro e w' ⟨v, rfl, hV, hB, _⟩
 obtain ⟨A, c, rfl⟩ := Kd.V_slice hV
 obtain ⟨h1, h2, h3⟩ := Kd.V_reads' hV
 exact ⟨A, c, rfl, h3, h2, hB⟩
set_option maxRecDepth 100000 in
set_option maxHeartbeats 8000000 in
theorem Last_calls (A0 : Option Addr) (c0 : Nat) (l : List Mem) (m : Mem) (A7 : Option Addr) (c7 : Nat) (W : World) (hT : Tabs W) (hC : Kd.C k27 W A0 l.length l) (hc : l.length ≤ c0) (hlen : l.length ≤ 140737488351232) (hC7 : Kd.C (Kd.int .u8) W A7 m.f4.length m.f4) (hc7 : m.f4.length ≤ c7) (hm : MemR m) :
  Calls Tryd.prog 3 #[.slice A0 l.length c0, .agg (memArr m A7 c7)] W fun e W' => e = .returned (.bool true) ∧ Below W.heap.size W W' := by
 have HT := Aside0.mk (fun (w1 : World) (hb : Below W.heap.size W w1) => (⟨Tabs.below hT hb⟩ : Aside0 (Tabs w1)))
 have HC := Aside0.mk hC
 have HC7 := Aside0.mk hC7
 have HCL := Aside0.mk hc
 have HCL7 := Aside0.mk hc7
 obtain ⟨b1, he1, hl1⟩ := light_eq l hlen
 obtain ⟨k1, hk1⟩ := Ev.rounds he1
 have HK1 := Aside0.mk hk1
 clear hT hC hC7 hc hc7 he1 hk1
 generalize hpost : (fun (e : Ending) (W' : World) => e = .returned (.bool true) ∧ Below W.heap.size W W') = Q
 have hQ := Aside0.mk hpost
 clear hpost
 unfold memArr
 cases b1 with
 | false =>
  go_enter Tryd.func3, Tryd.ntmps3
  go_wp2_with (first
   | (go_at_call 15; refine (bindlelaw10_light.calls k1 A0 c0 l false _ (Kd.C_alloc HC.out _) HCL.out HK1.out).mono ?_; rintro e w1 ⟨rfl, hd⟩; obtain ⟨nd, hd⟩ := hd.out; have hx1 := box_at hd; have HB1 : Aside0 (Below W.heap.size W w1) := ⟨(by rw [hd]; exact pw_below_drewN (below_alloc (Below.refl _ _) _) _)⟩; have HX1 := Aside0.mk hx1; obtain ⟨m0, m1, m2, m3, m4, m5, m6, m7⟩ := mem_facts hx1; clear hd hx1)
   | (go_at_call 17; refine (bindlelaw10_answers.calls true _ (HT.out _ HB1.out) rfl).mono ?_; rintro e w9 ⟨rfl, hbe⟩; have HBE := Aside0.mk hbe; clear hbe)
   | fail)
  rw [← hQ.out]
  exact ⟨rfl, HB1.out.trans (HBE.out.mono HB1.out.size)⟩
 | true =>
  obtain ⟨b2, he2, hl2⟩ := light_eq [m] (by simp)
  obtain ⟨k2, hk2⟩ := Ev.rounds he2
  have HK2 := Aside0.mk hk2
  clear he2 hk2
  cases b2 with
  | false =>
   go_enter Tryd.func3, Tryd.ntmps3
   go_wp2_with (first
    | (go_at_call 15; refine (bindlelaw10_light.calls k1 A0 c0 l true _ (Kd.C_alloc HC.out _) HCL.out HK1.out).mono ?_; rintro e w1 ⟨rfl, hd⟩; obtain ⟨nd, hd⟩ := hd.out; have hx1 := box_at hd; have HB1 : Aside0 (Below W.heap.size W w1) := ⟨(by rw [hd]; exact pw_below_drewN (below_alloc (Below.refl _ _) _) _)⟩; have HX1 := Aside0.mk hx1; obtain ⟨m0, m1, m2, m3, m4, m5, m6, m7⟩ := mem_facts hx1; clear hd hx1)
    | ((with_reducible refine gate_dst (N := 19) rfl ?_); refine wpList_step fun K hK => ?_; refine Kd.N_lit_step k27 (w0 := W) W.heap.size 27 ?hw (N' := 19) rfl (xs := [m]) (inner := [.string m.f0, .string m.f1, .int .u8 m.f2, .int .i64 m.f3.f0, .int .i64 m.f3.f1, .int .i64 m.f3.f2, .int .i64 m.f3.f3, .slice A7 m.f4.length c7]) (ok := fun _ => True) (okp := fun k => k < w1.heap.size) ?hr ?hp (fun _ _ => trivial) trivial HB1.out HB1.out.size (by simp) ?_; (case hw => go_simp); (case hr => first | (go_simp; done) | (go_simp; rfl)); (case hp => exact mem_reps (Kd.C_below HC7.out HB1.out) HCL7.out); intro v2 w2 hN2 hB2 hg2 hat2; refine hK _ _ ?_; clear hK K; obtain ⟨A9, c9, rfl⟩ := Kd.N_slice hN2; obtain ⟨hq9, hc9, hC9⟩ := Kd.N_reads' hN2; have HC9 := Aside0.mk hC9; have HCC9 := Aside0.mk hc9; have HB2 := Aside0.mk hB2; have HX2 := Aside0.mk (box_grown HX1.out hg2); obtain ⟨n0, n1, n2, n3, n4, n5, n6, n7⟩ := mem_facts HX2.out; clear hN2 hB2 hg2 hat2 hq9 hc9 hC9 m0 m1 m2 m3 m4 m5 m6 m7)
    | ((with_reducible refine gate_dst (N := 20) rfl ?_); refine enter_step Tryd.func15 (by kernel_rfl) rfl #[.slice A9 [m].length c9] rfl ?ha ?hw ?_; (case hw => go_simp); (case ha => (try simp only [List.map_toArray, List.map_cons, List.map_nil]); first | done | rfl); refine (bindlelaw10_light.calls k2 A9 c9 [m] false _ HC9.out HCC9.out HK2.out).mono ?_; rintro e w3 ⟨rfl, hd⟩; refine ⟨_, rfl, ?_⟩; obtain ⟨nd3, hd⟩ := hd.out; have hb3 : Below w2.heap.size w2 w3 := (by rw [hd]; exact pw_below_drewN (Below.refl _ _) _); have HB3 := Aside0.mk (HB2.out.trans (hb3.mono HB2.out.size)); have HX3 := Aside0.mk (box_keep HX2.out hb3); obtain ⟨p0, p1, p2, p3, p4, p5, p6, p7⟩ := mem_facts HX3.out; clear hd hb3 n0 n1 n2 n3 n4 n5 n6 n7)
    | (go_at_call 17; refine (bindlelaw10_answers.calls true _ (HT.out _ HB3.out) rfl).mono ?_; rintro e w9 ⟨rfl, hbe⟩; have HBE := Aside0.mk hbe; clear hbe)
    | fail)
   rw [← hQ.out]
   exact ⟨rfl, HB3.out.trans (HBE.out.mono HB3.out.size)⟩
  | true =>
   obtain ⟨k3, hk3⟩ := Ev.rounds (refGood_eq m hm)
   have HL := Aside0.mk (hl1 rfl)
   have HLM := Aside0.mk (hl2 rfl)
   clear hl1 hl2
   cases hgm : goodM m with
   | false =>
    rw [hgm] at hk3
    have HK3 := Aside0.mk hk3
    clear hk3 hgm
    go_enter Tryd.func3, Tryd.ntmps3
    go_wp2_with (first
     | (go_at_call 15; refine (bindlelaw10_light.calls k1 A0 c0 l true _ (Kd.C_alloc HC.out _) HCL.out HK1.out).mono ?_; rintro e w1 ⟨rfl, hd⟩; obtain ⟨nd, hd⟩ := hd.out; have hx1 := box_at hd; have HB1 : Aside0 (Below W.heap.size W w1) := ⟨(by rw [hd]; exact pw_below_drewN (below_alloc (Below.refl _ _) _) _)⟩; have HX1 := Aside0.mk hx1; obtain ⟨m0, m1, m2, m3, m4, m5, m6, m7⟩ := mem_facts hx1; clear hd hx1)
     | ((with_reducible refine gate_dst (N := 19) rfl ?_); refine wpList_step fun K hK => ?_; refine Kd.N_lit_step k27 (w0 := W) W.heap.size 27 ?hw (N' := 19) rfl (xs := [m]) (inner := [.string m.f0, .string m.f1, .int .u8 m.f2, .int .i64 m.f3.f0, .int .i64 m.f3.f1, .int .i64 m.f3.f2, .int .i64 m.f3.f3, .slice A7 m.f4.length c7]) (ok := fun _ => True) (okp := fun k => k < w1.heap.size) ?hr ?hp (fun _ _ => trivial) trivial HB1.out HB1.out.size (by simp) ?_; (case hw => go_simp); (case hr => first | (go_simp; done) | (go_simp; rfl)); (case hp => exact mem_reps (Kd.C_below HC7.out HB1.out) HCL7.out); intro v2 w2 hN2 hB2 hg2 hat2; refine hK _ _ ?_; clear hK K; obtain ⟨A9, c9, rfl⟩ := Kd.N_slice hN2; obtain ⟨hq9, hc9, hC9⟩ := Kd.N_reads' hN2; have HC9 := Aside0.mk hC9; have HCC9 := Aside0.mk hc9; have HB2 := Aside0.mk hB2; have HX2 := Aside0.mk (box_grown HX1.out hg2); obtain ⟨n0, n1, n2, n3, n4, n5, n6, n7⟩ := mem_facts HX2.out; clear hN2 hB2 hg2 hat2 hq9 hc9 hC9 m0 m1 m2 m3 m4 m5 m6 m7)
     | ((with_reducible refine gate_dst (N := 20) rfl ?_); refine enter_step Tryd.func15 (by kernel_rfl) rfl #[.slice A9 [m].length c9] rfl ?ha ?hw ?_; (case hw => go_simp); (case ha => (try simp only [List.map_toArray, List.map_cons, List.map_nil]); first | done | rfl); refine (bindlelaw10_light.calls k2 A9 c9 [m] true _ HC9.out HCC9.out HK2.out).mono ?_; rintro e w3 ⟨rfl, hd⟩; refine ⟨_, rfl, ?_⟩; obtain ⟨nd3, hd⟩ := hd.out; have hb3 : Below w2.heap.size w2 w3 := (by rw [hd]; exact pw_below_drewN (Below.refl _ _) _); have HB3 := Aside0.mk (HB2.out.trans (hb3.mono HB2.out.size)); have HX3 := Aside0.mk (box_keep HX2.out hb3); obtain ⟨p0, p1, p2, p3, p4, p5, p6, p7⟩ := mem_facts HX3.out; clear hd hb3 n0 n1 n2 n3 n4 n5 n6 n7)
     | ((with_reducible refine gate_dst (N := 25) rfl ?_); refine enter_step Tryd.func16 (by kernel_rfl) rfl #[.agg (memArr m A7 c7)] rfl ?ha ?hw ?_; (case hw => go_simp); (case ha => (try simp only [List.map_toArray, List.map_cons, List.map_nil]); first | done | rfl); refine (bindleref08_Good.calls k3 m.f0 m.f1 m.f2 m.f3.f0 m.f3.f1 m.f3.f2 m.f3.f3 A7 c7 m.f4 false _ (Kd.C_below HC7.out HB3.out) HCL7.out HK3.out).mono ?_; rintro e w4 ⟨rfl, hb4⟩; refine ⟨_, rfl, ?_⟩; have HB4 := Aside0.mk (HB3.out.trans (hb4.mono HB3.out.size)); have HX4 := Aside0.mk (box_keep HX3.out hb4); obtain ⟨o0, o1, o2, o3, o4, o5, o6, o7⟩ := mem_facts HX4.out; clear hb4 p0 p1 p2 p3 p4 p5 p6 p7)
     | (go_at_call 17; refine (bindlelaw10_answers.calls true _ (HT.out _ HB4.out) rfl).mono ?_; rintro e w9 ⟨rfl, hbe⟩; have HBE := Aside0.mk hbe; clear hbe)
     | fail)
    rw [← hQ.out]
    exact ⟨rfl, HB4.out.trans (HBE.out.mono HB4.out.size)⟩
   | true =>
    rw [hgm] at hk3
    have HK3 := Aside0.mk hk3
    have HGM := Aside0.mk hgm
    clear hk3 hgm
    by_cases h49 : m.f2 = 49
    ·have e49 : (m.f2 == 49) = true := beq_iff_eq.2 h49
     clear h49
     go_enter Tryd.func3, Tryd.ntmps3
     go_wp2_with (first
      | (go_at_call 15; refine (bindlelaw10_light.calls k1 A0 c0 l true _ (Kd.C_alloc HC.out _) HCL.out HK1.out).mono ?_; rintro e w1 ⟨rfl, hd⟩; obtain ⟨nd, hd⟩ := hd.out; have hx1 := box_at hd; have HB1 : Aside0 (Below W.heap.size W w1) := ⟨(by rw [hd]; exact pw_below_drewN (below_alloc (Below.refl _ _) _) _)⟩; have HX1 := Aside0.mk hx1; obtain ⟨m0, m1, m2, m3, m4, m5, m6, m7⟩ := mem_facts hx1; clear hd hx1)
      | ((with_reducible refine gate_dst (N := 19) rfl ?_); refine wpList_step fun K hK => ?_; refine Kd.N_lit_step k27 (w0 := W) W.heap.size 27 ?hw (N' := 19) rfl (xs := [m]) (inner := [.string m.f0, .string m.f1, .int .u8 m.f2, .int .i64 m.f3.f0, .int .i64 m.f3.f1, .int .i64 m.f3.f2, .int .i64 m.f3.f3, .slice A7 m.f4.length c7]) (ok := fun _ => True) (okp := fun k => k < w1.heap.size) ?hr ?hp (fun _ _ => trivial) trivial HB1.out HB1.out.size (by simp) ?_; (case hw => go_simp); (case hr => first | (go_simp; done) | (go_simp; rfl)); (case hp => exact mem_reps (Kd.C_below HC7.out HB1.out) HCL7.out); intro v2 w2 hN2 hB2 hg2 hat2; refine hK _ _ ?_; clear hK K; obtain ⟨A9, c9, rfl⟩ := Kd.N_slice hN2; obtain ⟨hq9, hc9, hC9⟩ := Kd.N_reads' hN2; have HC9 := Aside0.mk hC9; have HCC9 := Aside0.mk hc9; have HB2 := Aside0.mk hB2; have HX2 := Aside0.mk (box_grown HX1.out hg2); obtain ⟨n0, n1, n2, n3, n4, n5, n6, n7⟩ := mem_facts HX2.out; clear hN2 hB2 hg2 hat2 hq9 hc9 hC9 m0 m1 m2 m3 m4 m5 m6 m7)
      | ((with_reducible refine gate_dst (N := 20) rfl ?_); refine enter_step Tryd.func15 (by kernel_rfl) rfl #[.slice A9 [m].length c9] rfl ?ha ?hw ?_; (case hw => go_simp); (case ha => (try simp only [List.map_toArray, List.map_cons, List.map_nil]); first | done | rfl); refine (bindlelaw10_light.calls k2 A9 c9 [m] true _ HC9.out HCC9.out HK2.out).mono ?_; rintro e w3 ⟨rfl, hd⟩; refine ⟨_, rfl, ?_⟩; obtain ⟨nd3, hd⟩ := hd.out; have hb3 : Below w2.heap.size w2 w3 := (by rw [hd]; exact pw_below_drewN (Below.refl _ _) _); have HB3 := Aside0.mk (HB2.out.trans (hb3.mono HB2.out.size)); have HX3 := Aside0.mk (box_keep HX2.out hb3); obtain ⟨p0, p1, p2, p3, p4, p5, p6, p7⟩ := mem_facts HX3.out; clear hd hb3 n0 n1 n2 n3 n4 n5 n6 n7)
      | ((with_reducible refine gate_dst (N := 25) rfl ?_); refine enter_step Tryd.func16 (by kernel_rfl) rfl #[.agg (memArr m A7 c7)] rfl ?ha ?hw ?_; (case hw => go_simp); (case ha => (try simp only [List.map_toArray, List.map_cons, List.map_nil]); first | done | rfl); refine (bindleref08_Good.calls k3 m.f0 m.f1 m.f2 m.f3.f0 m.f3.f1 m.f3.f2 m.f3.f3 A7 c7 m.f4 true _ (Kd.C_below HC7.out HB3.out) HCL7.out HK3.out).mono ?_; rintro e w4 ⟨rfl, hb4⟩; refine ⟨_, rfl, ?_⟩; have HB4 := Aside0.mk (HB3.out.trans (hb4.mono HB3.out.size)); have HX4 := Aside0.mk (box_keep HX3.out hb4); obtain ⟨o0, o1, o2, o3, o4, o5, o6, o7⟩ := mem_facts HX4.out; clear hb4 p0 p1 p2 p3 p4 p5 p6 p7)
      | (go_at_call 17; refine (bindlelaw10_answers.calls true _ (HT.out _ HB4.out) rfl).mono ?_; rintro e w9 ⟨rfl, hbe⟩; have HBE := Aside0.mk hbe; clear hbe)
      | fail)
     rw [← hQ.out]
     exact ⟨rfl, HB4.out.trans (HBE.out.mono HB4.out.size)⟩
    ·have e49 : (m.f2 == 49) = false := beq_eq_false_iff_ne.2 h49
     have H49 := Aside0.mk h49
     clear h49
     go_enter Tryd.func3, Tryd.ntmps3
     go_upto_region 3 with (first
      | (go_at_call 15; refine (bindlelaw10_light.calls k1 A0 c0 l true _ (Kd.C_alloc HC.out _) HCL.out HK1.out).mono ?_; rintro e w1 ⟨rfl, hd⟩; obtain ⟨nd, hd⟩ := hd.out; have hx1 := box_at hd; have HB1 : Aside0 (Below W.heap.size W w1) := ⟨(by rw [hd]; exact pw_below_drewN (below_alloc (Below.refl _ _) _) _)⟩; have HX1 := Aside0.mk hx1; obtain ⟨m0, m1, m2, m3, m4, m5, m6, m7⟩ := mem_facts hx1; clear hd hx1)
      | ((with_reducible refine gate_dst (N := 19) rfl ?_); refine wpList_step fun K hK => ?_; refine Kd.N_lit_step k27 (w0 := W) W.heap.size 27 ?hw (N' := 19) rfl (xs := [m]) (inner := [.string m.f0, .string m.f1, .int .u8 m.f2, .int .i64 m.f3.f0, .int .i64 m.f3.f1, .int .i64 m.f3.f2, .int .i64 m.f3.f3, .slice A7 m.f4.length c7]) (ok := fun _ => True) (okp := fun k => k < w1.heap.size) ?hr ?hp (fun _ _ => trivial) trivial HB1.out HB1.out.size (by simp) ?_; (case hw => go_simp); (case hr => first | (go_simp; done) | (go_simp; rfl)); (case hp => exact mem_reps (Kd.C_below HC7.out HB1.out) HCL7.out); intro v2 w2 hN2 hB2 hg2 hat2; refine hK _ _ ?_; clear hK K; obtain ⟨A9, c9, rfl⟩ := Kd.N_slice hN2; obtain ⟨hq9, hc9, hC9⟩ := Kd.N_reads' hN2; have HC9 := Aside0.mk hC9; have HCC9 := Aside0.mk hc9; have HB2 := Aside0.mk hB2; have HX2 := Aside0.mk (box_grown HX1.out hg2); obtain ⟨n0, n1, n2, n3, n4, n5, n6, n7⟩ := mem_facts HX2.out; clear hN2 hB2 hg2 hat2 hq9 hc9 hC9 m0 m1 m2 m3 m4 m5 m6 m7)
      | ((with_reducible refine gate_dst (N := 20) rfl ?_); refine enter_step Tryd.func15 (by kernel_rfl) rfl #[.slice A9 [m].length c9] rfl ?ha ?hw ?_; (case hw => go_simp); (case ha => (try simp only [List.map_toArray, List.map_cons, List.map_nil]); first | done | rfl); refine (bindlelaw10_light.calls k2 A9 c9 [m] true _ HC9.out HCC9.out HK2.out).mono ?_; rintro e w3 ⟨rfl, hd⟩; refine ⟨_, rfl, ?_⟩; obtain ⟨nd3, hd⟩ := hd.out; have hb3 : Below w2.heap.size w2 w3 := (by rw [hd]; exact pw_below_drewN (Below.refl _ _) _); have HB3 := Aside0.mk (HB2.out.trans (hb3.mono HB2.out.size)); have HX3 := Aside0.mk (box_keep HX2.out hb3); obtain ⟨p0, p1, p2, p3, p4, p5, p6, p7⟩ := mem_facts HX3.out; clear hd hb3 n0 n1 n2 n3 n4 n5 n6 n7)
      | ((with_reducible refine gate_dst (N := 25) rfl ?_); refine enter_step Tryd.func16 (by kernel_rfl) rfl #[.agg (memArr m A7 c7)] rfl ?ha ?hw ?_; (case hw => go_simp); (case ha => (try simp only [List.map_toArray, List.map_cons, List.map_nil]); first | done | rfl); refine (bindleref08_Good.calls k3 m.f0 m.f1 m.f2 m.f3.f0 m.f3.f1 m.f3.f2 m.f3.f3 A7 c7 m.f4 true _ (Kd.C_below HC7.out HB3.out) HCL7.out HK3.out).mono ?_; rintro e w4 ⟨rfl, hb4⟩; refine ⟨_, rfl, ?_⟩; have HB4 := Aside0.mk (HB3.out.trans (hb4.mono HB3.out.size)); have HX4 := Aside0.mk (box_keep HX3.out hb4); obtain ⟨o0, o1, o2, o3, o4, o5, o6, o7⟩ := mem_facts HX4.out; clear hb4 p0 p1 p2 p3 p4 p5 p6 p7)
      | fail)
     have HZL := Aside0.mk HL.out.z
     generalize hT0 : (foldF l).1 = tl
     generalize hE0 : (foldF l).2.1 = e0
     generalize hN0 : (foldF l).2.2 = n0
     have HFL := Aside0.mk (LFold A0 c0 l w4 (HT.out w4 HB4.out).out (Kd.C_below HC.out HB4.out) HZL.out)
     unfold LFoldPost at HFL
     rw [hT0, hE0, hN0] at HFL
     have HT0 := Aside0.mk hT0
     have HE0 := Aside0.mk hE0
     have HN0 := Aside0.mk hN0
     clear hT0 hE0 hN0
     go_upto_region 4 with (first
      | (go_at_call 18; refine HFL.out.mono ?_; rintro e w5 ⟨A5, c5, rfl, hC5, hc5, hB5⟩; have HC5 := Aside0.mk hC5; have HCL5 := Aside0.mk hc5; have HB5 := Aside0.mk (HB4.out.trans (hB5.mono HB4.out.size)); have HX5 := Aside0.mk (box_keep HX4.out hB5); clear hC5 hc5 hB5 o0 o1 o2 o3 o4 o5 o6 o7)
      | fail)
     have f6 : ∃ w6 b6, w6 = w5.alloc (Obj.cells #[Value.int IntKind.i64 e0, Value.int IntKind.i64 n0] 34) ∧ b6 = w5.heap.size ∧ Below W.heap.size W w6 ∧ w6.heap[b6]? = some (.cells #[.int .i64 e0, .int .i64 n0] 34 (0, 0)) ∧ Kd.C k38 w6 A5 tl.length tl ∧ BoxAt m A7 c7 W.heap.size w6 :=
      ⟨_, _, rfl, rfl, below_alloc HB5.out _, blk_new _ _, Kd.C_alloc HC5.out _, box_keep HX5.out (below_alloc (Below.refl _ _) _)⟩
     obtain ⟨w6, b6, e6, e5, hB6, hF6, hC6, hX6⟩ := f6
     rw [← e6, ← e5]
     have HB6 := Aside0.mk hB6
     have HF6 := Aside0.mk hF6
     have HC6 := Aside0.mk hC6
     have HX6 := Aside0.mk hX6
     clear e6 e5 hB6 hF6 hC6 hX6 HC5 HB5 HX5
     have hlast := last_ok (l := l) (m := m) HZL.out (by have := HZL.out.1; have := HL.out.1; omega) HGM.out (HLM.out.z.2 m (List.mem_singleton.2 rfl)) H49.out
     rw [HT0.out, HE0.out, HN0.out] at hlast
     generalize hU0 : (foldF (l ++ [m])).1 = ul at hlast
     generalize hE1 : (foldF (l ++ [m])).2.1 = e1 at hlast
     generalize hN1 : (foldF (l ++ [m])).2.2 = n1 at hlast
     have HLAST := Aside0.mk hlast
     have HU0 := Aside0.mk hU0
     have HE1 := Aside0.mk hE1
     have HN1 := Aside0.mk hN1
     clear hlast hU0 hE1 hN1
     go_cut [7, 8] (fun v7 v8 wx => ∃ Au cu b8, v7 = .slice Au ul.length cu ∧ v8 = .pointer (some ⟨b8, 0, none⟩) ∧ Aside0 (LMid W m A7 c7 A5 tl b6 e0 n0 Au cu ul b8 e1 n1 wx))
     case first =>
      have HSB := Aside0.mk (fun (w' : World) (hb : Below w6.heap.size w6 w') => box_keep HX6.out hb)
      have HC76 := Aside0.mk (Kd.C_below HC7.out HB6.out)
      have HCM6 := Aside0.mk (Kd.C_below HC.out HB6.out)
      have HLL : Aside0 (l.length ≤ 1000000) := ⟨by have := HL.out.1; omega⟩
      have HLL1 : Aside0 (l.length + [m].length ≤ 1000000) := ⟨by have := HL.out.1; simp only [List.length_singleton]; omega⟩
      have hfu : ∀ (A9 : Option Addr) (c9 : Nat) (w : World), Below w6.heap.size w6 w → Kd.C k27 w A9 (l ++ [m]).length (l ++ [m]) → Calls Tryd.prog 18 #[.slice A9 (l ++ [m]).length c9] w (fun e w' => ∃ A c, e = .returned (.tuple #[.slice A ul.length c, .agg #[.int .i64 e1, .int .i64 n1]]) ∧ Kd.F k38 w' (fun k => w.heap.size ≤ k) A ul.length ul ∧ ul.length ≤ c ∧ Below w.heap.size w w') := by
       intro A9 c9 w hb hC9
       have hz : MemsZ (l ++ [m]) := ⟨by have := HL.out.1; rw [List.length_append, List.length_singleton]; omega, fun x hx => by
        rcases List.mem_append.1 hx with h | h
        ·exact HZL.out.2 x h
        ·exact HLM.out.z.2 x h⟩
       refine (Fold_calls A9 c9 (l ++ [m]) w (HT.out w (HB6.out.trans (hb.mono HB6.out.size))).out hC9 hz).mono ?_
       rintro e w' ⟨v, rfl, hV, hB, _⟩
       rw [HU0.out] at hV
       rw [HE1.out, HN1.out]
       obtain ⟨A, c, rfl, h2, h3⟩ := hV
       exact ⟨A, c, rfl, h3, h2, hB⟩
      have HFU := Aside0.mk hfu
      clear hfu
      refine start_ (n := 13) (S := fun w' => BoxAt m A7 c7 W.heap.size w') (ds := []) #[false, false, false, false, false, false, false, false, false, false, false, false, false] (by kernel_rfl) rfl rfl (HSB.out _ (below_drew (Below.refl _ _))) (fun hHeld => ?_)
      have HR := Aside0.mk (R4.start (w6 := w6) (w := w6.drew) (below_drew (Below.refl _ _)))
      generalize w6.drew = w at HR hHeld ⊢
      refine pure_ (i := 1) (N := some 41) (v := ?_) (a' := ?_) #[false, true, false, false, false, false, false, false, false, false, false, false, false] rfl rfl (by kernel_rfl) (fun _ _ _ h => h) (Or.inl ⟨by rfl, ?_⟩) ?_ ?_
      rotate_left
      ·intro w'
       go_simp
       with_reducible rfl
      rotate_left
      ·simp only [Act.put, List.setIfInBounds_toArray, List.set_cons_zero, List.set_cons_succ]
       rfl
      refine take_ (i := 3) (N := some 43) (v := ?_) (a' := ?_) #[false, true, false, true, false, false, false, false, false, false, false, false, false] rfl rfl (by kernel_rfl) (fun _ _ _ h => h) (Or.inl ⟨by rfl, ?_⟩) hHeld ?_ ?_
      rotate_left
      ·intro w' hs
       obtain ⟨s0, s1, s2, s3, s4, s5, s6, s7⟩ := mem_facts hs
       clear hs
       go_simp
       with_reducible rfl
      rotate_left
      ·simp only [Act.put, List.setIfInBounds_toArray, List.set_cons_zero, List.set_cons_succ]
       rfl
      clear hHeld
      refine join_ (σ := Value × Value × Value × Value × Option Addr × Nat × Nat) 2 #[true, true, true, true, true, true, true, true, true, true, true, false, false] (fun s_ => [(40, s_.1), (42, s_.2.1), (44, s_.2.2.1), (45, s_.2.2.2.1), (46, .tuple #[.slice s_.2.2.2.2.1 ul.length s_.2.2.2.2.2.1, .agg #[.int .i64 e1, .int .i64 n1]]), (8, .pointer (some ⟨s_.2.2.2.2.2.2, 0, none⟩)), (39, .tuple #[.slice s_.2.2.2.2.1 ul.length s_.2.2.2.2.2.1, .agg #[.int .i64 e1, .int .i64 n1]]), (47, .slice s_.2.2.2.2.1 ul.length s_.2.2.2.2.2.1), (48, .agg #[.int .i64 e1, .int .i64 n1])]) (fun s_ w' => R6 w6 ul (some s_.2.2.2.2.2.2) s_.2.2.2.2.1 s_.2.2.2.2.2.1 w') ?_ ?_
      rotate_left
      ·intro hJ62111
       refine join_ (σ := Value × Value × Value × Value × Option Addr × Nat × Nat) 5 #[true, true, true, true, true, true, true, false, false, false, true, false, false] (fun s_ => [(40, s_.1), (42, s_.2.1), (44, s_.2.2.1), (45, s_.2.2.2.1), (46, .tuple #[.slice s_.2.2.2.2.1 ul.length s_.2.2.2.2.2.1, .agg #[.int .i64 e1, .int .i64 n1]]), (8, .pointer (some ⟨s_.2.2.2.2.2.2, 0, none⟩))]) (fun s_ w' => R6 w6 ul (some s_.2.2.2.2.2.2) s_.2.2.2.2.1 s_.2.2.2.2.2.1 w') ?_ ?_
       rotate_left
       ·intro hJ62110
        refine join_ (σ := Value × Value × Value × Value × Option Addr × Nat) 6 #[true, true, true, true, true, true, true, false, false, false, false, false, false] (fun s_ => [(40, s_.1), (42, s_.2.1), (44, s_.2.2.1), (45, s_.2.2.2.1), (46, .tuple #[.slice s_.2.2.2.2.1 ul.length s_.2.2.2.2.2, .agg #[.int .i64 e1, .int .i64 n1]])]) (fun s_ w' => R6 w6 ul none s_.2.2.2.2.1 s_.2.2.2.2.2 w') ?_ ?_
        rotate_left
        ·intro hJ62100
         refine join_ (σ := Value × Value × Value × Value × Nat) 6 #[true, true, true, true, true, true, false, false, false, false, true, false, false] (fun s_ => [(40, s_.1), (42, s_.2.1), (44, s_.2.2.1), (45, s_.2.2.2.1), (8, .pointer (some ⟨s_.2.2.2.2, 0, none⟩))]) (fun s_ w' => R5 w6 (l ++ [m]) (some s_.2.2.2.2) s_.2.2.2.1 w') ?_ ?_
         rotate_left
         ·intro hJ52110
          refine join_ (σ := Value × Value × Value × Value) 7 #[true, true, true, true, true, true, false, false, false, false, false, false, false] (fun s_ => [(40, s_.1), (42, s_.2.1), (44, s_.2.2.1), (45, s_.2.2.2)]) (fun s_ w' => R5 w6 (l ++ [m]) none s_.2.2.2 w') ?_ ?_
          rotate_left
          ·intro hJ52100
           refine join_ (σ := Value × Value × Value × Nat) 7 #[true, true, true, true, true, false, false, false, false, false, true, false, false] (fun s_ => [(40, s_.1), (42, s_.2.1), (44, s_.2.2.1), (8, .pointer (some ⟨s_.2.2.2, 0, none⟩))]) (fun s_ w' => R4 w6 l [m] (some s_.2.2.2) s_.2.1 s_.2.2.1 w') ?_ ?_
           rotate_left
           ·intro hJ42110
            refine join_ (σ := Value × Value × Nat) 8 #[true, true, false, true, true, false, false, false, false, false, true, false, false] (fun s_ => [(40, s_.1), (44, s_.2.1), (8, .pointer (some ⟨s_.2.2, 0, none⟩))]) (fun s_ w' => R4 w6 [] [m] (some s_.2.2) s_.1 s_.2.1 w') ?_ ?_
            rotate_left
            ·intro hJ41110
             refine join_ (σ := Value × Value × Nat) 8 #[true, true, true, true, false, false, false, false, false, false, true, false, false] (fun s_ => [(40, s_.1), (42, s_.2.1), (8, .pointer (some ⟨s_.2.2, 0, none⟩))]) (fun s_ w' => R4 w6 l [] (some s_.2.2) s_.2.1 nilV w') ?_ ?_
             rotate_left
             ·intro hJ42010
              refine join_ (σ := Value × Value × Value) 8 #[true, true, true, true, true, false, false, false, false, false, false, false, false] (fun s_ => [(40, s_.1), (42, s_.2.1), (44, s_.2.2)]) (fun s_ w' => R4 w6 l [m] none s_.2.1 s_.2.2 w') ?_ ?_
              rotate_left
              ·intro hJ42100
               refine join_ (σ := Value × Nat) 9 #[false, true, false, true, true, false, false, false, false, false, true, false, false] (fun s_ => [(44, s_.1), (8, .pointer (some ⟨s_.2, 0, none⟩))]) (fun s_ w' => R4 w6 [] [m] (some s_.2) nilV s_.1 w') ?_ ?_
               rotate_left
               ·intro hJ40110
                refine join_ (σ := Value × Nat) 9 #[true, true, false, true, false, false, false, false, false, false, true, false, false] (fun s_ => [(40, s_.1), (8, .pointer (some ⟨s_.2, 0, none⟩))]) (fun s_ w' => R4 w6 [] [] (some s_.2) s_.1 nilV w') ?_ ?_
                rotate_left
                ·intro hJ41010
                 refine join_ (σ := Value × Value) 9 #[true, true, false, true, true, false, false, false, false, false, false, false, false] (fun s_ => [(40, s_.1), (44, s_.2)]) (fun s_ w' => R4 w6 [] [m] none s_.1 s_.2 w') ?_ ?_
                 rotate_left
                 ·intro hJ41100
                  refine join_ (σ := Value × Value) 9 #[true, true, true, true, false, false, false, false, false, false, false, false, false] (fun s_ => [(40, s_.1), (42, s_.2)]) (fun s_ w' => R4 w6 l [] none s_.2 nilV w') ?_ ?_
                  rotate_left
                  ·intro hJ42000
                   refine join_ (σ := Nat) 10 #[false, true, false, true, false, false, false, false, false, false, true, false, false] (fun s_ => [(8, .pointer (some ⟨s_, 0, none⟩))]) (fun s_ w' => R4 w6 [] [] (some s_) nilV nilV w') ?_ ?_
                   rotate_left
                   ·intro hJ40010
                    refine join_ (σ := Value) 10 #[false, true, false, true, true, false, false, false, false, false, false, false, false] (fun s_ => [(44, s_)]) (fun s_ w' => R4 w6 [] [m] none nilV s_ w') ?_ ?_
                    rotate_left
                    ·intro hJ40100
                     refine join_ (σ := Value) 10 #[true, true, false, true, false, false, false, false, false, false, false, false, false] (fun s_ => [(40, s_)]) (fun s_ w' => R4 w6 [] [] none s_ nilV w') ?_ ?_
                     rotate_left
                     ·intro hJ41000
                      refine three_ (i := 0) (j := 4) (k := 10) (Ni := some 40) (Nj := some 44) (Nk := some 8) #[true, true, false, true, false, false, false, false, false, false, false, false, false] #[false, true, false, true, true, false, false, false, false, false, false, false, false] #[false, true, false, true, false, false, false, false, false, false, true, false, false] rfl rfl rfl rfl rfl rfl (by kernel_rfl) (by decide) (by decide) (by decide) (fun K hK => ?_) (fun K hK => ?_) (fun K hK => ?_)
                      ·skip
                       refine R4.none_ HR.out (N' := 40) rfl rfl ?hrun ?_
                       case hrun => first | (go_simp; done) | (go_simp; rfl)
                       intro v40 w1 HR1
                       refine hK.out _ _ (HSB.out _ HR1.B) (fun hHeld => ?_)
                       clear hK K hHeld
                       refine norm_ (a' := ?_) ?_ ?_
                       rotate_left
                       ·show Act.put _ (some 40) _ = _
                        simp only [Act.put, List.setIfInBounds_toArray, List.set_cons_zero, List.set_cons_succ]
                        rfl
                       exact norm_ (by first | (simp only [putAll, Act.put, List.setIfInBounds_toArray, List.set_cons_zero, List.set_cons_succ]; done) | (simp only [putAll, Act.put, List.setIfInBounds_toArray, List.set_cons_zero, List.set_cons_succ]; rfl)) (hJ41000 (v40) _ HR1)
                      ·skip
                       refine R4.one_ HR.out (m := m) (A7 := A7) (c7 := c7) (N' := 44) rfl rfl HC76.out HCL7.out ?hrun ?_
                       case hrun => first | (go_simp; done) | (go_simp; rfl)
                       intro v44 w1 HR1
                       refine hK.out _ _ (HSB.out _ HR1.B) (fun hHeld => ?_)
                       clear hK K hHeld
                       refine norm_ (a' := ?_) ?_ ?_
                       rotate_left
                       ·show Act.put _ (some 44) _ = _
                        simp only [Act.put, List.setIfInBounds_toArray, List.set_cons_zero, List.set_cons_succ]
                        rfl
                       exact norm_ (by first | (simp only [putAll, Act.put, List.setIfInBounds_toArray, List.set_cons_zero, List.set_cons_succ]; done) | (simp only [putAll, Act.put, List.setIfInBounds_toArray, List.set_cons_zero, List.set_cons_succ]; rfl)) (hJ40100 (v44) _ HR1)
                      ·skip
                       refine R4.box_ HR.out (N' := 8) rfl rfl ?hrun ?_
                       case hrun => first | (go_simp; done) | (go_simp; rfl)
                       intro b8 w1 HR1
                       refine hK.out _ _ (HSB.out _ HR1.B) (fun hHeld => ?_)
                       clear hK K hHeld
                       refine norm_ (a' := ?_) ?_ ?_
                       rotate_left
                       ·show Act.put _ (some 8) _ = _
                        simp only [Act.put, List.setIfInBounds_toArray, List.set_cons_zero, List.set_cons_succ]
                        rfl
                       exact norm_ (by first | (simp only [putAll, Act.put, List.setIfInBounds_toArray, List.set_cons_zero, List.set_cons_succ]; done) | (simp only [putAll, Act.put, List.setIfInBounds_toArray, List.set_cons_zero, List.set_cons_succ]; rfl)) (hJ40010 (b8) _ HR1)
                     ·rintro v40 w HR
                      try dsimp only at HR
                      replace HR : Aside0 (R4 w6 [] [] none v40 nilV w) := ⟨HR⟩
                      refine norm_ (a' := ?_) ?_ ?_
                      rotate_left
                      ·simp only [putAll, Act.put, List.setIfInBounds_toArray, List.set_cons_zero, List.set_cons_succ]
                       rfl
                      refine three_ (i := 2) (j := 4) (k := 10) (Ni := some 42) (Nj := some 44) (Nk := some 8) #[true, true, true, true, false, false, false, false, false, false, false, false, false] #[true, true, false, true, true, false, false, false, false, false, false, false, false] #[true, true, false, true, false, false, false, false, false, false, true, false, false] rfl rfl rfl rfl rfl rfl (by kernel_rfl) (by decide) (by decide) (by decide) (fun K hK => ?_) (fun K hK => ?_) (fun K hK => ?_)
                      ·skip
                       refine R4.list_ HR.out (l := l) (A0 := A0) (c0 := c0) (.tmp 40) (.tmp 41) (N' := 42) rfl rfl rfl rfl rfl HCM6.out HLL.out ?_
                       intro v42 w1 HR1
                       refine hK.out _ _ (HSB.out _ HR1.B) (fun hHeld => ?_)
                       clear hK K hHeld
                       refine norm_ (a' := ?_) ?_ ?_
                       rotate_left
                       ·show Act.put _ (some 42) _ = _
                        simp only [Act.put, List.setIfInBounds_toArray, List.set_cons_zero, List.set_cons_succ]
                        rfl
                       exact norm_ (by first | (simp only [putAll, Act.put, List.setIfInBounds_toArray, List.set_cons_zero, List.set_cons_succ]; done) | (simp only [putAll, Act.put, List.setIfInBounds_toArray, List.set_cons_zero, List.set_cons_succ]; rfl)) (hJ42000 ((v40, v42)) _ HR1)
                      ·skip
                       refine R4.one_ HR.out (m := m) (A7 := A7) (c7 := c7) (N' := 44) rfl rfl HC76.out HCL7.out ?hrun ?_
                       case hrun => first | (go_simp; done) | (go_simp; rfl)
                       intro v44 w1 HR1
                       refine hK.out _ _ (HSB.out _ HR1.B) (fun hHeld => ?_)
                       clear hK K hHeld
                       refine norm_ (a' := ?_) ?_ ?_
                       rotate_left
                       ·show Act.put _ (some 44) _ = _
                        simp only [Act.put, List.setIfInBounds_toArray, List.set_cons_zero, List.set_cons_succ]
                        rfl
                       exact norm_ (by first | (simp only [putAll, Act.put, List.setIfInBounds_toArray, List.set_cons_zero, List.set_cons_succ]; done) | (simp only [putAll, Act.put, List.setIfInBounds_toArray, List.set_cons_zero, List.set_cons_succ]; rfl)) (hJ41100 ((v40, v44)) _ HR1)
                      ·skip
                       refine R4.box_ HR.out (N' := 8) rfl rfl ?hrun ?_
                       case hrun => first | (go_simp; done) | (go_simp; rfl)
                       intro b8 w1 HR1
                       refine hK.out _ _ (HSB.out _ HR1.B) (fun hHeld => ?_)
                       clear hK K hHeld
                       refine norm_ (a' := ?_) ?_ ?_
                       rotate_left
                       ·show Act.put _ (some 8) _ = _
                        simp only [Act.put, List.setIfInBounds_toArray, List.set_cons_zero, List.set_cons_succ]
                        rfl
                       exact norm_ (by first | (simp only [putAll, Act.put, List.setIfInBounds_toArray, List.set_cons_zero, List.set_cons_succ]; done) | (simp only [putAll, Act.put, List.setIfInBounds_toArray, List.set_cons_zero, List.set_cons_succ]; rfl)) (hJ41010 ((v40, b8)) _ HR1)
                    ·rintro v44 w HR
                     try dsimp only at HR
                     replace HR : Aside0 (R4 w6 [] [m] none nilV v44 w) := ⟨HR⟩
                     refine norm_ (a' := ?_) ?_ ?_
                     rotate_left
                     ·simp only [putAll, Act.put, List.setIfInBounds_toArray, List.set_cons_zero, List.set_cons_succ]
                      rfl
                     refine two_ (i := 0) (j := 10) (Ni := some 40) (Nj := some 8) #[true, true, false, true, true, false, false, false, false, false, false, false, false] #[false, true, false, true, true, false, false, false, false, false, true, false, false] rfl rfl rfl rfl (by kernel_rfl) (by decide) (by decide) (fun K hK => ?_) (fun K hK => ?_)
                     ·skip
                      refine R4.none_ HR.out (N' := 40) rfl rfl ?hrun ?_
                      case hrun => first | (go_simp; done) | (go_simp; rfl)
                      intro v40 w1 HR1
                      refine hK.out _ _ (HSB.out _ HR1.B) (fun hHeld => ?_)
                      clear hK K hHeld
                      refine norm_ (a' := ?_) ?_ ?_
                      rotate_left
                      ·show Act.put _ (some 40) _ = _
                       simp only [Act.put, List.setIfInBounds_toArray, List.set_cons_zero, List.set_cons_succ]
                       rfl
                      exact norm_ (by first | (simp only [putAll, Act.put, List.setIfInBounds_toArray, List.set_cons_zero, List.set_cons_succ]; done) | (simp only [putAll, Act.put, List.setIfInBounds_toArray, List.set_cons_zero, List.set_cons_succ]; rfl)) (hJ41100 ((v40, v44)) _ HR1)
                     ·skip
                      refine R4.box_ HR.out (N' := 8) rfl rfl ?hrun ?_
                      case hrun => first | (go_simp; done) | (go_simp; rfl)
                      intro b8 w1 HR1
                      refine hK.out _ _ (HSB.out _ HR1.B) (fun hHeld => ?_)
                      clear hK K hHeld
                      refine norm_ (a' := ?_) ?_ ?_
                      rotate_left
                      ·show Act.put _ (some 8) _ = _
                       simp only [Act.put, List.setIfInBounds_toArray, List.set_cons_zero, List.set_cons_succ]
                       rfl
                      exact norm_ (by first | (simp only [putAll, Act.put, List.setIfInBounds_toArray, List.set_cons_zero, List.set_cons_succ]; done) | (simp only [putAll, Act.put, List.setIfInBounds_toArray, List.set_cons_zero, List.set_cons_succ]; rfl)) (hJ40110 ((v44, b8)) _ HR1)
                   ·rintro b8 w HR
                    try dsimp only at HR
                    replace HR : Aside0 (R4 w6 [] [] (some b8) nilV nilV w) := ⟨HR⟩
                    refine norm_ (a' := ?_) ?_ ?_
                    rotate_left
                    ·simp only [putAll, Act.put, List.setIfInBounds_toArray, List.set_cons_zero, List.set_cons_succ]
                     rfl
                    refine two_ (i := 0) (j := 4) (Ni := some 40) (Nj := some 44) #[true, true, false, true, false, false, false, false, false, false, true, false, false] #[false, true, false, true, true, false, false, false, false, false, true, false, false] rfl rfl rfl rfl (by kernel_rfl) (by decide) (by decide) (fun K hK => ?_) (fun K hK => ?_)
                    ·skip
                     refine R4.none_ HR.out (N' := 40) rfl rfl ?hrun ?_
                     case hrun => first | (go_simp; done) | (go_simp; rfl)
                     intro v40 w1 HR1
                     refine hK.out _ _ (HSB.out _ HR1.B) (fun hHeld => ?_)
                     clear hK K hHeld
                     refine norm_ (a' := ?_) ?_ ?_
                     rotate_left
                     ·show Act.put _ (some 40) _ = _
                      simp only [Act.put, List.setIfInBounds_toArray, List.set_cons_zero, List.set_cons_succ]
                      rfl
                     exact norm_ (by first | (simp only [putAll, Act.put, List.setIfInBounds_toArray, List.set_cons_zero, List.set_cons_succ]; done) | (simp only [putAll, Act.put, List.setIfInBounds_toArray, List.set_cons_zero, List.set_cons_succ]; rfl)) (hJ41010 ((v40, b8)) _ HR1)
                    ·skip
                     refine R4.one_ HR.out (m := m) (A7 := A7) (c7 := c7) (N' := 44) rfl rfl HC76.out HCL7.out ?hrun ?_
                     case hrun => first | (go_simp; done) | (go_simp; rfl)
                     intro v44 w1 HR1
                     refine hK.out _ _ (HSB.out _ HR1.B) (fun hHeld => ?_)
                     clear hK K hHeld
                     refine norm_ (a' := ?_) ?_ ?_
                     rotate_left
                     ·show Act.put _ (some 44) _ = _
                      simp only [Act.put, List.setIfInBounds_toArray, List.set_cons_zero, List.set_cons_succ]
                      rfl
                     exact norm_ (by first | (simp only [putAll, Act.put, List.setIfInBounds_toArray, List.set_cons_zero, List.set_cons_succ]; done) | (simp only [putAll, Act.put, List.setIfInBounds_toArray, List.set_cons_zero, List.set_cons_succ]; rfl)) (hJ40110 ((v44, b8)) _ HR1)
                  ·rintro ⟨v40, v42⟩ w HR
                   try dsimp only at HR
                   replace HR : Aside0 (R4 w6 l [] none v42 nilV w) := ⟨HR⟩
                   refine norm_ (a' := ?_) ?_ ?_
                   rotate_left
                   ·simp only [putAll, Act.put, List.setIfInBounds_toArray, List.set_cons_zero, List.set_cons_succ]
                    rfl
                   refine two_ (i := 4) (j := 10) (Ni := some 44) (Nj := some 8) #[true, true, true, true, true, false, false, false, false, false, false, false, false] #[true, true, true, true, false, false, false, false, false, false, true, false, false] rfl rfl rfl rfl (by kernel_rfl) (by decide) (by decide) (fun K hK => ?_) (fun K hK => ?_)
                   ·skip
                    refine R4.one_ HR.out (m := m) (A7 := A7) (c7 := c7) (N' := 44) rfl rfl HC76.out HCL7.out ?hrun ?_
                    case hrun => first | (go_simp; done) | (go_simp; rfl)
                    intro v44 w1 HR1
                    refine hK.out _ _ (HSB.out _ HR1.B) (fun hHeld => ?_)
                    clear hK K hHeld
                    refine norm_ (a' := ?_) ?_ ?_
                    rotate_left
                    ·show Act.put _ (some 44) _ = _
                     simp only [Act.put, List.setIfInBounds_toArray, List.set_cons_zero, List.set_cons_succ]
                     rfl
                    exact norm_ (by first | (simp only [putAll, Act.put, List.setIfInBounds_toArray, List.set_cons_zero, List.set_cons_succ]; done) | (simp only [putAll, Act.put, List.setIfInBounds_toArray, List.set_cons_zero, List.set_cons_succ]; rfl)) (hJ42100 ((v40, v42, v44)) _ HR1)
                   ·skip
                    refine R4.box_ HR.out (N' := 8) rfl rfl ?hrun ?_
                    case hrun => first | (go_simp; done) | (go_simp; rfl)
                    intro b8 w1 HR1
                    refine hK.out _ _ (HSB.out _ HR1.B) (fun hHeld => ?_)
                    clear hK K hHeld
                    refine norm_ (a' := ?_) ?_ ?_
                    rotate_left
                    ·show Act.put _ (some 8) _ = _
                     simp only [Act.put, List.setIfInBounds_toArray, List.set_cons_zero, List.set_cons_succ]
                     rfl
                    exact norm_ (by first | (simp only [putAll, Act.put, List.setIfInBounds_toArray, List.set_cons_zero, List.set_cons_succ]; done) | (simp only [putAll, Act.put, List.setIfInBounds_toArray, List.set_cons_zero, List.set_cons_succ]; rfl)) (hJ42010 ((v40, v42, b8)) _ HR1)
                 ·rintro ⟨v40, v44⟩ w HR
                  try dsimp only at HR
                  replace HR : Aside0 (R4 w6 [] [m] none v40 v44 w) := ⟨HR⟩
                  refine norm_ (a' := ?_) ?_ ?_
                  rotate_left
                  ·simp only [putAll, Act.put, List.setIfInBounds_toArray, List.set_cons_zero, List.set_cons_succ]
                   rfl
                  refine two_ (i := 2) (j := 10) (Ni := some 42) (Nj := some 8) #[true, true, true, true, true, false, false, false, false, false, false, false, false] #[true, true, false, true, true, false, false, false, false, false, true, false, false] rfl rfl rfl rfl (by kernel_rfl) (by decide) (by decide) (fun K hK => ?_) (fun K hK => ?_)
                  ·skip
                   refine R4.list_ HR.out (l := l) (A0 := A0) (c0 := c0) (.tmp 40) (.tmp 41) (N' := 42) rfl rfl rfl rfl rfl HCM6.out HLL.out ?_
                   intro v42 w1 HR1
                   refine hK.out _ _ (HSB.out _ HR1.B) (fun hHeld => ?_)
                   clear hK K hHeld
                   refine norm_ (a' := ?_) ?_ ?_
                   rotate_left
                   ·show Act.put _ (some 42) _ = _
                    simp only [Act.put, List.setIfInBounds_toArray, List.set_cons_zero, List.set_cons_succ]
                    rfl
                   exact norm_ (by first | (simp only [putAll, Act.put, List.setIfInBounds_toArray, List.set_cons_zero, List.set_cons_succ]; done) | (simp only [putAll, Act.put, List.setIfInBounds_toArray, List.set_cons_zero, List.set_cons_succ]; rfl)) (hJ42100 ((v40, v42, v44)) _ HR1)
                  ·skip
                   refine R4.box_ HR.out (N' := 8) rfl rfl ?hrun ?_
                   case hrun => first | (go_simp; done) | (go_simp; rfl)
                   intro b8 w1 HR1
                   refine hK.out _ _ (HSB.out _ HR1.B) (fun hHeld => ?_)
                   clear hK K hHeld
                   refine norm_ (a' := ?_) ?_ ?_
                   rotate_left
                   ·show Act.put _ (some 8) _ = _
                    simp only [Act.put, List.setIfInBounds_toArray, List.set_cons_zero, List.set_cons_succ]
                    rfl
                   exact norm_ (by first | (simp only [putAll, Act.put, List.setIfInBounds_toArray, List.set_cons_zero, List.set_cons_succ]; done) | (simp only [putAll, Act.put, List.setIfInBounds_toArray, List.set_cons_zero, List.set_cons_succ]; rfl)) (hJ41110 ((v40, v44, b8)) _ HR1)
                ·rintro ⟨v40, b8⟩ w HR
                 try dsimp only at HR
                 replace HR : Aside0 (R4 w6 [] [] (some b8) v40 nilV w) := ⟨HR⟩
                 refine norm_ (a' := ?_) ?_ ?_
                 rotate_left
                 ·simp only [putAll, Act.put, List.setIfInBounds_toArray, List.set_cons_zero, List.set_cons_succ]
                  rfl
                 refine two_ (i := 2) (j := 4) (Ni := some 42) (Nj := some 44) #[true, true, true, true, false, false, false, false, false, false, true, false, false] #[true, true, false, true, true, false, false, false, false, false, true, false, false] rfl rfl rfl rfl (by kernel_rfl) (by decide) (by decide) (fun K hK => ?_) (fun K hK => ?_)
                 ·skip
                  refine R4.list_ HR.out (l := l) (A0 := A0) (c0 := c0) (.tmp 40) (.tmp 41) (N' := 42) rfl rfl rfl rfl rfl HCM6.out HLL.out ?_
                  intro v42 w1 HR1
                  refine hK.out _ _ (HSB.out _ HR1.B) (fun hHeld => ?_)
                  clear hK K hHeld
                  refine norm_ (a' := ?_) ?_ ?_
                  rotate_left
                  ·show Act.put _ (some 42) _ = _
                   simp only [Act.put, List.setIfInBounds_toArray, List.set_cons_zero, List.set_cons_succ]
                   rfl
                  exact norm_ (by first | (simp only [putAll, Act.put, List.setIfInBounds_toArray, List.set_cons_zero, List.set_cons_succ]; done) | (simp only [putAll, Act.put, List.setIfInBounds_toArray, List.set_cons_zero, List.set_cons_succ]; rfl)) (hJ42010 ((v40, v42, b8)) _ HR1)
                 ·skip
                  refine R4.one_ HR.out (m := m) (A7 := A7) (c7 := c7) (N' := 44) rfl rfl HC76.out HCL7.out ?hrun ?_
                  case hrun => first | (go_simp; done) | (go_simp; rfl)
                  intro v44 w1 HR1
                  refine hK.out _ _ (HSB.out _ HR1.B) (fun hHeld => ?_)
                  clear hK K hHeld
                  refine norm_ (a' := ?_) ?_ ?_
                  rotate_left
                  ·show Act.put _ (some 44) _ = _
                   simp only [Act.put, List.setIfInBounds_toArray, List.set_cons_zero, List.set_cons_succ]
                   rfl
                  exact norm_ (by first | (simp only [putAll, Act.put, List.setIfInBounds_toArray, List.set_cons_zero, List.set_cons_succ]; done) | (simp only [putAll, Act.put, List.setIfInBounds_toArray, List.set_cons_zero, List.set_cons_succ]; rfl)) (hJ41110 ((v40, v44, b8)) _ HR1)
               ·rintro ⟨v44, b8⟩ w HR
                try dsimp only at HR
                replace HR : Aside0 (R4 w6 [] [m] (some b8) nilV v44 w) := ⟨HR⟩
                refine norm_ (a' := ?_) ?_ ?_
                rotate_left
                ·simp only [putAll, Act.put, List.setIfInBounds_toArray, List.set_cons_zero, List.set_cons_succ]
                 rfl
                refine one_ (i := 0) (N := some 40) #[true, true, false, true, true, false, false, false, false, false, true, false, false] rfl rfl (by kernel_rfl) (by decide) (fun K hK => ?_)
                refine R4.none_ HR.out (N' := 40) rfl rfl ?hrun ?_
                case hrun => first | (go_simp; done) | (go_simp; rfl)
                intro v40 w1 HR1
                refine hK.out _ _ (HSB.out _ HR1.B) (fun hHeld => ?_)
                clear hK K hHeld
                refine norm_ (a' := ?_) ?_ ?_
                rotate_left
                ·show Act.put _ (some 40) _ = _
                 simp only [Act.put, List.setIfInBounds_toArray, List.set_cons_zero, List.set_cons_succ]
                 rfl
                exact norm_ (by first | (simp only [putAll, Act.put, List.setIfInBounds_toArray, List.set_cons_zero, List.set_cons_succ]; done) | (simp only [putAll, Act.put, List.setIfInBounds_toArray, List.set_cons_zero, List.set_cons_succ]; rfl)) (hJ41110 ((v40, v44, b8)) _ HR1)
              ·rintro ⟨v40, v42, v44⟩ w HR
               try dsimp only at HR
               replace HR : Aside0 (R4 w6 l [m] none v42 v44 w) := ⟨HR⟩
               refine norm_ (a' := ?_) ?_ ?_
               rotate_left
               ·simp only [putAll, Act.put, List.setIfInBounds_toArray, List.set_cons_zero, List.set_cons_succ]
                rfl
               refine two_ (i := 5) (j := 10) (Ni := some 45) (Nj := some 8) #[true, true, true, true, true, true, false, false, false, false, false, false, false] #[true, true, true, true, true, false, false, false, false, false, true, false, false] rfl rfl rfl rfl (by kernel_rfl) (by decide) (by decide) (fun K hK => ?_) (fun K hK => ?_)
               ·skip
                refine R4.both_ HR.out (.tmp 42) (.tmp 44) (N' := 45) rfl rfl rfl rfl rfl HLL1.out ?_
                intro v45 w1 HR1
                refine hK.out _ _ (HSB.out _ HR1.B) (fun hHeld => ?_)
                clear hK K hHeld
                refine norm_ (a' := ?_) ?_ ?_
                rotate_left
                ·show Act.put _ (some 45) _ = _
                 simp only [Act.put, List.setIfInBounds_toArray, List.set_cons_zero, List.set_cons_succ]
                 rfl
                exact norm_ (by first | (simp only [putAll, Act.put, List.setIfInBounds_toArray, List.set_cons_zero, List.set_cons_succ]; done) | (simp only [putAll, Act.put, List.setIfInBounds_toArray, List.set_cons_zero, List.set_cons_succ]; rfl)) (hJ52100 ((v40, v42, v44, v45)) _ HR1)
               ·skip
                refine R4.box_ HR.out (N' := 8) rfl rfl ?hrun ?_
                case hrun => first | (go_simp; done) | (go_simp; rfl)
                intro b8 w1 HR1
                refine hK.out _ _ (HSB.out _ HR1.B) (fun hHeld => ?_)
                clear hK K hHeld
                refine norm_ (a' := ?_) ?_ ?_
                rotate_left
                ·show Act.put _ (some 8) _ = _
                 simp only [Act.put, List.setIfInBounds_toArray, List.set_cons_zero, List.set_cons_succ]
                 rfl
                exact norm_ (by first | (simp only [putAll, Act.put, List.setIfInBounds_toArray, List.set_cons_zero, List.set_cons_succ]; done) | (simp only [putAll, Act.put, List.setIfInBounds_toArray, List.set_cons_zero, List.set_cons_succ]; rfl)) (hJ42110 ((v40, v42, v44, b8)) _ HR1)
             ·rintro ⟨v40, v42, b8⟩ w HR
              try dsimp only at HR
              replace HR : Aside0 (R4 w6 l [] (some b8) v42 nilV w) := ⟨HR⟩
              refine norm_ (a' := ?_) ?_ ?_
              rotate_left
              ·simp only [putAll, Act.put, List.setIfInBounds_toArray, List.set_cons_zero, List.set_cons_succ]
               rfl
              refine one_ (i := 4) (N := some 44) #[true, true, true, true, true, false, false, false, false, false, true, false, false] rfl rfl (by kernel_rfl) (by decide) (fun K hK => ?_)
              refine R4.one_ HR.out (m := m) (A7 := A7) (c7 := c7) (N' := 44) rfl rfl HC76.out HCL7.out ?hrun ?_
              case hrun => first | (go_simp; done) | (go_simp; rfl)
              intro v44 w1 HR1
              refine hK.out _ _ (HSB.out _ HR1.B) (fun hHeld => ?_)
              clear hK K hHeld
              refine norm_ (a' := ?_) ?_ ?_
              rotate_left
              ·show Act.put _ (some 44) _ = _
               simp only [Act.put, List.setIfInBounds_toArray, List.set_cons_zero, List.set_cons_succ]
               rfl
              exact norm_ (by first | (simp only [putAll, Act.put, List.setIfInBounds_toArray, List.set_cons_zero, List.set_cons_succ]; done) | (simp only [putAll, Act.put, List.setIfInBounds_toArray, List.set_cons_zero, List.set_cons_succ]; rfl)) (hJ42110 ((v40, v42, v44, b8)) _ HR1)
            ·rintro ⟨v40, v44, b8⟩ w HR
             try dsimp only at HR
             replace HR : Aside0 (R4 w6 [] [m] (some b8) v40 v44 w) := ⟨HR⟩
             refine norm_ (a' := ?_) ?_ ?_
             rotate_left
             ·simp only [putAll, Act.put, List.setIfInBounds_toArray, List.set_cons_zero, List.set_cons_succ]
              rfl
             refine one_ (i := 2) (N := some 42) #[true, true, true, true, true, false, false, false, false, false, true, false, false] rfl rfl (by kernel_rfl) (by decide) (fun K hK => ?_)
             refine R4.list_ HR.out (l := l) (A0 := A0) (c0 := c0) (.tmp 40) (.tmp 41) (N' := 42) rfl rfl rfl rfl rfl HCM6.out HLL.out ?_
             intro v42 w1 HR1
             refine hK.out _ _ (HSB.out _ HR1.B) (fun hHeld => ?_)
             clear hK K hHeld
             refine norm_ (a' := ?_) ?_ ?_
             rotate_left
             ·show Act.put _ (some 42) _ = _
              simp only [Act.put, List.setIfInBounds_toArray, List.set_cons_zero, List.set_cons_succ]
              rfl
             exact norm_ (by first | (simp only [putAll, Act.put, List.setIfInBounds_toArray, List.set_cons_zero, List.set_cons_succ]; done) | (simp only [putAll, Act.put, List.setIfInBounds_toArray, List.set_cons_zero, List.set_cons_succ]; rfl)) (hJ42110 ((v40, v42, v44, b8)) _ HR1)
           ·rintro ⟨v40, v42, v44, b8⟩ w HR
            try dsimp only at HR
            replace HR : Aside0 (R4 w6 l [m] (some b8) v42 v44 w) := ⟨HR⟩
            refine norm_ (a' := ?_) ?_ ?_
            rotate_left
            ·simp only [putAll, Act.put, List.setIfInBounds_toArray, List.set_cons_zero, List.set_cons_succ]
             rfl
            refine one_ (i := 5) (N := some 45) #[true, true, true, true, true, true, false, false, false, false, true, false, false] rfl rfl (by kernel_rfl) (by decide) (fun K hK => ?_)
            refine R4.both_ HR.out (.tmp 42) (.tmp 44) (N' := 45) rfl rfl rfl rfl rfl HLL1.out ?_
            intro v45 w1 HR1
            refine hK.out _ _ (HSB.out _ HR1.B) (fun hHeld => ?_)
            clear hK K hHeld
            refine norm_ (a' := ?_) ?_ ?_
            rotate_left
            ·show Act.put _ (some 45) _ = _
             simp only [Act.put, List.setIfInBounds_toArray, List.set_cons_zero, List.set_cons_succ]
             rfl
            exact norm_ (by first | (simp only [putAll, Act.put, List.setIfInBounds_toArray, List.set_cons_zero, List.set_cons_succ]; done) | (simp only [putAll, Act.put, List.setIfInBounds_toArray, List.set_cons_zero, List.set_cons_succ]; rfl)) (hJ52110 ((v40, v42, v44, v45, b8)) _ HR1)
          ·rintro ⟨v40, v42, v44, v45⟩ w HR
           try dsimp only at HR
           replace HR : Aside0 (R5 w6 (l ++ [m]) none v45 w) := ⟨HR⟩
           refine norm_ (a' := ?_) ?_ ?_
           rotate_left
           ·simp only [putAll, Act.put, List.setIfInBounds_toArray, List.set_cons_zero, List.set_cons_succ]
            rfl
           refine two_ (i := 6) (j := 10) (Ni := some 46) (Nj := some 8) #[true, true, true, true, true, true, true, false, false, false, false, false, false] #[true, true, true, true, true, true, false, false, false, false, true, false, false] rfl rfl rfl rfl (by kernel_rfl) (by decide) (by decide) (fun K hK => ?_) (fun K hK => ?_)
           ·skip
            obtain ⟨A9, c9, rfl, hc9, hC9⟩ := HR.out.C
            refine goes_ Tryd.func18 (by kernel_rfl) rfl #[.slice A9 (l ++ [m]).length c9] ?hw rfl rfl ?ha ?_
            case hw => rfl
            case ha => (try simp only [List.map_toArray, List.map_cons, List.map_nil]); first | done | rfl
            refine (HFU.out A9 c9 _ HR.out.B hC9).mono ?_
            rintro e w1 ⟨A, c, rfl, hU, hcU, hB1⟩
            refine ⟨_, rfl, ?_⟩
            have HR1 : R6 w6 ul none A c w1 := ⟨HR.out.B.trans (hB1.mono HR.out.B.size), Kd.F_mono hU (fun k hk b e => by have := r4_lt (HR.out.g8 b e).1; omega), hcU, fun b hb => ⟨(hB1.block b (r4_lt (HR.out.g8 b hb).1)).trans (HR.out.g8 b hb).1, (HR.out.g8 b hb).2⟩⟩
            clear hU hcU hB1 hc9 hC9
            refine hK.out _ _ (HSB.out _ HR1.B) (fun hHeld => ?_)
            clear hK K hHeld
            refine norm_ (a' := ?_) ?_ ?_
            rotate_left
            ·show Act.put _ (some 46) _ = _
             simp only [Act.put, List.setIfInBounds_toArray, List.set_cons_zero, List.set_cons_succ]
             rfl
            exact norm_ (by first | (simp only [putAll, Act.put, List.setIfInBounds_toArray, List.set_cons_zero, List.set_cons_succ]; done) | (simp only [putAll, Act.put, List.setIfInBounds_toArray, List.set_cons_zero, List.set_cons_succ]; rfl)) (hJ62100 ((v40, v42, v44, .slice A9 (l ++ [m]).length c9, A, c)) _ HR1)
           ·skip
            refine R5.box_ HR.out (N' := 8) rfl rfl ?hrun ?_
            case hrun => first | (go_simp; done) | (go_simp; rfl)
            intro b8 w1 HR1
            refine hK.out _ _ (HSB.out _ HR1.B) (fun hHeld => ?_)
            clear hK K hHeld
            refine norm_ (a' := ?_) ?_ ?_
            rotate_left
            ·show Act.put _ (some 8) _ = _
             simp only [Act.put, List.setIfInBounds_toArray, List.set_cons_zero, List.set_cons_succ]
             rfl
            exact norm_ (by first | (simp only [putAll, Act.put, List.setIfInBounds_toArray, List.set_cons_zero, List.set_cons_succ]; done) | (simp only [putAll, Act.put, List.setIfInBounds_toArray, List.set_cons_zero, List.set_cons_succ]; rfl)) (hJ52110 ((v40, v42, v44, v45, b8)) _ HR1)
         ·rintro ⟨v40, v42, v44, v45, b8⟩ w HR
          try dsimp only at HR
          replace HR : Aside0 (R5 w6 (l ++ [m]) (some b8) v45 w) := ⟨HR⟩
          refine norm_ (a' := ?_) ?_ ?_
          rotate_left
          ·simp only [putAll, Act.put, List.setIfInBounds_toArray, List.set_cons_zero, List.set_cons_succ]
           rfl
          refine one_ (i := 6) (N := some 46) #[true, true, true, true, true, true, true, false, false, false, true, false, false] rfl rfl (by kernel_rfl) (by decide) (fun K hK => ?_)
          obtain ⟨A9, c9, rfl, hc9, hC9⟩ := HR.out.C
          refine goes_ Tryd.func18 (by kernel_rfl) rfl #[.slice A9 (l ++ [m]).length c9] ?hw rfl rfl ?ha ?_
          case hw => rfl
          case ha => (try simp only [List.map_toArray, List.map_cons, List.map_nil]); first | done | rfl
          refine (HFU.out A9 c9 _ HR.out.B hC9).mono ?_
          rintro e w1 ⟨A, c, rfl, hU, hcU, hB1⟩
          refine ⟨_, rfl, ?_⟩
          have HR1 : R6 w6 ul (some b8) A c w1 := ⟨HR.out.B.trans (hB1.mono HR.out.B.size), Kd.F_mono hU (fun k hk b e => by have := r4_lt (HR.out.g8 b e).1; omega), hcU, fun b hb => ⟨(hB1.block b (r4_lt (HR.out.g8 b hb).1)).trans (HR.out.g8 b hb).1, (HR.out.g8 b hb).2⟩⟩
          clear hU hcU hB1 hc9 hC9
          refine hK.out _ _ (HSB.out _ HR1.B) (fun hHeld => ?_)
          clear hK K hHeld
          refine norm_ (a' := ?_) ?_ ?_
          rotate_left
          ·show Act.put _ (some 46) _ = _
           simp only [Act.put, List.setIfInBounds_toArray, List.set_cons_zero, List.set_cons_succ]
           rfl
          exact norm_ (by first | (simp only [putAll, Act.put, List.setIfInBounds_toArray, List.set_cons_zero, List.set_cons_succ]; done) | (simp only [putAll, Act.put, List.setIfInBounds_toArray, List.set_cons_zero, List.set_cons_succ]; rfl)) (hJ62110 ((v40, v42, v44, .slice A9 (l ++ [m]).length c9, A, c, b8)) _ HR1)
        ·rintro ⟨v40, v42, v44, v45, A, c⟩ w HR
         try dsimp only at HR
         replace HR : Aside0 (R6 w6 ul none A c w) := ⟨HR⟩
         refine norm_ (a' := ?_) ?_ ?_
         rotate_left
         ·simp only [putAll, Act.put, List.setIfInBounds_toArray, List.set_cons_zero, List.set_cons_succ]
          rfl
         refine pure_ (i := 7) (N := some 39) (v := ?_) (a' := ?_) #[true, true, true, true, true, true, true, true, false, false, false, false, false] rfl rfl (by kernel_rfl) (fun _ _ _ h => h) (Or.inl ⟨by rfl, ?_⟩) ?_ ?_
         rotate_left
         ·intro w'
          go_simp
          with_reducible rfl
         rotate_left
         ·simp only [Act.put, List.setIfInBounds_toArray, List.set_cons_zero, List.set_cons_succ]
          rfl
         refine pure_ (i := 8) (N := some 47) (v := ?_) (a' := ?_) #[true, true, true, true, true, true, true, true, true, false, false, false, false] rfl rfl (by kernel_rfl) (fun _ _ _ h => h) (Or.inl ⟨by rfl, ?_⟩) ?_ ?_
         rotate_left
         ·intro w'
          go_simp
          with_reducible rfl
         rotate_left
         ·simp only [Act.put, List.setIfInBounds_toArray, List.set_cons_zero, List.set_cons_succ]
          rfl
         refine pure_ (i := 9) (N := some 48) (v := ?_) (a' := ?_) #[true, true, true, true, true, true, true, true, true, true, false, false, false] rfl rfl (by kernel_rfl) (fun _ _ _ h => h) (Or.inl ⟨by rfl, ?_⟩) ?_ ?_
         rotate_left
         ·intro w'
          go_simp
          with_reducible rfl
         rotate_left
         ·simp only [Act.put, List.setIfInBounds_toArray, List.set_cons_zero, List.set_cons_succ]
          rfl
         refine one_ (i := 10) (N := some 8) #[true, true, true, true, true, true, true, true, true, true, true, false, false] rfl rfl (by kernel_rfl) (by decide) (fun K hK => ?_)
         refine R6.box_ HR.out (N' := 8) rfl rfl ?hrun ?_
         case hrun => first | (go_simp; done) | (go_simp; rfl)
         intro b8 w1 HR1
         refine hK.out _ _ (HSB.out _ HR1.B) (fun hHeld => ?_)
         clear hK K hHeld
         refine norm_ (a' := ?_) ?_ ?_
         rotate_left
         ·show Act.put _ (some 8) _ = _
          simp only [Act.put, List.setIfInBounds_toArray, List.set_cons_zero, List.set_cons_succ]
          rfl
         exact norm_ (by first | (simp only [putAll, Act.put, List.setIfInBounds_toArray, List.set_cons_zero, List.set_cons_succ]; done) | (simp only [putAll, Act.put, List.setIfInBounds_toArray, List.set_cons_zero, List.set_cons_succ]; rfl)) (hJ62111 ((v40, v42, v44, v45, A, c, b8)) _ HR1)
       ·rintro ⟨v40, v42, v44, v45, A, c, b8⟩ w HR
        try dsimp only at HR
        replace HR : Aside0 (R6 w6 ul (some b8) A c w) := ⟨HR⟩
        refine norm_ (a' := ?_) ?_ ?_
        rotate_left
        ·simp only [putAll, Act.put, List.setIfInBounds_toArray, List.set_cons_zero, List.set_cons_succ]
         rfl
        refine pure_ (i := 7) (N := some 39) (v := ?_) (a' := ?_) #[true, true, true, true, true, true, true, true, false, false, true, false, false] rfl rfl (by kernel_rfl) (fun _ _ _ h => h) (Or.inl ⟨by rfl, ?_⟩) ?_ ?_
        rotate_left
        ·intro w'
         go_simp
         with_reducible rfl
        rotate_left
        ·simp only [Act.put, List.setIfInBounds_toArray, List.set_cons_zero, List.set_cons_succ]
         rfl
        refine pure_ (i := 8) (N := some 47) (v := ?_) (a' := ?_) #[true, true, true, true, true, true, true, true, true, false, true, false, false] rfl rfl (by kernel_rfl) (fun _ _ _ h => h) (Or.inl ⟨by rfl, ?_⟩) ?_ ?_
        rotate_left
        ·intro w'
         go_simp
         with_reducible rfl
        rotate_left
        ·simp only [Act.put, List.setIfInBounds_toArray, List.set_cons_zero, List.set_cons_succ]
         rfl
        refine pure_ (i := 9) (N := some 48) (v := ?_) (a' := ?_) #[true, true, true, true, true, true, true, true, true, true, true, false, false] rfl rfl (by kernel_rfl) (fun _ _ _ h => h) (Or.inl ⟨by rfl, ?_⟩) ?_ ?_
        rotate_left
        ·intro w'
         go_simp
         with_reducible rfl
        rotate_left
        ·simp only [Act.put, List.setIfInBounds_toArray, List.set_cons_zero, List.set_cons_succ]
         rfl
        have HR1 := HR.out
        exact norm_ (by first | (simp only [putAll, Act.put, List.setIfInBounds_toArray, List.set_cons_zero, List.set_cons_succ]; done) | (simp only [putAll, Act.put, List.setIfInBounds_toArray, List.set_cons_zero, List.set_cons_succ]; rfl)) (hJ62111 ((v40, v42, v44, v45, A, c, b8)) _ HR1)
      ·rintro ⟨v40, v42, v44, v45, A, c, b8⟩ w HR
       try dsimp only at HR
       replace HR : Aside0 (R6 w6 ul (some b8) A c w) := ⟨HR⟩
       refine norm_ (a' := ?_) ?_ ?_
       rotate_left
       ·simp only [putAll, Act.put, List.setIfInBounds_toArray, List.set_cons_zero, List.set_cons_succ]
        rfl
       refine pure_ (i := 11) (N := some 7) (v := ?_) (a' := ?_) #[true, true, true, true, true, true, true, true, true, true, true, true, false] rfl rfl (by kernel_rfl) (fun _ _ _ h => h) (Or.inl ⟨by rfl, ?_⟩) ?_ ?_
       rotate_left
       ·intro w'
        go_simp
        with_reducible rfl
       rotate_left
       ·simp only [Act.put, List.setIfInBounds_toArray, List.set_cons_zero, List.set_cons_succ]
        rfl
       obtain ⟨hb8, hge⟩ := HR.out.g8 b8 rfl
       refine one_ (i := 12) (N := none) #[true, true, true, true, true, true, true, true, true, true, true, true, true] rfl rfl (by kernel_rfl) (by decide) (fun K hK => ?_)
       have hs0 : w.cell? ⟨b8, 0, none⟩ = some (.int .i64 0) := (blk_cell hb8 0).trans rfl
       have hf0 := blk_frozen hb8 0
       have hs1 : w.cell? ⟨b8, 1, none⟩ = some (.int .i64 0) := (blk_cell hb8 1).trans rfl
       have hf1 := blk_frozen hb8 1
       refine skip_ (w1 := ?_) (by rfl) rfl ?_ ?_
       rotate_left
       ·go_simp
        rfl
       obtain ⟨q1, q2, q3⟩ := HR.out.stored e1 n1
       have hcu := HR.out.hc
       refine hK.out _ _ (HSB.out _ q1) (fun hHeld => ?_)
       clear hK K hHeld
       refine done_ (by kernel_rfl) ?_
       generalize (w.setCell ⟨b8, 0, none⟩ (.int .i64 e1)).setCell ⟨b8, 1, none⟩ (.int .i64 n1) = wz at q1 q2 q3 ⊢
       have HLM4 : Aside0 (LMid W m A7 c7 A5 tl b6 e0 n0 A c ul b8 e1 n1 wz) := ⟨⟨HB6.out.trans (q1.mono HB6.out.size), box_keep HX6.out q1, Kd.C_below HC6.out q1, (q1.block _ (blk_lt2 HF6.out)).trans HF6.out, q2, hcu, q3⟩⟩
       clear q1 q2 q3 hcu hs0 hs1 hf0 hf1 hb8 hge
       go_wp2
       go_meet
       exact ⟨A, c, b8, rfl, rfl, HLM4⟩
     case rest =>
      obtain ⟨Au, cu, b8, rfl, rfl, HM⟩ := hcut
      obtain ⟨f0, f1⟩ := fault_facts HM.out.F
      by_cases he0 : e0 = 0
      ·subst he0
       obtain ⟨_, he1, hok⟩ := HLAST.out.resolve_left (fun h => h.1 rfl)
       subst he1
       have HOK := Aside0.mk hok
       have htl : tl.length ≤ l.length := by rw [← HT0.out]; exact (fold_good HZL.out (by have := HL.out.1; omega)).1
       have htl2 : (tl.length : Int) ≤ 60 := by have := HL.out.1; omega
       have hul : ul.length ≤ 61 := by have := hok.le; omega
       have HUL := Aside0.mk hul
       clear hok HLAST htl hul
       go_upto_region 7 with (fail)
       go_wp2
       go_loopw [9] (fun i wr => ∃ n : Int, i = .int .i64 n ∧ Aside0 (LRel W m A7 c7 A5 tl b6 n0 Au cu ul b8 n1 n wr)) (fun i _ => (tl.length - (intOf i)).toNat)
       case atStart => exact ⟨0, rfl, ⟨⟨by omega, by omega, HM.out⟩⟩⟩
       case round =>
        obtain ⟨n, rfl, HR⟩ := hrel
        have h0 := HR.out.1
        have h1 := HR.out.2.1
        have HMR := Aside0.mk HR.out.2.2
        by_cases hlt : n < (tl.length : Int)
        ·have c1b : decide (n < (tl.length : Int)) = true := decide_eq_true hlt
         have htl3 := htl2
         obtain ⟨ad, Ax, cx, hA5, x0, _⟩ := at_T38 HMR.out.T n h0 hlt
         have hxm : rd_T38 tl n ∈ tl := by rw [rdN_at tl n h0 hlt]; exact List.getElem_mem _
         generalize hxe : rd_T38 tl n = x at x0 hxm
         have HXE := Aside0.mk hxe
         have HXM := Aside0.mk hxm
         clear hxe hxm htl3
         subst hA5
         by_cases he : x.f0.toList = m.f0.toList
         ·have e1 : (x.f0.toList == m.f0.toList) = true := by simpa using he
          have e2 : (x.f0.toList != m.f0.toList) = false := by simpa using he
          clear he
          go_upto_region 11 with (first
           | (go_at_call 19; refine (UFind Au cu ul x.f0 _ HMR.out.U HMR.out.hu (by have := HUL.out; omega)).mono ?_; rintro e w7 ⟨y', b', A8, c8, hq, rfl, hc8, hC8, hB8⟩; have HC8 := Aside0.mk hC8; have HCL8 := Aside0.mk hc8; have HM7 := Aside0.mk (HMR.out.below hB8); clear hq hc8 hC8 hB8 x0)
           | fail)
          have f8 : ∃ w8 b9, w8 = w7.alloc (Obj.cells #[Value.string y'.f0, Value.string y'.f1, Value.string y'.f2, Value.int IntKind.u8 y'.f3, Value.int IntKind.i64 y'.f4.f0, Value.int IntKind.i64 y'.f4.f1, Value.int IntKind.i64 y'.f4.f2, Value.int IntKind.i64 y'.f4.f3, Value.slice A8 y'.f5.length c8] 38) ∧ b9 = w7.heap.size ∧ LMid W m A7 c7 (some ad) tl b6 0 n0 Au cu ul b8 0 n1 w8 ∧ w8.heap[b9]? = some (.cells #[Value.string y'.f0, Value.string y'.f1, Value.string y'.f2, Value.int IntKind.u8 y'.f3, Value.int IntKind.i64 y'.f4.f0, Value.int IntKind.i64 y'.f4.f1, Value.int IntKind.i64 y'.f4.f2, Value.int IntKind.i64 y'.f4.f3, Value.slice A8 y'.f5.length c8] 38 (0, 0)) ∧ Kd.C (Kd.int .u8) w8 A8 y'.f5.length y'.f5 :=
           ⟨_, _, rfl, rfl, HM7.out.below (below_alloc (Below.refl _ _) _), blk_new _ _, Kd.C_alloc HC8.out _⟩
          obtain ⟨w8, b9, e8, e9, hM8, hN8, hC8⟩ := f8
          rw [← e8, ← e9]
          have HM8 := Aside0.mk hM8
          have HN8 := Aside0.mk hN8
          have HC8' := Aside0.mk hC8
          clear e8 e9 hM8 hN8 hC8 HC8 HM7 HMR HM HR f0 f1
          obtain ⟨m0, m1, m2, m3, m4, m5, m6, m7⟩ := mem_facts HM8.out.X
          obtain ⟨ad', Ax, cx, hA5, x0, x1, x2, x3, x4, x5, x6, x7, x8, hlx, hCx⟩ := at_T38 HM8.out.T n h0 hlt
          rw [HXE.out] at x0 x1 x2 x3 x4 x5 x6 x7 x8 hlx hCx
          obtain rfl := Option.some.inj hA5
          clear hlx hCx x1 x2 x3 x4 x5 x6 x7 x8
          go_quiet (fail)
          have hfin : LRel W m A7 c7 (some ad) tl b6 n0 Au cu ul b8 n1 (n + 1) (w8.drewN nq) := ⟨by omega, by omega, HM8.out.below (pw_below_drewN (Below.refl _ _) _)⟩
          have HFIN := Aside0.mk hfin
          clear hfin
          go_wp2
          go_roundw
          case rel => exact ⟨n + 1, by go_num, HFIN⟩
          case measure => simp [intOf]; omega
         ·have e1 : (x.f0.toList == m.f0.toList) = false := by simpa using he
          have e2 : (x.f0.toList != m.f0.toList) = true := by simpa using he
          obtain ⟨y, hy, hye⟩ := HOK.out.old x HXM.out he
          have HY := Aside0.mk hy
          have HYE := Aside0.mk hye
          clear he hy hye
          go_upto_region 11 with (first
           | (go_at_call 19; refine (UFind Au cu ul x.f0 _ HMR.out.U HMR.out.hu (by have := HUL.out; omega)).mono ?_; rintro e w7 ⟨y', b', A8, c8, hq, rfl, hc8, hC8, hB8⟩; obtain ⟨rfl, rfl⟩ := hq y HY.out; have HC8 := Aside0.mk hC8; have HCL8 := Aside0.mk hc8; have HM7 := Aside0.mk (HMR.out.below hB8); clear hq hc8 hC8 hB8 x0)
           | fail)
          have f8 : ∃ w8 b9, w8 = w7.alloc (Obj.cells #[Value.string y'.f0, Value.string y'.f1, Value.string y'.f2, Value.int IntKind.u8 y'.f3, Value.int IntKind.i64 y'.f4.f0, Value.int IntKind.i64 y'.f4.f1, Value.int IntKind.i64 y'.f4.f2, Value.int IntKind.i64 y'.f4.f3, Value.slice A8 y'.f5.length c8] 38) ∧ b9 = w7.heap.size ∧ LMid W m A7 c7 (some ad) tl b6 0 n0 Au cu ul b8 0 n1 w8 ∧ w8.heap[b9]? = some (.cells #[Value.string y'.f0, Value.string y'.f1, Value.string y'.f2, Value.int IntKind.u8 y'.f3, Value.int IntKind.i64 y'.f4.f0, Value.int IntKind.i64 y'.f4.f1, Value.int IntKind.i64 y'.f4.f2, Value.int IntKind.i64 y'.f4.f3, Value.slice A8 y'.f5.length c8] 38 (0, 0)) ∧ Kd.C (Kd.int .u8) w8 A8 y'.f5.length y'.f5 :=
           ⟨_, _, rfl, rfl, HM7.out.below (below_alloc (Below.refl _ _) _), blk_new _ _, Kd.C_alloc HC8.out _⟩
          obtain ⟨w8, b9, e8, e9, hM8, hN8, hC8⟩ := f8
          rw [← e8, ← e9]
          have HM8 := Aside0.mk hM8
          have HN8 := Aside0.mk hN8
          have HC8' := Aside0.mk hC8
          clear e8 e9 hM8 hN8 hC8 HC8 HM7 HMR HM HR f0 f1
          obtain ⟨m0, m1, m2, m3, m4, m5, m6, m7⟩ := mem_facts HM8.out.X
          obtain ⟨ad', Ax, cx, hA5, x0, x1, x2, x3, x4, x5, x6, x7, x8, hlx, hCx⟩ := at_T38 HM8.out.T n h0 hlt
          rw [HXE.out] at x0 x1 x2 x3 x4 x5 x6 x7 x8 hlx hCx
          obtain rfl := Option.some.inj hA5
          obtain ⟨k0, k1, k2, k3, k4, k5, k6, k7, k8⟩ := node_facts HN8.out
          have HLX := Aside0.mk hlx
          have HCX := Aside0.mk hCx
          clear hlx hCx
          go_still_tail 17, (by kernel_rfl)
          change wpList _ _ _ _ _ w8.drew
          obtain ⟨w2, e3, hb2⟩ : ∃ w2, w2 = w8.drew ∧ Below w8.heap.size w8 w2 := ⟨_, rfl, below_drew (Below.refl _ _)⟩
          rw [← e3]
          have HB2' := Aside0.mk hb2
          clear e3 hb2 x0 x1 x2 x3 x4 x5 x6 x7 x8 k0 k1 k2 k3 k4 k5 k6 k7 k8 m0 m1 m2 m3 m4 m5 m6 m7
          go_wp2_with (first
           | (go_at_call 20; refine (bindleref08_Equal.calls y'.f0 y'.f1 y'.f2 y'.f3 y'.f4.f0 y'.f4.f1 y'.f4.f2 y'.f4.f3 A8 c8 y'.f5 x.f0 x.f1 x.f2 x.f3 x.f4.f0 x.f4.f1 x.f4.f2 x.f4.f3 Ax cx x.f5 true _ (Kd.C_below HC8'.out HB2'.out) HCL8.out (Kd.C_below HCX.out HB2'.out) HLX.out (by rw [requal_f, HYE.out])).mono ?_; rintro e w9 ⟨rfl, hb9⟩; have HM9 := Aside0.mk ((HM8.out.below HB2'.out).below hb9); clear hb9)
           | fail)
          have hfin : LRel W m A7 c7 (some ad) tl b6 n0 Au cu ul b8 n1 (n + 1) w9 := ⟨by omega, by omega, HM9.out⟩
          have HFIN := Aside0.mk hfin
          clear hfin
          go_roundw
          case rel => exact ⟨n + 1, by go_num, HFIN⟩
          case measure => simp [intOf]; omega
        ·have c1b : decide (n < (tl.length : Int)) = false := decide_eq_false hlt
         obtain ⟨m0, m1, m2, m3, m4, m5, m6, m7⟩ := mem_facts HMR.out.X
         obtain ⟨⟨yf0, yf1, yf2, yf3, yf4, yf5⟩, hy, y3, y4, y1, y5⟩ := HOK.out.new
         dsimp only at y3 y4 y1 y5
         subst y3 y4 y1 y5
         have HY := Aside0.mk hy
         have HGE := Aside0.mk HOK.out.ge
         have HLE := Aside0.mk HOK.out.le
         clear hy
         go_upto_region 14 with (first
          | (go_at_call 19; refine (UFind Au cu ul m.f0 _ HMR.out.U HMR.out.hu (by have := HUL.out; omega)).mono ?_; rintro e w7 ⟨y', b', A8, c8, hq, rfl, hc8, hC8, hB8⟩; obtain ⟨rfl, rfl⟩ := hq _ HY.out; dsimp only at hc8 hC8; have HC8 := Aside0.mk hC8; have HCL8 := Aside0.mk hc8; have HM7 := Aside0.mk (HMR.out.below hB8); clear hq hc8 hC8 hB8 m0 m1 m2 m3 m4 m5 m6 m7)
          | fail)
         have f8 : ∃ w8 b9, w8 = w7.alloc (Obj.cells #[Value.string yf0, Value.string m.f1, Value.string yf2, Value.int IntKind.u8 m.f2, Value.int IntKind.i64 m.f3.f0, Value.int IntKind.i64 m.f3.f1, Value.int IntKind.i64 m.f3.f2, Value.int IntKind.i64 m.f3.f3, Value.slice A8 m.f4.length c8] 38) ∧ b9 = w7.heap.size ∧ LMid W m A7 c7 A5 tl b6 0 n0 Au cu ul b8 0 n1 w8 ∧ w8.heap[b9]? = some (.cells #[Value.string yf0, Value.string m.f1, Value.string yf2, Value.int IntKind.u8 m.f2, Value.int IntKind.i64 m.f3.f0, Value.int IntKind.i64 m.f3.f1, Value.int IntKind.i64 m.f3.f2, Value.int IntKind.i64 m.f3.f3, Value.slice A8 m.f4.length c8] 38 (0, 0)) ∧ Kd.C (Kd.int .u8) w8 A8 m.f4.length m.f4 :=
          ⟨_, _, rfl, rfl, HM7.out.below (below_alloc (Below.refl _ _) _), blk_new _ _, Kd.C_alloc HC8.out _⟩
         obtain ⟨w8, b9, e8, e9, hM8, hN8, hC8⟩ := f8
         rw [← e8, ← e9]
         have HM8 := Aside0.mk hM8
         have HN8 := Aside0.mk hN8
         have HC8' := Aside0.mk hC8
         clear e8 e9 hM8 hN8 hC8 HC8 HM7 HMR HM HR h0 h1
         have q1 : tl.length ≤ ul.length := HGE.out
         have q2 : ul.length ≤ tl.length + 1 := HLE.out
         have q3 : (ul.length : Int) ≤ (tl.length : Int) + 1 := by omega
         go_wp2_with (first
          | (go_at_call 17; refine (bindlelaw10_answers.calls true _ (HT.out _ HM8.out.B) rfl).mono ?_; rintro e w9 ⟨rfl, hbe⟩; have HM9 := Aside0.mk (HM8.out.below hbe); have HN9 := Aside0.mk ((hbe.block _ (blk_lt2 HN8.out)).trans HN8.out); have HC9 := Aside0.mk (Kd.C_below HC8'.out hbe); clear hbe f0 f1; obtain ⟨g0, g1⟩ := fault_facts HM9.out.G; obtain ⟨m0, m1, m2, m3, m4, m5, m6, m7⟩ := mem_facts HM9.out.X; obtain ⟨k0, k1, k2, k3, k4, k5, k6, k7, k8⟩ := node_facts (y := ⟨yf0, m.f1, yf2, m.f2, m.f3, m.f4⟩) HN9.out; dsimp only at k0 k1 k2 k3 k4 k5 k6 k7; have hcv12 := Kd.C_string (P := Tryd.prog) (A := A8) (c := c8) Tryd.underlying25 Tryd.underlying5 Tryd.underlying9 HC9.out; have hcv13 := Kd.C_string (P := Tryd.prog) (A := A7) (c := c7) Tryd.underlying25 Tryd.underlying5 Tryd.underlying9 (Kd.C_below HC7.out HM9.out.B))
          | fail)
         rw [← hQ.out]
         exact ⟨rfl, HM9.out.B⟩
      ·have hd0 : (e0 != 0) = true := bne_iff_ne.2 he0
       have hd1 : (e0 == 0) = false := beq_eq_false_iff_ne.2 he0
       have hsame : e1 = e0 ∧ n1 = n0 := (HLAST.out.resolve_right (fun h => he0 h.1)).2
       have HM2 := HM.out
       rw [hsame.1, hsame.2] at HM2
       have HM2 := Aside0.mk HM2
       clear hsame HM HLAST HE1 HN1 he0
       go_wp2_with (first
        | (go_at_call 17; refine (bindlelaw10_answers.calls true _ (HT.out _ HM2.out.B) rfl).mono ?_; rintro e w9 ⟨rfl, hbe⟩; have HM3 := Aside0.mk (HM2.out.below hbe); clear hbe f0 f1; obtain ⟨f0, f1⟩ := fault_facts HM3.out.F; obtain ⟨g0, g1⟩ := fault_facts HM3.out.G)
        | fail)
       rw [← hQ.out]
       exact ⟨rfl, HM3.out.B⟩
end Go.Proofs.YtfmphccoeinhcaaDoor

namespace Go.Proofs.YtfmphccoeinhcaaDoor.Print
open Go.RowKit Go.Proofs.YtfmphccoeinhcaaDoor Go.Proofs.YtfmphccoeinhcaaDoorW.PrintWords Go.Proofs.YtfmphccoeinhcaaDoorW.PrintLast Go.Proofs.YtfmphccoeinhcaaDoorW.PrintMore
def LastCond (l : List Mem) (m : Mem) : Prop := l.length ≤ 140737488351232 ∧ MemR m
open Classical in
noncomputable def bindlelaw10_TreeLast.f (_k : Nat) (l0 : List S27) (m : S27) : Option Bool := if LastCond l0 m then some true else none
theorem bindlelaw10_TreeLast.calls (k : Nat) (A0 : Option Addr) (c0 : Nat) (l0 : List S27) (m : S27) (A1 : Option Addr) (c1 : Nat) (r : Bool) (w : World) (hT : Aside0 (Tabs w)) (hr0 : Kd.C k27 w A0 l0.length l0) (hc0 : l0.length ≤ c0) (hr1 : Kd.C (Kd.int .u8) w A1 m.f4.length m.f4) (hc1 : m.f4.length ≤ c1) (h : bindlelaw10_TreeLast.f k l0 m = some r) :
  Calls Tryd.prog 3 #[.slice A0 l0.length c0, .agg (memArr m A1 c1)] w fun e w' => e = .returned (.bool r) ∧ Below w.heap.size w w' := by
 unfold bindlelaw10_TreeLast.f at h
 split at h
 ·rename_i hc
  obtain rfl := Option.some.inj h
  exact Last_calls A0 c0 l0 m A1 c1 w hT.out hr0 hc0 hc.1 hr1 hc1 hc.2
 ·cases h
theorem bindlelaw10_TreeLast.true_of (l : List S27) (m : S27) (h2 : l.length ≤ 140737488351232) (h1 : MemR m) : Ev (fun k => bindlelaw10_TreeLast.f k l m) true :=
 Ev.congr (fun _ => if_pos ⟨h2, h1⟩) (Ev.now true)
end Go.Proofs.YtfmphccoeinhcaaDoor.Print

namespace Go.Proofs.YtfmphccoeinhcaaDoor
open Go.RowKit Go.Lib Go.Proofs.YtfmphccoeinhcaaDoorW.PrintWords
theorem laidOut : laidOutB Tryd.prog = true := by kernel_rfl
end Go.Proofs.YtfmphccoeinhcaaDoor

namespace Go.Proofs.YtfmphccoeinhcaaDoor
open Go.ChangeShapes Go.WideShapes Go.RowKit Go.Proofs.YtfmphccoeinhcaaDoorW.PrintWords
structure Opens {α : Type} (P : Program) (d : Kd α) (t : TypeId) (B : α → Prop) : Prop where
 sz : P.cellsOf t = d.sz
 get : ∀ {H : Type} {enc : TypeId × Value → H} {W : World} {fuel : Nat} {cs : List Value} {x : DataW H × List MemPlace},
  DataW.trod enc P W 0 (fun _ => true) true fuel t cs = some x → (∀ n ∈ x.1.weights P t, n ≤ reachBytes) → ∃ a, d.K W a cs ∧ B a
theorem Opens.int {P : Program} {t : TypeId} {k : IntKind} (ht : P.underlying t = some (.int k)) (hc : P.cellsOf t = 1) : Opens P (Kd.int k) t (fun n => (Lit.int k n).wf = true) :=
 ⟨hc, fun h _ => by
  obtain ⟨n, rfl, rfl, hw⟩ := DataW.trod_int ht h
  exact ⟨n, rfl, hw⟩⟩
theorem Opens.bool {P : Program} {t : TypeId} (ht : P.underlying t = some .bool) (hc : P.cellsOf t = 1) : Opens P Kd.bool t (fun _ => True) :=
 ⟨hc, fun h _ => by
  obtain ⟨n, rfl, rfl⟩ := DataW.trod_bool ht h
  exact ⟨n, rfl, trivial⟩⟩
theorem Opens.string {P : Program} {t : TypeId} (ht : P.underlying t = some .string) (hc : P.cellsOf t = 1) : Opens P Kd.string t (fun s => s.size ≤ 140737488351232) :=
 ⟨hc, fun h hw => by
  obtain ⟨s, rfl, rfl, _⟩ := DataW.trod_string ht h
  refine ⟨s, rfl, ?_⟩
  have := hw s.data.toList.length (by simp [DataW.weights])
  have e : s.data.toList.length = s.size := by simp
  rw [e] at this
  exact this⟩
theorem each_list {α : Type} {Q : Nat → α → Prop} : ∀ n : Nat, (∀ i, i < n → ∃ x, Q i x) → ∃ xs : List α, xs.length = n ∧ ∀ i x, xs[i]? = some x → Q i x := by
 intro n
 induction n with
 | zero => exact fun _ => ⟨[], rfl, fun i x h => by simp at h⟩
 | succ n ih =>
  intro h
  obtain ⟨xs, hl, hx⟩ := ih (fun i hi => h i (by omega))
  obtain ⟨y, hy⟩ := h n (by omega)
  refine ⟨xs ++ [y], by simp [hl], fun i x hi => ?_⟩
  rcases Nat.lt_or_ge i n with h1 | h1
  ·rw [List.getElem?_append_left (by omega)] at hi
   exact hx i x hi
  ·rw [List.getElem?_append_right (by omega)] at hi
   have h0 : i - xs.length = 0 := by
    have := (List.getElem?_eq_some_iff.1 hi).1
    simp at this
    omega
   rw [h0] at hi
   simp at hi
   subst hi
   obtain rfl : i = n := by omega
   exact hy
theorem weights_all {H : Type} {P : Program} {e : TypeId} : ∀ {l : List (DataW H)} {y : DataW H}, y ∈ l → ∀ n ∈ y.weights P e, n ∈ DataW.weightsAll P e l
 | z :: r, y, hy, n, hn => by
  simp only [DataW.weightsAll, List.mem_append]
  rcases List.mem_cons.1 hy with rfl | hy
  ·exact .inl hn
  ·exact .inr (weights_all hy n hn)
theorem add_add (a : Addr) (x y : Nat) : (a.add x).add y = a.add (x + y) := by
 unfold Addr.add
 split
 ·rename_i h
  subst h
  simp
 ·rename_i h
  split
  ·rename_i h2
   subst h2
   simp [h]
  ·rw [if_neg (by omega)]
   simp [Nat.add_assoc]
theorem Opens.slice {α : Type} {P : Program} {d : Kd α} {B : α → Prop} {t e : TypeId} (ht : P.underlying t = some (.slice e)) (hc : P.cellsOf t = 1) (h : Opens P d e B) :
  Opens P (Kd.slice e d) t (fun xs => xs.length * P.bytesOf e ≤ 140737488351232 ∧ ∀ x ∈ xs, B x) :=
 ⟨hc, fun {H enc W fuel cs x} hf hw => by
  rcases DataW.trod_slice ht hf with ⟨rfl, rfl⟩ | ⟨a, len, cap, elems, rest, n, _, rfl, rfl, hb, hl, hm, hlen, hel, hsp, hns⟩
  ·exact ⟨[], ⟨none, 0, rfl, Nat.le_refl _, Kd.C_nil d W⟩, by simp, fun x hx => by cases hx⟩
  ·simp only [DataW.weights, ht] at hw
   have each : ∀ i, i < len → ∃ z : α, B z ∧ ∃ c, c.length = d.sz ∧ d.K W z c ∧ ∀ j u, c[j]? = some u → W.cell? (a.add (i * d.sz + j)) = some u := by
    intro i hi
    have h1 := hel i hi
    have hi' : i < elems.length := by omega
    rw [List.getElem?_eq_getElem hi', Option.bind_eq_some_iff] at h1
    obtain ⟨c, hcs, hy⟩ := h1
    obtain ⟨-, h2, h3⟩ := World.cells?_some hcs
    obtain ⟨z, hz, hB⟩ := h.get hy (fun n hn => hw n (by
     simp only [List.mem_cons, List.mem_append]
     exact .inr (.inl (weights_all (List.mem_map.2 ⟨_, List.getElem_mem hi', rfl⟩) n hn))))
    refine ⟨z, hB, c, by rw [h2, h.sz], hz, fun j u hj => ?_⟩
    have hj' : j < P.cellsOf e := by
     have := (List.getElem?_eq_some_iff.1 hj).1
     omega
    have h4 := h3 j hj'
    rw [add_add, h.sz] at h4
    rw [h4, hj]
   obtain ⟨xs, hxl, hxs⟩ := each_list len each
   subst hxl
   have hz := hw _ (List.mem_cons_self ..)
   simp only [List.length_map] at hz
   have h5 : xs.length * P.bytesOf e ≤ (elems.length + rest.length) * P.bytesOf e := Nat.mul_le_mul_right _ (by omega)
   have h6 : reachBytes = 140737488351232 := rfl
   refine ⟨xs, ⟨some a, cap, rfl, hl, rfl, ?_, fun _ => ⟨a, rfl, fun j p hj => (hxs j p hj).2⟩⟩, by omega, fun x hx => ?_⟩
   ·have : maxLen = 9223372036854775807 := rfl
    omega
   ·obtain ⟨i, hi⟩ := List.getElem?_of_mem hx
    exact (hxs i x hi).1⟩
structure OpensF {α : Type} (P : Program) (d : Kd α) (fs : List Field) (o : Nat) (B : α → Prop) : Prop where
 get : ∀ {H : Type} {enc : TypeId × Value → H} {W : World} {n : Nat} {cs : List Value} {xs : List (DataW H × List MemPlace)}, xs.length = fs.length →
  (∀ (i : Nat) (f : Field), fs[i]? = some f → DataW.trod enc P W 0 (fun _ => true) true n f.type ((cs.drop f.offset).take (P.cellsOf f.type)) = xs[i]?) →
  (∀ m ∈ DataW.weightsEach P (fs.map (·.type)) (xs.map (·.1)), m ≤ reachBytes) → ∃ a, d.K W a ((cs.drop o).take d.sz) ∧ B a
theorem OpensF.one {α : Type} {P : Program} {d : Kd α} {B : α → Prop} {f : Field} {o : Nat} (ho : f.offset = o) (h : Opens P d f.type B) : OpensF P d [f] o B := by
 refine ⟨fun {H enc W n cs xs} hl hx hw => ?_⟩
 match xs, hl with
 | [x], _ =>
  have h0 := hx 0 f rfl
  rw [h.sz, ho] at h0
  simp only [List.getElem?_cons_zero] at h0
  exact h.get h0 (fun m hm => hw m (by simp only [List.map_cons, List.map_nil, DataW.weightsEach, List.mem_append]; exact .inl hm))
theorem OpensF.cons {α β : Type} {P : Program} {d : Kd α} {d' : Kd β} {B : α → Prop} {B' : β → Prop} {f : Field} {fs : List Field} {o : Nat} (ho : f.offset = o) (h : Opens P d f.type B) (h' : OpensF P d' fs (o + d.sz) B') :
  OpensF P (Kd.pair d d') (f :: fs) o (fun x => B x.1 ∧ B' x.2) := by
 refine ⟨fun {H enc W n cs xs} hl hx hw => ?_⟩
 match xs, hl with
 | x :: xs, hl =>
  have h0 := hx 0 f rfl
  rw [h.sz, ho] at h0
  simp only [List.getElem?_cons_zero] at h0
  obtain ⟨a, ha, hB⟩ := h.get h0 (fun m hm => hw m (by simp only [List.map_cons, DataW.weightsEach, List.mem_append]; exact .inl hm))
  obtain ⟨b, hb, hB'⟩ := h'.get (enc := enc) (W := W) (n := n) (cs := cs) (xs := xs) (by simpa using hl) (fun i g hg => by have := hx (i + 1) g (by simpa using hg); simpa using this)
   (fun m hm => hw m (by simp only [List.map_cons, DataW.weightsEach, List.mem_append]; exact .inr hm))
  refine ⟨(a, b), ⟨_, _, ?_, ha, hb⟩, hB, hB'⟩
  show (cs.drop o).take (d.sz + d'.sz) = _
  rw [List.take_add, List.drop_drop]
theorem Opens.struct {α β : Type} {P : Program} {d : Kd α} {B : α → Prop} {t : TypeId} {fs : Array Field} (ht : P.underlying t = some (.struct fs)) (hc : P.cellsOf t = d.sz) (h : OpensF P d fs.toList 0 B) (f : β → α) (g : α → β) (hg : ∀ a, f (g a) = a) :
  Opens P (Kd.iso d f) t (fun x => B (f x)) :=
 ⟨hc, fun {H enc W fuel cs x} hf hw => by
  obtain ⟨xs, n, _, rfl, hl, hlen, hx⟩ := DataW.trod_struct ht hf
  simp only [DataW.weights, ht] at hw
  obtain ⟨a, ha, hB⟩ := h.get (enc := enc) (W := W) (n := n) (cs := cs) (xs := xs) (by simpa using hlen) (fun i g hg => hx i g (by simpa using hg)) hw
  refine ⟨g a, ?_, by rw [hg]; exact hB⟩
  show d.K W (f (g a)) cs
  rw [hg]
  rw [List.drop_zero, List.take_of_length_le (by omega)] at ha
  exact ha⟩
theorem Opens.imp {α : Type} {P : Program} {d : Kd α} {t : TypeId} {B B' : α → Prop} (h : Opens P d t B) (hB : ∀ a, B a → B' a) : Opens P d t B' :=
 ⟨h.sz, fun hf hw => by obtain ⟨a, ha, hb⟩ := h.get hf hw; exact ⟨a, ha, hB a hb⟩⟩
theorem Opens.param {α : Type} {P : Program} {d : Kd α} {t : TypeId} {B : α → Prop} (h : Opens P d t B) {H : Type} {enc : TypeId × Value → H} {W : World} {v : Value} {x : DataW H} {p : List MemPlace} {ts : List TypeId} {ds : List (DataW H)} {j : Nat}
  (hsz : (DataW.weightsEach P ts ds).all (· ≤ reachBytes) = true) (hj : ts[j]? = some t) (hd : ds[j]? = some x) (ht : DataW.Trod enc P W 0 (fun _ => true) true t v x p) : ∃ a, d.K W a v.cells.toList ∧ B a := by
 obtain ⟨fuel, hf⟩ := ht
 exact h.get hf (fun n hn => by simpa using List.all_eq_true.1 hsz _ (DataW.weights_mem_each hj hd n hn))
theorem Opens.row {α : Type} {P : Program} {d : Kd α} {t e : TypeId} {B : List α → Prop} (h : Opens P (Kd.slice e d) t B) {H : Type} {enc : TypeId × Value → H} {W : World} {A : Option Addr} {n c : Nat} {x : DataW H} {p : List MemPlace} {ts : List TypeId} {ds : List (DataW H)} {j : Nat}
  (hsz : (DataW.weightsEach P ts ds).all (· ≤ reachBytes) = true) (hj : ts[j]? = some t) (hd : ds[j]? = some x) (ht : DataW.Trod enc P W 0 (fun _ => true) true t (.slice A n c) x p) :
  ∃ xs : List α, xs.length = n ∧ d.C W A n xs ∧ n ≤ c ∧ B xs := by
 obtain ⟨xs, ⟨A', c', he, hl, hC⟩, hB⟩ := h.param hsz hj hd ht
 simp [Value.cells] at he
 obtain ⟨rfl, rfl, rfl⟩ := he
 exact ⟨xs, rfl, hC, hl, hB⟩
end Go.Proofs.YtfmphccoeinhcaaDoor

namespace Go.Proofs.YtfmphccoeinhcaaDoor
open Go.RowKit Go.Proofs.YtfmphccoeinhcaaDoor.Print Go.Proofs.YtfmphccoeinhcaaDoorW.PrintWords
theorem o_str : Opens Tryd.prog Kd.string 9 (fun s => s.size ≤ 140737488351232) := Opens.string Tryd.underlying9 (by kernel_rfl)
theorem o_u8 : Opens Tryd.prog (Kd.int .u8) 5 (fun n => (Lit.int .u8 n).wf = true) := Opens.int Tryd.underlying5 (by kernel_rfl)
theorem o_int : Opens Tryd.prog (Kd.int .i64) 3 (fun n => (Lit.int .i64 n).wf = true) := Opens.int Tryd.underlying3 (by kernel_rfl)
theorem o_bytes : Opens Tryd.prog (Kd.slice 5 (Kd.int .u8)) 25 (fun xs => xs.length ≤ 140737488351232) :=
 (Opens.slice Tryd.underlying25 (by kernel_rfl) o_u8).imp (fun xs h => by
  have hb : Tryd.prog.bytesOf 5 = 1 := by kernel_rfl
  have h1 := h.1
  rw [hb] at h1
  omega)
theorem o_meta : Opens Tryd.prog k24 24 (fun _ => True) := by
 have h := Opens.struct Tryd.underlying24 (by kernel_rfl) (OpensF.cons rfl o_int (OpensF.cons rfl o_int (OpensF.cons rfl o_int (OpensF.one rfl o_int)))) (fun x : S24 => (x.f0, x.f1, x.f2, x.f3)) (fun p => ⟨p.1, p.2.1, p.2.2.1, p.2.2.2⟩) (fun _ => rfl)
 exact Opens.imp h (fun _ _ => trivial)
theorem o_mem : Opens Tryd.prog k27 27 MemR := by
 have h := Opens.struct Tryd.underlying27 (by kernel_rfl) (OpensF.cons rfl o_str (OpensF.cons rfl o_str (OpensF.cons rfl o_u8 (OpensF.cons rfl o_meta (OpensF.one rfl o_bytes))))) (fun x : S27 => (x.f0, x.f1, x.f2, x.f3, x.f4)) (fun p => ⟨p.1, p.2.1, p.2.2.1, p.2.2.2.1, p.2.2.2.2⟩) (fun _ => rfl)
 exact Opens.imp h (fun _ hx => ⟨hx.1, hx.2.1, hx.2.2.2.2⟩)
theorem o_mems : Opens Tryd.prog (Kd.slice 27 k27) 22 (fun xs => (∀ x ∈ xs, MemR x) ∧ xs.length ≤ 140737488351232) :=
 (Opens.slice Tryd.underlying22 (by kernel_rfl) o_mem).imp (fun xs h => ⟨h.2, by
  have hb : Tryd.prog.bytesOf 27 = 96 := by kernel_rfl
  have h1 := h.1
  rw [hb] at h1
  omega⟩)
end Go.Proofs.YtfmphccoeinhcaaDoor
