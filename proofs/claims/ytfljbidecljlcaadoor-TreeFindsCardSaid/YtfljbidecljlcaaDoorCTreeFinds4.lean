/-
  Part of the proof that TreeFinds answers true: texts put together (wip/bundle.py).
-/
import Derived.Test.YtfljbidecljlcaaDoorCTreeFinds3
import Derived.Deep.RegionHeld3
import Derived.Laws.Cover1
import Derived.Deep.LoopGhost
import Derived.Deep.DeepCutAuto
import Derived.IntWalk
namespace Go.Proofs.YtfljbidecljlcaaDoor
open Go.RowKit Go.Maps Go.Proofs.YtfljbidecljlcaaDoor.Print Go.Proofs.YtfljbidecljlcaaDoorW.PrintWords Go.Proofs.YtfljbidecljlcaaDoorW.PrintLast Go.Proofs.YtfljbidecljlcaaDoorW.PrintMore
set_option linter.unusedVariables false
set_option linter.unusedSimpArgs false
theorem acell {w : World} {p : Addr} {v : Value} (h : w.cell? p = some v) (o : Obj) : (w.alloc o).cell? p = some v := ((below_alloc (Below.refl _ _) o).cell (World.block_lt_of_cell? w _ h)).trans h
theorem bkeep {w w1 : World} {p : Addr} {v : Value} (hb : Below w.heap.size w w1) (h : w.cell? p = some v) : w1.cell? p = some v := (hb.cell (World.block_lt_of_cell? w _ h)).trans h
theorem Good1_calls (l : List Node) (hr : riseB l = true) (hz : nodesZ l = true) (A0 : Option Addr) (c0 : Nat) (hc0 : l.length ≤ c0) (B : Nat) (x : Node) (A : Option Addr) (c : Nat) (W : World) (hbox : W.cell? ⟨B, 0, none⟩ = some (.slice A0 l.length c0)) (hC : Kd.C k40 W A0 l.length l) (hx : Kd.C (Kd.int .u8) W A x.f5.length x.f5) (hc : x.f5.length ≤ c) :
  Calls Tryd.prog 51 #[.agg (nodeCells x (.slice A x.f5.length c)), .pointer (some ⟨B, 0, none⟩)] W fun e W' => e = .returned (.bool (!ledB l x)) ∧ Below W.heap.size W W' := by
 have hl := led_f hr hz x
 generalize ledB l x = b at hl
 have HL := Aside0.mk hl
 have HC := Aside0.mk hC
 have HX := Aside0.mk hx
 have hBlt : B < W.heap.size := World.block_lt_of_cell? W ⟨B, 0, none⟩ hbox
 have hbn := World.new_ne W ⟨B, 0, none⟩ hbox
 clear hl hC hx hr hz
 unfold nodeCells
 go_enter Tryd.func51, Tryd.ntmps51
 go_wp2_with (go_at_call 52; refine (tree_led.calls A0 c0 l x.f0 x.f1 x.f2 x.f3 x.f4.f0 x.f4.f1 x.f4.f2 x.f4.f3 A c x.f5 b _ (by first | exact Kd.C_alloc HC.out _ | exact HC.out) hc0 (by first | exact Kd.C_alloc HX.out _ | exact HX.out) hc HL.out).mono ?_; rintro e w1 ⟨rfl, hb⟩)
 go_ret
 exact ⟨rfl, by first | exact ((Below.refl _ _).alloc (Nat.le_refl _) _).trans (hb.mono (by simp)) | exact hb⟩
def IdxRel (l : List Node) (W : World) (i : Int) (wr : World) : Prop := 0 ≤ i ∧ i ≤ l.length ∧ (∀ (j : Nat) (hj : j < l.length), (j : Int) < i → ledB l l[j] = true) ∧ Below W.heap.size W wr
theorem all_led {l : List Node} (h : ∀ (j : Nat) (hj : j < l.length), ledB l l[j] = true) : l.all (ledB l) = true := by
 rw [List.all_eq_true]
 intro x hx
 obtain ⟨i, hi, rfl⟩ := List.getElem_of_mem hx
 exact h i hi
theorem not_led {l : List Node} {j : Nat} {hj : j < l.length} (h : ledB l l[j] = false) : l.all (ledB l) = false := by
 rw [Bool.eq_false_iff]
 intro h2
 rw [List.all_eq_true] at h2
 rw [h2 _ (List.getElem_mem hj)] at h
 cases h
set_option maxRecDepth 100000 in
set_option maxHeartbeats 2000000 in
theorem Index_calls (l : List Node) (hr : riseB l = true) (hz : nodesZ l = true) (A0 : Option Addr) (c0 : Nat) (hc0 : l.length ≤ c0) (B : Nat) (W : World) (hbox : W.cell? ⟨B, 0, none⟩ = some (.slice A0 l.length c0)) (hC : Kd.C k40 W A0 l.length l) :
  Calls Tryd.prog 68 #[.slice A0 l.length c0, .func (.func 51) #[] #[.pointer (some ⟨B, 0, none⟩)]] W fun e W' => ∃ n : Int, e = .returned (.int .i64 n) ∧ decide (n ≥ 0) = !(l.all (ledB l)) ∧ Below W.heap.size W W' := by
 have hcl := fun x A c W2 (hb : Below W.heap.size W W2) (h1 : Kd.C (Kd.int .u8) W2 A x.f5.length x.f5) (h2 : x.f5.length ≤ c) => Good1_calls l hr hz A0 c0 hc0 B x A c W2 (bkeep hb hbox) (Kd.C_below hC hb) h1 h2
 have HCL := Aside0.mk hcl
 have HC := Aside0.mk hC
 have hlen : (l.length : Int) ≤ 1000000000000 := by have := ((nodesZ_iff l).1 hz).1; omega
 clear hcl hC hr hz
 generalize hpost : (fun (e : Ending) (W' : World) => ∃ n : Int, e = .returned (.int .i64 n) ∧ decide (n ≥ 0) = !(l.all (ledB l)) ∧ Below W.heap.size W W') = Q
 have hQ := Aside0.mk hpost
 clear hpost
 go_enter Tryd.func68, Tryd.ntmps68
 go_wp2
 go_loopw [8] (fun i wr => ∃ n : Int, i = .int .i64 n ∧ Aside0 (IdxRel l W n wr)) (fun i _ => (l.length - (intOf i)).toNat)
 case atStart => exact ⟨0, rfl, ⟨⟨by omega, by omega, fun j hj h => absurd h (by omega), Below.refl _ _⟩⟩⟩
 case round =>
  obtain ⟨n, rfl, HR⟩ := hrel
  have h0 := HR.out.1
  have h1 := HR.out.2.1
  have HB := Aside0.mk HR.out.2.2.2
  by_cases hlt : n < (l.length : Int)
  ·have c1 : decide (n < (l.length : Int)) = true := decide_eq_true hlt
   have hnl : n.toNat < l.length := by omega
   obtain ⟨ad, A7, c7, rfl, x0, x1, x2, x3, x4, x5, x6, x7, x8, hl7, hC7⟩ := at_T40 (Kd.C_below HC.out HB.out) n h0 hlt
   have hx := rdN_at l n h0 hlt
   generalize rd_T40 l n = x at hx x0 x1 x2 x3 x4 x5 x6 x7 x8 hl7 hC7
   have HX := Aside0.mk hx
   have HC7 := Aside0.mk hC7
   have HL7 := Aside0.mk hl7
   have HNL := Aside0.mk hnl
   clear hx hC7 hl7 hnl
   have hcl2 := HCL.out x A7 c7 wr HB.out HC7.out HL7.out
   cases hb : ledB l x with
   | true =>
    rw [hb, Bool.not_true] at hcl2
    unfold nodeCells at hcl2
    have HC2 := Aside0.mk hcl2
    have HLB := Aside0.mk hb
    clear hcl2 hb
    go_wp2_with (go_at_call 51; refine HC2.out.mono ?_; rintro e w1 ⟨rfl, hb1⟩)
    have hfin : IdxRel l W (n + 1) w1 := by
     refine ⟨by omega, by omega, fun j hj hjn => ?_, HB.out.trans (hb1.mono HB.out.size)⟩
     rcases Nat.lt_or_ge j n.toNat with h | h
     ·exact HR.out.2.2.1 j hj (by omega)
     ·obtain rfl : j = n.toNat := by omega
      rw [← HX.out]; exact HLB.out
    clear hb1
    go_roundw
    case rel => exact ⟨n + 1, by go_num, ⟨hfin⟩⟩
    case measure => simp [intOf]; omega
   | false =>
    rw [hb, Bool.not_false] at hcl2
    unfold nodeCells at hcl2
    have HC2 := Aside0.mk hcl2
    have HLB := Aside0.mk hb
    clear hcl2 hb
    go_wp2_with (go_at_call 51; refine HC2.out.mono ?_; rintro e w1 ⟨rfl, hb1⟩)
    rw [← hQ.out]
    refine ⟨n, rfl, ?_, HB.out.trans (hb1.mono HB.out.size)⟩
    rw [not_led (j := n.toNat) (hj := HNL.out) (by rw [← HX.out]; exact HLB.out), decide_eq_true (show n ≥ 0 from h0)]
    rfl
  ·have c1 : decide (n < (l.length : Int)) = false := decide_eq_false hlt
   go_wp2
   rw [← hQ.out]
   refine ⟨-1, rfl, ?_, HB.out⟩
   rw [all_led (fun j hj => HR.out.2.2.1 j hj (by omega))]
   rfl
theorem Contains_calls (l : List Node) (hr : riseB l = true) (hz : nodesZ l = true) (A0 : Option Addr) (c0 : Nat) (hc0 : l.length ≤ c0) (B : Nat) (W : World) (hbox : W.cell? ⟨B, 0, none⟩ = some (.slice A0 l.length c0)) (hC : Kd.C k40 W A0 l.length l) :
  Calls Tryd.prog 50 #[.slice A0 l.length c0, .func (.func 51) #[] #[.pointer (some ⟨B, 0, none⟩)]] W fun e W' => e = .returned (.bool (!(l.all (ledB l)))) ∧ Below W.heap.size W W' := by
 have HI := Aside0.mk (Index_calls l hr hz A0 c0 hc0 B W hbox hC)
 clear hr hz hC
 go_enter Tryd.func50, Tryd.ntmps50
 go_wp2_with (go_at_call 68; refine HI.out.mono ?_; rintro e w1 ⟨n, rfl, hn, hb⟩; have HN := Aside0.mk hn; clear hn)
 go_ret
 exact ⟨by rw [← HN.out]; rfl, hb⟩
def headOk' (l : List Node) (i : Nat) (h : i < l.length) : Bool := (decide (i = 0) || lt (l[i - 1]'(by omega)).f0 l[i].f0) && !decide (l[i].f3 = 49) && goodM (memOf l[i])
def GRel (l : List Node) (W : World) (A0 : Option Addr) (c0 : Nat) (i : Int) (wr : World) : Prop := 0 ≤ i ∧ i ≤ l.length ∧ (∀ (j : Nat) (hj : j < l.length), (j : Int) < i → headOk' l j hj = true) ∧ Below W.heap.size W wr ∧ wr.cell? ⟨W.heap.size, 0, none⟩ = some (.slice A0 l.length c0)
theorem goodTree_head {l : List Node} (h : ∀ (i : Nat) (hi : i < l.length), headOk' l i hi = true) : riseB l = true ∧ goodTree l = (decide (l.length ≤ 4096) && l.all (ledB l)) := by
 have hp : ∀ (i : Nat) (hi : i < l.length), (i = 0 ∨ lt (l[i - 1]'(by omega)).f0 l[i].f0 = true) ∧ ¬ l[i].f3 = 49 ∧ goodM (memOf l[i]) = true := fun i hi => by
  have := h i hi
  unfold headOk' at this
  simp only [Bool.and_eq_true, Bool.or_eq_true, decide_eq_true_iff, Bool.not_eq_true', decide_eq_false_iff_not] at this
  exact ⟨this.1.1, this.1.2, this.2⟩
 have hr : riseB l = true := riseB_step (fun i hi => by
  have := (hp (i + 1) hi).1
  rcases this with h | h
  ·cases h
  ·exact h)
 refine ⟨hr, ?_⟩
 unfold goodTree
 have h1 : (l.all (fun x => !decide (x.f3 = 49) && goodM (memOf x))) = true := by
  rw [List.all_eq_true]
  intro x hx
  obtain ⟨i, hi, rfl⟩ := List.getElem_of_mem hx
  rw [Bool.and_eq_true, Bool.not_eq_true', decide_eq_false_iff_not]
  exact ⟨(hp i hi).2.1, (hp i hi).2.2⟩
 rw [hr, h1]
 rfl
theorem goodTree_nothead {l : List Node} (i : Nat) (hi : i < l.length) (h : headOk' l i hi = false) : goodTree l = false :=
 goodTree_not i hi (by show (headOk' l i hi && ledB (l.take (i + 1)) l[i]) = false; rw [h]; rfl)
theorem prev_lt' {l : List Node} {n j : Int} {h : j.toNat < l.length} {h' : n.toNat - 1 < l.length} {y0 x0 : ByteArray} {b : Bool} (hy : l[j.toNat].f0 = y0) (hj : j = n - 1) (hl : Op.bytesLess y0.toList x0.toList = b) : lt (l[n.toNat - 1]).f0 x0 = b := by
 subst hj
 unfold lt
 rw [← hl, ← hy]
 congr 4
 omega
theorem gRel_next {l : List Node} {W wr w1 : World} {A0 : Option Addr} {c0 : Nat} {n : Int} (h : GRel l W A0 c0 n wr) (hn : n.toNat < l.length) (h1 : headOk' l n.toNat hn = true) (hB : Below wr.heap.size wr w1) : GRel l W A0 c0 (n + 1) w1 := by
 have h0 := h.1
 refine ⟨by omega, by omega, fun q hq hqn => ?_, h.2.2.2.1.trans (hB.mono h.2.2.2.1.size), bkeep hB h.2.2.2.2⟩
 rcases Nat.lt_or_ge q n.toNat with hh | hh
 ·exact h.2.2.1 q hq (by omega)
 ·obtain rfl : q = n.toNat := by omega
  exact h1
def Mid4 (l : List Node) (n : Nat) (h : n < l.length) (b : Bool) (wr wx : World) : Prop := b = !(headOk' l n h) ∧ Below wr.heap.size wr wx
set_option maxRecDepth 100000 in
set_option maxHeartbeats 8000000 in
theorem Good_calls (A0 : Option Addr) (c0 : Nat) (l : List Node) (W : World) (hT : Tabs W) (hC : Kd.C k40 W A0 l.length l) (hc0 : l.length ≤ c0) (hz : NodesG l) :
  Calls Tryd.prog 31 #[.slice A0 l.length c0] W fun e W' => e = .returned (.bool (goodTree l)) ∧ Below W.heap.size W W' := by
 have HC := Aside0.mk hC
 have HZ := Aside0.mk hz
 have HC0 := Aside0.mk hc0
 have HT := Aside0.mk hT
 have hlen : (l.length : Int) ≤ 1000000000000 := by have := hz.1.1; omega
 clear hC hz hc0 hT
 generalize hpost : (fun (e : Ending) (W' : World) => e = .returned (.bool (goodTree l)) ∧ Below W.heap.size W W') = Q
 have hQ := Aside0.mk hpost
 clear hpost
 go_enter Tryd.func31, Tryd.ntmps31
 go_wp2
 go_loopg [7] (l.length) (fun g i wr => ∃ n : Int, i = .int .i64 n ∧ Aside0 (GRel l W A0 c0 n wr) ∧ Aside0 ((g : Int) + n = l.length))
 case atStart => exact ⟨0, rfl, ⟨⟨by omega, by omega, fun j hj h => absurd h (by omega), (Below.refl _ _).alloc (Nat.le_refl _) _, by simp⟩⟩, ⟨by omega⟩⟩
 case round =>
  obtain ⟨n, rfl, HR, HG⟩ := hrel
  have h0 := HR.out.1
  have h1 := HR.out.2.1
  have HB := Aside0.mk HR.out.2.2.2.1
  have hbox := HR.out.2.2.2.2
  by_cases hlt : n < (l.length : Int)
  ·have hnl : n.toNat < l.length := by omega
   obtain ⟨ad, A7, c7, rfl, x0, x1, x2, x3, x4, x5, x6, x7, x8, hl7, hC7⟩ := at_T40 (Kd.C_below HC.out HB.out) n h0 hlt
   have hx := rdN_at l n h0 hlt
   have hxz : NodeZ (rd_T40 l n) ∧ (rd_T40 l n).f0.size ≤ 8000000000000 ∧ (rd_T40 l n).f1.size ≤ 8000000000000 := by rw [hx]; exact ⟨HZ.out.1.2 _ (List.getElem_mem _), HZ.out.2 _ (List.getElem_mem _)⟩
   generalize rd_T40 l n = x at hx hxz x0 x1 x2 x3 x4 x5 x6 x7 x8 hl7 hC7
   have HX := Aside0.mk hx
   have HXZ := Aside0.mk hxz
   have HC7 := Aside0.mk hC7
   have c1b : decide (n < (l.length : Int)) = true := decide_eq_true hlt
   clear hx hxz hC7
   have hmr : MemZ (memOf x) := ⟨HXZ.out.2.1, HXZ.out.2.2, HXZ.out.1.2.2.2⟩
   obtain ⟨kg, hkg⟩ := Ev.rounds (member_Good_eq (memOf x) hmr)
   generalize hgd : goodM (memOf x) = gd at hkg
   have HGD := Aside0.mk hgd
   have HKG : Aside0 (member_Good.f kg x.f0 x.f1 x.f3 x.f4.f0 x.f4.f1 x.f4.f2 x.f4.f3 x.f5 = some gd) := ⟨hkg⟩
   have HCA := Aside0.mk (fun o => Kd.C_alloc HC7.out o)
   have HTA := Aside0.mk (Tabs.below HT.out HB.out)
   have hl7' : x.f5.length ≤ c7 := hl7
   have HNL := Aside0.mk hnl
   have hbn := World.new_ne wr ⟨W.heap.size, 0, none⟩ hbox
   clear hkg hmr hl7 hgd hnl
   go_upto_region 4 with (fail)
   go_cut [44] (fun v wx => ∃ b, v = .bool b ∧ Aside0 (Mid4 l n.toNat HNL.out b wr wx))
   case first =>
    by_cases h49 : x.f3 = 49
    ·have e49 : (x.f3 == 49) = true := beq_iff_eq.2 h49
     have H49 := Aside0.mk h49
     clear h49
     refine start_ (n := 33) (S := fun w' => w'.cell? ⟨wr.heap.size, 0, none⟩ = some (.string x.f0) ∧ w'.cell? ⟨wr.heap.size, 1, none⟩ = some (.string x.f1) ∧ w'.cell? ⟨wr.heap.size, 2, none⟩ = some (.string x.f2) ∧ w'.cell? ⟨wr.heap.size, 3, none⟩ = some (.int .u8 x.f3) ∧ w'.cell? ⟨wr.heap.size, 4, none⟩ = some (.int .i64 x.f4.f0) ∧ w'.cell? ⟨wr.heap.size, 5, none⟩ = some (.int .i64 x.f4.f1) ∧ w'.cell? ⟨wr.heap.size, 6, none⟩ = some (.int .i64 x.f4.f2) ∧ w'.cell? ⟨wr.heap.size, 7, none⟩ = some (.int .i64 x.f4.f3) ∧ w'.cell? ⟨wr.heap.size, 8, none⟩ = some (.slice A7 x.f5.length c7) ∧ w'.cell? ⟨W.heap.size, 0, none⟩ = some (.slice (some ad) l.length c0)) (ds := []) #[false, false, false, false, false, false, false, false, false, false, false, false, false, false, false, false, false, false, false, false, false, false, false, false, false, false, false, false, false, false, false, false, false] (by kernel_rfl) rfl rfl ⟨by simp, by simp, by simp, by simp, by simp, by simp, by simp, by simp, by simp, acell hbox _⟩ (fun hHeld => ?_)
     generalize hwq : (wr.alloc (.cells #[.string x.f0, .string x.f1, .string x.f2, .int .u8 x.f3, .int .i64 x.f4.f0, .int .i64 x.f4.f1, .int .i64 x.f4.f2, .int .i64 x.f4.f3, .slice A7 x.f5.length c7] 40)).drew = wq at hHeld ⊢
     refine pure_ (i := 0) (N := some 12) (v := ?_) (a' := ?_) #[true, false, false, false, false, false, false, false, false, false, false, false, false, false, false, false, false, false, false, false, false, false, false, false, false, false, false, false, false, false, false, false, false] rfl rfl (by kernel_rfl) (fun _ _ _ h => h) (Or.inl ⟨by rfl, ?_⟩) ?_ ?_
     rotate_left
     ·intro w'
      go_simp
      with_reducible rfl
     rotate_left
     ·simp only [Act.put, List.setIfInBounds_toArray, List.set_cons_zero, List.set_cons_succ, i64_w, i32_w]
      rfl
     refine take_ (i := 1) (N := some 13) (v := ?_) (a' := ?_) #[true, true, false, false, false, false, false, false, false, false, false, false, false, false, false, false, false, false, false, false, false, false, false, false, false, false, false, false, false, false, false, false, false] rfl rfl (by kernel_rfl) (fun _ _ _ h => h) (Or.inl ⟨by rfl, ?_⟩) hHeld ?_ ?_
     rotate_left
     ·rintro w' ⟨s0, s1, s2, s3, s4, s5, s6, s7, s8, s9⟩
      go_simp
      with_reducible rfl
     rotate_left
     ·simp only [Act.put, List.setIfInBounds_toArray, List.set_cons_zero, List.set_cons_succ, i64_w, i32_w]
      rfl
     refine pure_ (i := 2) (N := some 14) (v := ?_) (a' := ?_) #[true, true, true, false, false, false, false, false, false, false, false, false, false, false, false, false, false, false, false, false, false, false, false, false, false, false, false, false, false, false, false, false, false] rfl rfl (by kernel_rfl) (fun _ _ _ h => h) (Or.inl ⟨by rfl, ?_⟩) ?_ ?_
     rotate_left
     ·intro w'
      go_simp
      with_reducible rfl
     rotate_left
     ·simp only [Act.put, List.setIfInBounds_toArray, List.set_cons_zero, List.set_cons_succ, i64_w, i32_w]
      rfl
     refine pure_ (i := 3) (N := some 15) (v := ?_) (a' := ?_) #[true, true, true, true, false, false, false, false, false, false, false, false, false, false, false, false, false, false, false, false, false, false, false, false, false, false, false, false, false, false, false, false, false] rfl rfl (by kernel_rfl) (fun _ _ _ h => h) (Or.inl ⟨by rfl, ?_⟩) ?_ ?_
     rotate_left
     ·intro w'
      go_simp
      with_reducible rfl
     rotate_left
     ·simp only [Act.put, List.setIfInBounds_toArray, List.set_cons_zero, List.set_cons_succ, i64_w, i32_w]
      rfl
     refine pure_ (i := 4) (N := some 16) (v := undef) (a' := ?_) #[true, true, true, true, true, false, false, false, false, false, false, false, false, false, false, false, false, false, false, false, false, false, false, false, false, false, false, false, false, false, false, false, false] rfl rfl (by kernel_rfl) (fun _ _ _ h => h) (Or.inr ⟨by rfl, rfl⟩) ?_ ?_
     rotate_left
     ·simp only [Act.put, List.setIfInBounds_toArray, List.set_cons_zero, List.set_cons_succ, i64_w, i32_w]
      rfl
     refine pure_ (i := 5) (N := some 17) (v := undef) (a' := ?_) #[true, true, true, true, true, true, false, false, false, false, false, false, false, false, false, false, false, false, false, false, false, false, false, false, false, false, false, false, false, false, false, false, false] rfl rfl (by kernel_rfl) (fun _ _ _ h => h) (Or.inr ⟨by rfl, rfl⟩) ?_ ?_
     rotate_left
     ·simp only [Act.put, List.setIfInBounds_toArray, List.set_cons_zero, List.set_cons_succ, i64_w, i32_w]
      rfl
     refine pure_ (i := 6) (N := some 18) (v := undef) (a' := ?_) #[true, true, true, true, true, true, true, false, false, false, false, false, false, false, false, false, false, false, false, false, false, false, false, false, false, false, false, false, false, false, false, false, false] rfl rfl (by kernel_rfl) (fun _ _ _ h => h) (Or.inr ⟨by rfl, rfl⟩) ?_ ?_
     rotate_left
     ·simp only [Act.put, List.setIfInBounds_toArray, List.set_cons_zero, List.set_cons_succ, i64_w, i32_w]
      rfl
     refine pure_ (i := 7) (N := some 19) (v := undef) (a' := ?_) #[true, true, true, true, true, true, true, true, false, false, false, false, false, false, false, false, false, false, false, false, false, false, false, false, false, false, false, false, false, false, false, false, false] rfl rfl (by kernel_rfl) (fun _ _ _ h => h) (Or.inr ⟨by rfl, rfl⟩) ?_ ?_
     rotate_left
     ·simp only [Act.put, List.setIfInBounds_toArray, List.set_cons_zero, List.set_cons_succ, i64_w, i32_w]
      rfl
     refine pure_ (i := 8) (N := some 20) (v := undef) (a' := ?_) #[true, true, true, true, true, true, true, true, true, false, false, false, false, false, false, false, false, false, false, false, false, false, false, false, false, false, false, false, false, false, false, false, false] rfl rfl (by kernel_rfl) (fun _ _ _ h => h) (Or.inr ⟨by rfl, rfl⟩) ?_ ?_
     rotate_left
     ·simp only [Act.put, List.setIfInBounds_toArray, List.set_cons_zero, List.set_cons_succ, i64_w, i32_w]
      rfl
     refine pure_ (i := 9) (N := some 21) (v := undef) (a' := ?_) #[true, true, true, true, true, true, true, true, true, true, false, false, false, false, false, false, false, false, false, false, false, false, false, false, false, false, false, false, false, false, false, false, false] rfl rfl (by kernel_rfl) (fun _ _ _ h => h) (Or.inr ⟨by rfl, rfl⟩) ?_ ?_
     rotate_left
     ·simp only [Act.put, List.setIfInBounds_toArray, List.set_cons_zero, List.set_cons_succ, i64_w, i32_w]
      rfl
     refine pure_ (i := 10) (N := some 22) (v := undef) (a' := ?_) #[true, true, true, true, true, true, true, true, true, true, true, false, false, false, false, false, false, false, false, false, false, false, false, false, false, false, false, false, false, false, false, false, false] rfl rfl (by kernel_rfl) (fun _ _ _ h => h) (Or.inr ⟨by rfl, rfl⟩) ?_ ?_
     rotate_left
     ·simp only [Act.put, List.setIfInBounds_toArray, List.set_cons_zero, List.set_cons_succ, i64_w, i32_w]
      rfl
     refine pure_ (i := 11) (N := some 23) (v := undef) (a' := ?_) #[true, true, true, true, true, true, true, true, true, true, true, true, false, false, false, false, false, false, false, false, false, false, false, false, false, false, false, false, false, false, false, false, false] rfl rfl (by kernel_rfl) (fun _ _ _ h => h) (Or.inr ⟨by rfl, rfl⟩) ?_ ?_
     rotate_left
     ·simp only [Act.put, List.setIfInBounds_toArray, List.set_cons_zero, List.set_cons_succ, i64_w, i32_w]
      rfl
     refine pure_ (i := 12) (N := some 24) (v := undef) (a' := ?_) #[true, true, true, true, true, true, true, true, true, true, true, true, true, false, false, false, false, false, false, false, false, false, false, false, false, false, false, false, false, false, false, false, false] rfl rfl (by kernel_rfl) (fun _ _ _ h => h) (Or.inr ⟨by rfl, rfl⟩) ?_ ?_
     rotate_left
     ·simp only [Act.put, List.setIfInBounds_toArray, List.set_cons_zero, List.set_cons_succ, i64_w, i32_w]
      rfl
     refine pure_ (i := 13) (N := some 25) (v := undef) (a' := ?_) #[true, true, true, true, true, true, true, true, true, true, true, true, true, true, false, false, false, false, false, false, false, false, false, false, false, false, false, false, false, false, false, false, false] rfl rfl (by kernel_rfl) (fun _ _ _ h => h) (Or.inr ⟨by rfl, rfl⟩) ?_ ?_
     rotate_left
     ·simp only [Act.put, List.setIfInBounds_toArray, List.set_cons_zero, List.set_cons_succ, i64_w, i32_w]
      rfl
     refine pure_ (i := 14) (N := some 26) (v := undef) (a' := ?_) #[true, true, true, true, true, true, true, true, true, true, true, true, true, true, true, false, false, false, false, false, false, false, false, false, false, false, false, false, false, false, false, false, false] rfl rfl (by kernel_rfl) (fun _ _ _ h => h) (Or.inr ⟨by rfl, rfl⟩) ?_ ?_
     rotate_left
     ·simp only [Act.put, List.setIfInBounds_toArray, List.set_cons_zero, List.set_cons_succ, i64_w, i32_w]
      rfl
     refine pure_ (i := 15) (N := some 27) (v := undef) (a' := ?_) #[true, true, true, true, true, true, true, true, true, true, true, true, true, true, true, true, false, false, false, false, false, false, false, false, false, false, false, false, false, false, false, false, false] rfl rfl (by kernel_rfl) (fun _ _ _ h => h) (Or.inr ⟨by rfl, rfl⟩) ?_ ?_
     rotate_left
     ·simp only [Act.put, List.setIfInBounds_toArray, List.set_cons_zero, List.set_cons_succ, i64_w, i32_w]
      rfl
     refine pure_ (i := 16) (N := some 28) (v := undef) (a' := ?_) #[true, true, true, true, true, true, true, true, true, true, true, true, true, true, true, true, true, false, false, false, false, false, false, false, false, false, false, false, false, false, false, false, false] rfl rfl (by kernel_rfl) (fun _ _ _ h => h) (Or.inr ⟨by rfl, rfl⟩) ?_ ?_
     rotate_left
     ·simp only [Act.put, List.setIfInBounds_toArray, List.set_cons_zero, List.set_cons_succ, i64_w, i32_w]
      rfl
     refine pure_ (i := 17) (N := some 29) (v := ?_) (a' := ?_) #[true, true, true, true, true, true, true, true, true, true, true, true, true, true, true, true, true, true, false, false, false, false, false, false, false, false, false, false, false, false, false, false, false] rfl rfl (by kernel_rfl) (fun _ _ _ h => h) (Or.inl ⟨by rfl, ?_⟩) ?_ ?_
     rotate_left
     ·intro w'
      go_simp
      with_reducible rfl
     rotate_left
     ·simp only [Act.put, List.setIfInBounds_toArray, List.set_cons_zero, List.set_cons_succ, i64_w, i32_w]
      rfl
     refine pure_ (i := 18) (N := some 30) (v := ?_) (a' := ?_) #[true, true, true, true, true, true, true, true, true, true, true, true, true, true, true, true, true, true, true, false, false, false, false, false, false, false, false, false, false, false, false, false, false] rfl rfl (by kernel_rfl) (fun _ _ _ h => h) (Or.inl ⟨by rfl, ?_⟩) ?_ ?_
     rotate_left
     ·intro w'
      go_simp
      with_reducible rfl
     rotate_left
     ·simp only [Act.put, List.setIfInBounds_toArray, List.set_cons_zero, List.set_cons_succ, i64_w, i32_w]
      rfl
     refine pure_ (i := 19) (N := some 31) (v := undef) (a' := ?_) #[true, true, true, true, true, true, true, true, true, true, true, true, true, true, true, true, true, true, true, true, false, false, false, false, false, false, false, false, false, false, false, false, false] rfl rfl (by kernel_rfl) (fun _ _ _ h => h) (Or.inr ⟨by rfl, rfl⟩) ?_ ?_
     rotate_left
     ·simp only [Act.put, List.setIfInBounds_toArray, List.set_cons_zero, List.set_cons_succ, i64_w, i32_w]
      rfl
     refine pure_ (i := 20) (N := some 32) (v := undef) (a' := ?_) #[true, true, true, true, true, true, true, true, true, true, true, true, true, true, true, true, true, true, true, true, true, false, false, false, false, false, false, false, false, false, false, false, false] rfl rfl (by kernel_rfl) (fun _ _ _ h => h) (Or.inr ⟨by rfl, rfl⟩) ?_ ?_
     rotate_left
     ·simp only [Act.put, List.setIfInBounds_toArray, List.set_cons_zero, List.set_cons_succ, i64_w, i32_w]
      rfl
     refine pure_ (i := 21) (N := some 33) (v := undef) (a' := ?_) #[true, true, true, true, true, true, true, true, true, true, true, true, true, true, true, true, true, true, true, true, true, true, false, false, false, false, false, false, false, false, false, false, false] rfl rfl (by kernel_rfl) (fun _ _ _ h => h) (Or.inr ⟨by rfl, rfl⟩) ?_ ?_
     rotate_left
     ·simp only [Act.put, List.setIfInBounds_toArray, List.set_cons_zero, List.set_cons_succ, i64_w, i32_w]
      rfl
     refine pure_ (i := 22) (N := some 34) (v := undef) (a' := ?_) #[true, true, true, true, true, true, true, true, true, true, true, true, true, true, true, true, true, true, true, true, true, true, true, false, false, false, false, false, false, false, false, false, false] rfl rfl (by kernel_rfl) (fun _ _ _ h => h) (Or.inr ⟨by rfl, rfl⟩) ?_ ?_
     rotate_left
     ·simp only [Act.put, List.setIfInBounds_toArray, List.set_cons_zero, List.set_cons_succ, i64_w, i32_w]
      rfl
     refine pure_ (i := 23) (N := some 35) (v := undef) (a' := ?_) #[true, true, true, true, true, true, true, true, true, true, true, true, true, true, true, true, true, true, true, true, true, true, true, true, false, false, false, false, false, false, false, false, false] rfl rfl (by kernel_rfl) (fun _ _ _ h => h) (Or.inr ⟨by rfl, rfl⟩) ?_ ?_
     rotate_left
     ·simp only [Act.put, List.setIfInBounds_toArray, List.set_cons_zero, List.set_cons_succ, i64_w, i32_w]
      rfl
     refine pure_ (i := 24) (N := some 36) (v := undef) (a' := ?_) #[true, true, true, true, true, true, true, true, true, true, true, true, true, true, true, true, true, true, true, true, true, true, true, true, true, false, false, false, false, false, false, false, false] rfl rfl (by kernel_rfl) (fun _ _ _ h => h) (Or.inr ⟨by rfl, rfl⟩) ?_ ?_
     rotate_left
     ·simp only [Act.put, List.setIfInBounds_toArray, List.set_cons_zero, List.set_cons_succ, i64_w, i32_w]
      rfl
     refine pure_ (i := 25) (N := some 37) (v := undef) (a' := ?_) #[true, true, true, true, true, true, true, true, true, true, true, true, true, true, true, true, true, true, true, true, true, true, true, true, true, true, false, false, false, false, false, false, false] rfl rfl (by kernel_rfl) (fun _ _ _ h => h) (Or.inr ⟨by rfl, rfl⟩) ?_ ?_
     rotate_left
     ·simp only [Act.put, List.setIfInBounds_toArray, List.set_cons_zero, List.set_cons_succ, i64_w, i32_w]
      rfl
     refine pure_ (i := 26) (N := some 38) (v := undef) (a' := ?_) #[true, true, true, true, true, true, true, true, true, true, true, true, true, true, true, true, true, true, true, true, true, true, true, true, true, true, true, false, false, false, false, false, false] rfl rfl (by kernel_rfl) (fun _ _ _ h => h) (Or.inr ⟨by rfl, rfl⟩) ?_ ?_
     rotate_left
     ·simp only [Act.put, List.setIfInBounds_toArray, List.set_cons_zero, List.set_cons_succ, i64_w, i32_w]
      rfl
     refine pure_ (i := 27) (N := some 39) (v := undef) (a' := ?_) #[true, true, true, true, true, true, true, true, true, true, true, true, true, true, true, true, true, true, true, true, true, true, true, true, true, true, true, true, false, false, false, false, false] rfl rfl (by kernel_rfl) (fun _ _ _ h => h) (Or.inr ⟨by rfl, rfl⟩) ?_ ?_
     rotate_left
     ·simp only [Act.put, List.setIfInBounds_toArray, List.set_cons_zero, List.set_cons_succ, i64_w, i32_w]
      rfl
     refine pure_ (i := 28) (N := some 40) (v := undef) (a' := ?_) #[true, true, true, true, true, true, true, true, true, true, true, true, true, true, true, true, true, true, true, true, true, true, true, true, true, true, true, true, true, false, false, false, false] rfl rfl (by kernel_rfl) (fun _ _ _ h => h) (Or.inr ⟨by rfl, rfl⟩) ?_ ?_
     rotate_left
     ·simp only [Act.put, List.setIfInBounds_toArray, List.set_cons_zero, List.set_cons_succ, i64_w, i32_w]
      rfl
     refine pure_ (i := 29) (N := some 41) (v := undef) (a' := ?_) #[true, true, true, true, true, true, true, true, true, true, true, true, true, true, true, true, true, true, true, true, true, true, true, true, true, true, true, true, true, true, false, false, false] rfl rfl (by kernel_rfl) (fun _ _ _ h => h) (Or.inr ⟨by rfl, rfl⟩) ?_ ?_
     rotate_left
     ·simp only [Act.put, List.setIfInBounds_toArray, List.set_cons_zero, List.set_cons_succ, i64_w, i32_w]
      rfl
     refine pure_ (i := 30) (N := some 42) (v := undef) (a' := ?_) #[true, true, true, true, true, true, true, true, true, true, true, true, true, true, true, true, true, true, true, true, true, true, true, true, true, true, true, true, true, true, true, false, false] rfl rfl (by kernel_rfl) (fun _ _ _ h => h) (Or.inr ⟨by rfl, rfl⟩) ?_ ?_
     rotate_left
     ·simp only [Act.put, List.setIfInBounds_toArray, List.set_cons_zero, List.set_cons_succ, i64_w, i32_w]
      rfl
     refine pure_ (i := 31) (N := some 43) (v := undef) (a' := ?_) #[true, true, true, true, true, true, true, true, true, true, true, true, true, true, true, true, true, true, true, true, true, true, true, true, true, true, true, true, true, true, true, true, false] rfl rfl (by kernel_rfl) (fun _ _ _ h => h) (Or.inr ⟨by rfl, rfl⟩) ?_ ?_
     rotate_left
     ·simp only [Act.put, List.setIfInBounds_toArray, List.set_cons_zero, List.set_cons_succ, i64_w, i32_w]
      rfl
     refine pure_ (i := 32) (N := some 44) (v := ?_) (a' := ?_) #[true, true, true, true, true, true, true, true, true, true, true, true, true, true, true, true, true, true, true, true, true, true, true, true, true, true, true, true, true, true, true, true, true] rfl rfl (by kernel_rfl) (fun _ _ _ h => h) (Or.inl ⟨by rfl, ?_⟩) ?_ ?_
     rotate_left
     ·intro w'
      go_simp
      with_reducible rfl
     rotate_left
     ·simp only [Act.put, List.setIfInBounds_toArray, List.set_cons_zero, List.set_cons_succ, i64_w, i32_w]
      rfl
     refine done_ (by kernel_rfl) ?_
     go_wp2_with (fail)
     go_meet
     exact ⟨true, rfl, ⟨by unfold headOk'; rw [← HX.out, decide_eq_true H49.out]; simp, by rw [← hwq]; exact below_drew (below_alloc (Below.refl _ _) _)⟩⟩
    ·have e49 : (x.f3 == 49) = false := beq_eq_false_iff_ne.2 h49
     have H49 := Aside0.mk h49
     clear h49
     by_cases hn0 : n = 0
     ·have g1 : decide (0 < n) = false := decide_eq_false (by omega)
      have g2 : decide (n > 0) = false := decide_eq_false (by omega)
      have HN0 := Aside0.mk hn0
      clear hn0
      refine start_ (n := 33) (S := fun w' => w'.cell? ⟨wr.heap.size, 0, none⟩ = some (.string x.f0) ∧ w'.cell? ⟨wr.heap.size, 1, none⟩ = some (.string x.f1) ∧ w'.cell? ⟨wr.heap.size, 2, none⟩ = some (.string x.f2) ∧ w'.cell? ⟨wr.heap.size, 3, none⟩ = some (.int .u8 x.f3) ∧ w'.cell? ⟨wr.heap.size, 4, none⟩ = some (.int .i64 x.f4.f0) ∧ w'.cell? ⟨wr.heap.size, 5, none⟩ = some (.int .i64 x.f4.f1) ∧ w'.cell? ⟨wr.heap.size, 6, none⟩ = some (.int .i64 x.f4.f2) ∧ w'.cell? ⟨wr.heap.size, 7, none⟩ = some (.int .i64 x.f4.f3) ∧ w'.cell? ⟨wr.heap.size, 8, none⟩ = some (.slice A7 x.f5.length c7) ∧ w'.cell? ⟨W.heap.size, 0, none⟩ = some (.slice (some ad) l.length c0)) (ds := []) #[false, false, false, false, false, false, false, false, false, false, false, false, false, false, false, false, false, false, false, false, false, false, false, false, false, false, false, false, false, false, false, false, false] (by kernel_rfl) rfl rfl ⟨by simp, by simp, by simp, by simp, by simp, by simp, by simp, by simp, by simp, acell hbox _⟩ (fun hHeld => ?_)
      generalize hwq : (wr.alloc (.cells #[.string x.f0, .string x.f1, .string x.f2, .int .u8 x.f3, .int .i64 x.f4.f0, .int .i64 x.f4.f1, .int .i64 x.f4.f2, .int .i64 x.f4.f3, .slice A7 x.f5.length c7] 40)).drew = wq at hHeld ⊢
      refine pure_ (i := 0) (N := some 12) (v := ?_) (a' := ?_) #[true, false, false, false, false, false, false, false, false, false, false, false, false, false, false, false, false, false, false, false, false, false, false, false, false, false, false, false, false, false, false, false, false] rfl rfl (by kernel_rfl) (fun _ _ _ h => h) (Or.inl ⟨by rfl, ?_⟩) ?_ ?_
      rotate_left
      ·intro w'
       go_simp
       with_reducible rfl
      rotate_left
      ·simp only [Act.put, List.setIfInBounds_toArray, List.set_cons_zero, List.set_cons_succ, i64_w, i32_w]
       rfl
      refine take_ (i := 1) (N := some 13) (v := ?_) (a' := ?_) #[true, true, false, false, false, false, false, false, false, false, false, false, false, false, false, false, false, false, false, false, false, false, false, false, false, false, false, false, false, false, false, false, false] rfl rfl (by kernel_rfl) (fun _ _ _ h => h) (Or.inl ⟨by rfl, ?_⟩) hHeld ?_ ?_
      rotate_left
      ·rintro w' ⟨s0, s1, s2, s3, s4, s5, s6, s7, s8, s9⟩
       go_simp
       with_reducible rfl
      rotate_left
      ·simp only [Act.put, List.setIfInBounds_toArray, List.set_cons_zero, List.set_cons_succ, i64_w, i32_w]
       rfl
      refine pure_ (i := 2) (N := some 14) (v := ?_) (a' := ?_) #[true, true, true, false, false, false, false, false, false, false, false, false, false, false, false, false, false, false, false, false, false, false, false, false, false, false, false, false, false, false, false, false, false] rfl rfl (by kernel_rfl) (fun _ _ _ h => h) (Or.inl ⟨by rfl, ?_⟩) ?_ ?_
      rotate_left
      ·intro w'
       go_simp
       with_reducible rfl
      rotate_left
      ·simp only [Act.put, List.setIfInBounds_toArray, List.set_cons_zero, List.set_cons_succ, i64_w, i32_w]
       rfl
      refine pure_ (i := 3) (N := some 15) (v := ?_) (a' := ?_) #[true, true, true, true, false, false, false, false, false, false, false, false, false, false, false, false, false, false, false, false, false, false, false, false, false, false, false, false, false, false, false, false, false] rfl rfl (by kernel_rfl) (fun _ _ _ h => h) (Or.inl ⟨by rfl, ?_⟩) ?_ ?_
      rotate_left
      ·intro w'
       go_simp
       with_reducible rfl
      rotate_left
      ·simp only [Act.put, List.setIfInBounds_toArray, List.set_cons_zero, List.set_cons_succ, i64_w, i32_w]
       rfl
      refine pure_ (i := 4) (N := some 16) (v := ?_) (a' := ?_) #[true, true, true, true, true, false, false, false, false, false, false, false, false, false, false, false, false, false, false, false, false, false, false, false, false, false, false, false, false, false, false, false, false] rfl rfl (by kernel_rfl) (fun _ _ _ h => h) (Or.inl ⟨by rfl, ?_⟩) ?_ ?_
      rotate_left
      ·intro w'
       go_simp
       with_reducible rfl
      rotate_left
      ·simp only [Act.put, List.setIfInBounds_toArray, List.set_cons_zero, List.set_cons_succ, i64_w, i32_w]
       rfl
      refine pure_ (i := 5) (N := some 17) (v := ?_) (a' := ?_) #[true, true, true, true, true, true, false, false, false, false, false, false, false, false, false, false, false, false, false, false, false, false, false, false, false, false, false, false, false, false, false, false, false] rfl rfl (by kernel_rfl) (fun _ _ _ h => h) (Or.inl ⟨by rfl, ?_⟩) ?_ ?_
      rotate_left
      ·intro w'
       go_simp
       with_reducible rfl
      rotate_left
      ·simp only [Act.put, List.setIfInBounds_toArray, List.set_cons_zero, List.set_cons_succ, i64_w, i32_w]
       rfl
      refine pure_ (i := 6) (N := some 18) (v := ?_) (a' := ?_) #[true, true, true, true, true, true, true, false, false, false, false, false, false, false, false, false, false, false, false, false, false, false, false, false, false, false, false, false, false, false, false, false, false] rfl rfl (by kernel_rfl) (fun _ _ _ h => h) (Or.inl ⟨by rfl, ?_⟩) ?_ ?_
      rotate_left
      ·intro w'
       go_simp
       with_reducible rfl
      rotate_left
      ·simp only [Act.put, List.setIfInBounds_toArray, List.set_cons_zero, List.set_cons_succ, i64_w, i32_w]
       rfl
      refine pure_ (i := 7) (N := some 19) (v := undef) (a' := ?_) #[true, true, true, true, true, true, true, true, false, false, false, false, false, false, false, false, false, false, false, false, false, false, false, false, false, false, false, false, false, false, false, false, false] rfl rfl (by kernel_rfl) (fun _ _ _ h => h) (Or.inr ⟨by rfl, rfl⟩) ?_ ?_
      rotate_left
      ·simp only [Act.put, List.setIfInBounds_toArray, List.set_cons_zero, List.set_cons_succ, i64_w, i32_w]
       rfl
      refine pure_ (i := 8) (N := some 20) (v := undef) (a' := ?_) #[true, true, true, true, true, true, true, true, true, false, false, false, false, false, false, false, false, false, false, false, false, false, false, false, false, false, false, false, false, false, false, false, false] rfl rfl (by kernel_rfl) (fun _ _ _ h => h) (Or.inr ⟨by rfl, rfl⟩) ?_ ?_
      rotate_left
      ·simp only [Act.put, List.setIfInBounds_toArray, List.set_cons_zero, List.set_cons_succ, i64_w, i32_w]
       rfl
      refine pure_ (i := 9) (N := some 21) (v := undef) (a' := ?_) #[true, true, true, true, true, true, true, true, true, true, false, false, false, false, false, false, false, false, false, false, false, false, false, false, false, false, false, false, false, false, false, false, false] rfl rfl (by kernel_rfl) (fun _ _ _ h => h) (Or.inr ⟨by rfl, rfl⟩) ?_ ?_
      rotate_left
      ·simp only [Act.put, List.setIfInBounds_toArray, List.set_cons_zero, List.set_cons_succ, i64_w, i32_w]
       rfl
      refine pure_ (i := 10) (N := some 22) (v := undef) (a' := ?_) #[true, true, true, true, true, true, true, true, true, true, true, false, false, false, false, false, false, false, false, false, false, false, false, false, false, false, false, false, false, false, false, false, false] rfl rfl (by kernel_rfl) (fun _ _ _ h => h) (Or.inr ⟨by rfl, rfl⟩) ?_ ?_
      rotate_left
      ·simp only [Act.put, List.setIfInBounds_toArray, List.set_cons_zero, List.set_cons_succ, i64_w, i32_w]
       rfl
      refine pure_ (i := 11) (N := some 23) (v := undef) (a' := ?_) #[true, true, true, true, true, true, true, true, true, true, true, true, false, false, false, false, false, false, false, false, false, false, false, false, false, false, false, false, false, false, false, false, false] rfl rfl (by kernel_rfl) (fun _ _ _ h => h) (Or.inr ⟨by rfl, rfl⟩) ?_ ?_
      rotate_left
      ·simp only [Act.put, List.setIfInBounds_toArray, List.set_cons_zero, List.set_cons_succ, i64_w, i32_w]
       rfl
      refine pure_ (i := 12) (N := some 24) (v := undef) (a' := ?_) #[true, true, true, true, true, true, true, true, true, true, true, true, true, false, false, false, false, false, false, false, false, false, false, false, false, false, false, false, false, false, false, false, false] rfl rfl (by kernel_rfl) (fun _ _ _ h => h) (Or.inr ⟨by rfl, rfl⟩) ?_ ?_
      rotate_left
      ·simp only [Act.put, List.setIfInBounds_toArray, List.set_cons_zero, List.set_cons_succ, i64_w, i32_w]
       rfl
      refine pure_ (i := 13) (N := some 25) (v := undef) (a' := ?_) #[true, true, true, true, true, true, true, true, true, true, true, true, true, true, false, false, false, false, false, false, false, false, false, false, false, false, false, false, false, false, false, false, false] rfl rfl (by kernel_rfl) (fun _ _ _ h => h) (Or.inr ⟨by rfl, rfl⟩) ?_ ?_
      rotate_left
      ·simp only [Act.put, List.setIfInBounds_toArray, List.set_cons_zero, List.set_cons_succ, i64_w, i32_w]
       rfl
      refine pure_ (i := 14) (N := some 26) (v := undef) (a' := ?_) #[true, true, true, true, true, true, true, true, true, true, true, true, true, true, true, false, false, false, false, false, false, false, false, false, false, false, false, false, false, false, false, false, false] rfl rfl (by kernel_rfl) (fun _ _ _ h => h) (Or.inr ⟨by rfl, rfl⟩) ?_ ?_
      rotate_left
      ·simp only [Act.put, List.setIfInBounds_toArray, List.set_cons_zero, List.set_cons_succ, i64_w, i32_w]
       rfl
      refine pure_ (i := 15) (N := some 27) (v := undef) (a' := ?_) #[true, true, true, true, true, true, true, true, true, true, true, true, true, true, true, true, false, false, false, false, false, false, false, false, false, false, false, false, false, false, false, false, false] rfl rfl (by kernel_rfl) (fun _ _ _ h => h) (Or.inr ⟨by rfl, rfl⟩) ?_ ?_
      rotate_left
      ·simp only [Act.put, List.setIfInBounds_toArray, List.set_cons_zero, List.set_cons_succ, i64_w, i32_w]
       rfl
      refine pure_ (i := 16) (N := some 28) (v := ?_) (a' := ?_) #[true, true, true, true, true, true, true, true, true, true, true, true, true, true, true, true, true, false, false, false, false, false, false, false, false, false, false, false, false, false, false, false, false] rfl rfl (by kernel_rfl) (fun _ _ _ h => h) (Or.inl ⟨by rfl, ?_⟩) ?_ ?_
      rotate_left
      ·intro w'
       go_simp
       with_reducible rfl
      rotate_left
      ·simp only [Act.put, List.setIfInBounds_toArray, List.set_cons_zero, List.set_cons_succ, i64_w, i32_w]
       rfl
      refine pure_ (i := 17) (N := some 29) (v := ?_) (a' := ?_) #[true, true, true, true, true, true, true, true, true, true, true, true, true, true, true, true, true, true, false, false, false, false, false, false, false, false, false, false, false, false, false, false, false] rfl rfl (by kernel_rfl) (fun _ _ _ h => h) (Or.inl ⟨by rfl, ?_⟩) ?_ ?_
      rotate_left
      ·intro w'
       go_simp
       with_reducible rfl
      rotate_left
      ·simp only [Act.put, List.setIfInBounds_toArray, List.set_cons_zero, List.set_cons_succ, i64_w, i32_w]
       rfl
      refine pure_ (i := 18) (N := some 30) (v := ?_) (a' := ?_) #[true, true, true, true, true, true, true, true, true, true, true, true, true, true, true, true, true, true, true, false, false, false, false, false, false, false, false, false, false, false, false, false, false] rfl rfl (by kernel_rfl) (fun _ _ _ h => h) (Or.inl ⟨by rfl, ?_⟩) ?_ ?_
      rotate_left
      ·intro w'
       go_simp
       with_reducible rfl
      rotate_left
      ·simp only [Act.put, List.setIfInBounds_toArray, List.set_cons_zero, List.set_cons_succ, i64_w, i32_w]
       rfl
      refine pure_ (i := 19) (N := some 31) (v := ?_) (a' := ?_) #[true, true, true, true, true, true, true, true, true, true, true, true, true, true, true, true, true, true, true, true, false, false, false, false, false, false, false, false, false, false, false, false, false] rfl rfl (by kernel_rfl) (fun _ _ _ h => h) (Or.inl ⟨by rfl, ?_⟩) ?_ ?_
      rotate_left
      ·intro w'
       go_simp
       with_reducible rfl
      rotate_left
      ·simp only [Act.put, List.setIfInBounds_toArray, List.set_cons_zero, List.set_cons_succ, i64_w, i32_w]
       rfl
      refine take_ (i := 20) (N := some 32) (v := ?_) (a' := ?_) #[true, true, true, true, true, true, true, true, true, true, true, true, true, true, true, true, true, true, true, true, true, false, false, false, false, false, false, false, false, false, false, false, false] rfl rfl (by kernel_rfl) (fun _ _ _ h => h) (Or.inl ⟨by rfl, ?_⟩) hHeld ?_ ?_
      rotate_left
      ·rintro w' ⟨s0, s1, s2, s3, s4, s5, s6, s7, s8, s9⟩
       go_simp
       with_reducible rfl
      rotate_left
      ·simp only [Act.put, List.setIfInBounds_toArray, List.set_cons_zero, List.set_cons_succ, i64_w, i32_w]
       rfl
      refine pure_ (i := 21) (N := some 33) (v := ?_) (a' := ?_) #[true, true, true, true, true, true, true, true, true, true, true, true, true, true, true, true, true, true, true, true, true, true, false, false, false, false, false, false, false, false, false, false, false] rfl rfl (by kernel_rfl) (fun _ _ _ h => h) (Or.inl ⟨by rfl, ?_⟩) ?_ ?_
      rotate_left
      ·intro w'
       go_simp
       with_reducible rfl
      rotate_left
      ·simp only [Act.put, List.setIfInBounds_toArray, List.set_cons_zero, List.set_cons_succ, i64_w, i32_w]
       rfl
      refine take_ (i := 22) (N := some 34) (v := ?_) (a' := ?_) #[true, true, true, true, true, true, true, true, true, true, true, true, true, true, true, true, true, true, true, true, true, true, true, false, false, false, false, false, false, false, false, false, false] rfl rfl (by kernel_rfl) (fun _ _ _ h => h) (Or.inl ⟨by rfl, ?_⟩) hHeld ?_ ?_
      rotate_left
      ·rintro w' ⟨s0, s1, s2, s3, s4, s5, s6, s7, s8, s9⟩
       go_simp
       with_reducible rfl
      rotate_left
      ·simp only [Act.put, List.setIfInBounds_toArray, List.set_cons_zero, List.set_cons_succ, i64_w, i32_w]
       rfl
      refine pure_ (i := 23) (N := some 35) (v := ?_) (a' := ?_) #[true, true, true, true, true, true, true, true, true, true, true, true, true, true, true, true, true, true, true, true, true, true, true, true, false, false, false, false, false, false, false, false, false] rfl rfl (by kernel_rfl) (fun _ _ _ h => h) (Or.inl ⟨by rfl, ?_⟩) ?_ ?_
      rotate_left
      ·intro w'
       go_simp
       with_reducible rfl
      rotate_left
      ·simp only [Act.put, List.setIfInBounds_toArray, List.set_cons_zero, List.set_cons_succ, i64_w, i32_w]
       rfl
      refine take_ (i := 24) (N := some 36) (v := ?_) (a' := ?_) #[true, true, true, true, true, true, true, true, true, true, true, true, true, true, true, true, true, true, true, true, true, true, true, true, true, false, false, false, false, false, false, false, false] rfl rfl (by kernel_rfl) (fun _ _ _ h => h) (Or.inl ⟨by rfl, ?_⟩) hHeld ?_ ?_
      rotate_left
      ·rintro w' ⟨s0, s1, s2, s3, s4, s5, s6, s7, s8, s9⟩
       go_simp
       with_reducible rfl
      rotate_left
      ·simp only [Act.put, List.setIfInBounds_toArray, List.set_cons_zero, List.set_cons_succ, i64_w, i32_w]
       rfl
      refine pure_ (i := 25) (N := some 37) (v := ?_) (a' := ?_) #[true, true, true, true, true, true, true, true, true, true, true, true, true, true, true, true, true, true, true, true, true, true, true, true, true, true, false, false, false, false, false, false, false] rfl rfl (by kernel_rfl) (fun _ _ _ h => h) (Or.inl ⟨by rfl, ?_⟩) ?_ ?_
      rotate_left
      ·intro w'
       go_simp
       with_reducible rfl
      rotate_left
      ·simp only [Act.put, List.setIfInBounds_toArray, List.set_cons_zero, List.set_cons_succ, i64_w, i32_w]
       rfl
      refine take_ (i := 26) (N := some 38) (v := ?_) (a' := ?_) #[true, true, true, true, true, true, true, true, true, true, true, true, true, true, true, true, true, true, true, true, true, true, true, true, true, true, true, false, false, false, false, false, false] rfl rfl (by kernel_rfl) (fun _ _ _ h => h) (Or.inl ⟨by rfl, ?_⟩) hHeld ?_ ?_
      rotate_left
      ·rintro w' ⟨s0, s1, s2, s3, s4, s5, s6, s7, s8, s9⟩
       go_simp
       with_reducible rfl
      rotate_left
      ·simp only [Act.put, List.setIfInBounds_toArray, List.set_cons_zero, List.set_cons_succ, i64_w, i32_w]
       rfl
      refine pure_ (i := 27) (N := some 39) (v := ?_) (a' := ?_) #[true, true, true, true, true, true, true, true, true, true, true, true, true, true, true, true, true, true, true, true, true, true, true, true, true, true, true, true, false, false, false, false, false] rfl rfl (by kernel_rfl) (fun _ _ _ h => h) (Or.inl ⟨by rfl, ?_⟩) ?_ ?_
      rotate_left
      ·intro w'
       go_simp
       with_reducible rfl
      rotate_left
      ·simp only [Act.put, List.setIfInBounds_toArray, List.set_cons_zero, List.set_cons_succ, i64_w, i32_w]
       rfl
      refine take_ (i := 28) (N := some 40) (v := ?_) (a' := ?_) #[true, true, true, true, true, true, true, true, true, true, true, true, true, true, true, true, true, true, true, true, true, true, true, true, true, true, true, true, true, false, false, false, false] rfl rfl (by kernel_rfl) (fun _ _ _ h => h) (Or.inl ⟨by rfl, ?_⟩) hHeld ?_ ?_
      rotate_left
      ·rintro w' ⟨s0, s1, s2, s3, s4, s5, s6, s7, s8, s9⟩
       go_simp
       with_reducible rfl
      rotate_left
      ·simp only [Act.put, List.setIfInBounds_toArray, List.set_cons_zero, List.set_cons_succ, i64_w, i32_w]
       rfl
      refine pure_ (i := 29) (N := some 41) (v := ?_) (a' := ?_) #[true, true, true, true, true, true, true, true, true, true, true, true, true, true, true, true, true, true, true, true, true, true, true, true, true, true, true, true, true, true, false, false, false] rfl rfl (by kernel_rfl) (fun _ _ _ h => h) (Or.inl ⟨by rfl, ?_⟩) ?_ ?_
      rotate_left
      ·intro w'
       go_simp
       with_reducible rfl
      rotate_left
      ·simp only [Act.put, List.setIfInBounds_toArray, List.set_cons_zero, List.set_cons_succ, i64_w, i32_w]
       rfl
      refine one_ (i := 30) (N := some 42) #[true, true, true, true, true, true, true, true, true, true, true, true, true, true, true, true, true, true, true, true, true, true, true, true, true, true, true, true, true, true, true, false, false] rfl rfl (by kernel_rfl) (by decide) (fun K hK => ?_)
      refine goes_ Tryd.func43 (by kernel_rfl) rfl #[.agg #[.string x.f0, .string x.f1, .int .u8 x.f3, .int .i64 x.f4.f0, .int .i64 x.f4.f1, .int .i64 x.f4.f2, .int .i64 x.f4.f3, .slice A7 x.f5.length c7]] (by rfl) rfl rfl (by first | rfl | (simp [Act.eval]; done)) ?_
      refine (member_Good.calls kg x.f0 x.f1 x.f3 x.f4.f0 x.f4.f1 x.f4.f2 x.f4.f3 A7 c7 x.f5 gd wq ⟨by rw [← hwq]; exact Tabs.below HTA.out (below_drew (below_alloc (Below.refl _ _) _))⟩ (by rw [← hwq]; exact Kd.C_drew (HCA.out _)) hl7' HKG.out).mono ?_
      rintro e w5 ⟨rfl, hb5⟩
      refine ⟨_, rfl, ?_⟩
      refine hK.out _ _ ⟨bkeep hb5 hHeld.1, bkeep hb5 hHeld.2.1, bkeep hb5 hHeld.2.2.1, bkeep hb5 hHeld.2.2.2.1, bkeep hb5 hHeld.2.2.2.2.1, bkeep hb5 hHeld.2.2.2.2.2.1, bkeep hb5 hHeld.2.2.2.2.2.2.1, bkeep hb5 hHeld.2.2.2.2.2.2.2.1, bkeep hb5 hHeld.2.2.2.2.2.2.2.2.1, bkeep hb5 hHeld.2.2.2.2.2.2.2.2.2⟩ (fun hHeld => ?_)
      clear hK K
      refine norm_ (a' := ?_) ?_ ?_
      rotate_left
      ·show Act.put _ (some 42) _ = _
       simp only [Act.put, List.setIfInBounds_toArray, List.set_cons_zero, List.set_cons_succ, i64_w, i32_w]
       rfl
      refine pure_ (i := 31) (N := some 43) (v := ?_) (a' := ?_) #[true, true, true, true, true, true, true, true, true, true, true, true, true, true, true, true, true, true, true, true, true, true, true, true, true, true, true, true, true, true, true, true, false] rfl rfl (by kernel_rfl) (fun _ _ _ h => h) (Or.inl ⟨by rfl, ?_⟩) ?_ ?_
      rotate_left
      ·intro w'
       go_simp
       with_reducible rfl
      rotate_left
      ·simp only [Act.put, List.setIfInBounds_toArray, List.set_cons_zero, List.set_cons_succ, i64_w, i32_w]
       rfl
      refine pure_ (i := 32) (N := some 44) (v := ?_) (a' := ?_) #[true, true, true, true, true, true, true, true, true, true, true, true, true, true, true, true, true, true, true, true, true, true, true, true, true, true, true, true, true, true, true, true, true] rfl rfl (by kernel_rfl) (fun _ _ _ h => h) (Or.inl ⟨by rfl, ?_⟩) ?_ ?_
      rotate_left
      ·intro w'
       go_simp
       with_reducible rfl
      rotate_left
      ·simp only [Act.put, List.setIfInBounds_toArray, List.set_cons_zero, List.set_cons_succ, i64_w, i32_w]
       rfl
      refine done_ (by kernel_rfl) ?_
      go_wp2_with (fail)
      go_meet
      exact ⟨!gd, rfl, ⟨by unfold headOk'; rw [← HX.out, HGD.out, decide_eq_false H49.out, decide_eq_true (show n.toNat = 0 by have := HN0.out; omega)]; simp, (show Below wr.heap.size wr wq from by rw [← hwq]; exact below_drew (below_alloc (Below.refl _ _) _)).trans (hb5.mono (by rw [← hwq]; show wr.heap.size ≤ (wr.alloc (.cells #[.string x.f0, .string x.f1, .string x.f2, .int .u8 x.f3, .int .i64 x.f4.f0, .int .i64 x.f4.f1, .int .i64 x.f4.f2, .int .i64 x.f4.f3, .slice A7 x.f5.length c7] 40)).heap.size; rw [World.size_alloc]; omega))⟩⟩
     ·have g1 : decide (0 < n) = true := decide_eq_true (by omega)
      have g2 : decide (n > 0) = true := decide_eq_true (by omega)
      obtain ⟨j, hj⟩ : ∃ j, j = n - 1 := ⟨_, rfl⟩
      have hn1 : 0 ≤ j := by omega
      have hn2 : j < (l.length : Int) := by omega
      obtain ⟨ad', _, _, hA, hp0, _⟩ := at_T40 (Kd.C_below HC.out HB.out) j hn1 hn2
      cases hA
      have hy := rdN_at l j hn1 hn2
      generalize hy0 : (rd_T40 l j).f0 = y0 at hp0
      rw [hy] at hy0
      have HN0 := Aside0.mk hn0
      have HY := Aside0.mk hy0
      have hw64 : wrap64 (n - 1) = j := by unfold wrap64; omega
      have HJ := Aside0.mk hj
      clear hn0 hy hy0 hj
      cases hls : Op.bytesLess y0.toList x.f0.toList with
      | false =>
       refine start_ (n := 33) (S := fun w' => w'.cell? ⟨wr.heap.size, 0, none⟩ = some (.string x.f0) ∧ w'.cell? ⟨wr.heap.size, 1, none⟩ = some (.string x.f1) ∧ w'.cell? ⟨wr.heap.size, 2, none⟩ = some (.string x.f2) ∧ w'.cell? ⟨wr.heap.size, 3, none⟩ = some (.int .u8 x.f3) ∧ w'.cell? ⟨wr.heap.size, 4, none⟩ = some (.int .i64 x.f4.f0) ∧ w'.cell? ⟨wr.heap.size, 5, none⟩ = some (.int .i64 x.f4.f1) ∧ w'.cell? ⟨wr.heap.size, 6, none⟩ = some (.int .i64 x.f4.f2) ∧ w'.cell? ⟨wr.heap.size, 7, none⟩ = some (.int .i64 x.f4.f3) ∧ w'.cell? ⟨wr.heap.size, 8, none⟩ = some (.slice A7 x.f5.length c7) ∧ w'.cell? ⟨W.heap.size, 0, none⟩ = some (.slice (some ad) l.length c0) ∧ w'.cell? (ad.add (j.toNat * 9)) = some (.string y0)) (ds := []) #[false, false, false, false, false, false, false, false, false, false, false, false, false, false, false, false, false, false, false, false, false, false, false, false, false, false, false, false, false, false, false, false, false] (by kernel_rfl) rfl rfl ⟨by simp, by simp, by simp, by simp, by simp, by simp, by simp, by simp, by simp, acell hbox _, acell hp0 _⟩ (fun hHeld => ?_)
       generalize hwq : (wr.alloc (.cells #[.string x.f0, .string x.f1, .string x.f2, .int .u8 x.f3, .int .i64 x.f4.f0, .int .i64 x.f4.f1, .int .i64 x.f4.f2, .int .i64 x.f4.f3, .slice A7 x.f5.length c7] 40)).drew = wq at hHeld ⊢
       refine pure_ (i := 0) (N := some 12) (v := ?_) (a' := ?_) #[true, false, false, false, false, false, false, false, false, false, false, false, false, false, false, false, false, false, false, false, false, false, false, false, false, false, false, false, false, false, false, false, false] rfl rfl (by kernel_rfl) (fun _ _ _ h => h) (Or.inl ⟨by rfl, ?_⟩) ?_ ?_
       rotate_left
       ·intro w'
        go_simp
        with_reducible rfl
       rotate_left
       ·simp only [Act.put, List.setIfInBounds_toArray, List.set_cons_zero, List.set_cons_succ, i64_w, i32_w]
        rfl
       refine take_ (i := 1) (N := some 13) (v := ?_) (a' := ?_) #[true, true, false, false, false, false, false, false, false, false, false, false, false, false, false, false, false, false, false, false, false, false, false, false, false, false, false, false, false, false, false, false, false] rfl rfl (by kernel_rfl) (fun _ _ _ h => h) (Or.inl ⟨by rfl, ?_⟩) hHeld ?_ ?_
       rotate_left
       ·rintro w' ⟨s0, s1, s2, s3, s4, s5, s6, s7, s8, s9, s10⟩
        go_simp
        with_reducible rfl
       rotate_left
       ·simp only [Act.put, List.setIfInBounds_toArray, List.set_cons_zero, List.set_cons_succ, i64_w, i32_w]
        rfl
       refine pure_ (i := 2) (N := some 14) (v := ?_) (a' := ?_) #[true, true, true, false, false, false, false, false, false, false, false, false, false, false, false, false, false, false, false, false, false, false, false, false, false, false, false, false, false, false, false, false, false] rfl rfl (by kernel_rfl) (fun _ _ _ h => h) (Or.inl ⟨by rfl, ?_⟩) ?_ ?_
       rotate_left
       ·intro w'
        go_simp
        with_reducible rfl
       rotate_left
       ·simp only [Act.put, List.setIfInBounds_toArray, List.set_cons_zero, List.set_cons_succ, i64_w, i32_w]
        rfl
       refine pure_ (i := 3) (N := some 15) (v := ?_) (a' := ?_) #[true, true, true, true, false, false, false, false, false, false, false, false, false, false, false, false, false, false, false, false, false, false, false, false, false, false, false, false, false, false, false, false, false] rfl rfl (by kernel_rfl) (fun _ _ _ h => h) (Or.inl ⟨by rfl, ?_⟩) ?_ ?_
       rotate_left
       ·intro w'
        go_simp
        with_reducible rfl
       rotate_left
       ·simp only [Act.put, List.setIfInBounds_toArray, List.set_cons_zero, List.set_cons_succ, i64_w, i32_w]
        rfl
       refine pure_ (i := 4) (N := some 16) (v := ?_) (a' := ?_) #[true, true, true, true, true, false, false, false, false, false, false, false, false, false, false, false, false, false, false, false, false, false, false, false, false, false, false, false, false, false, false, false, false] rfl rfl (by kernel_rfl) (fun _ _ _ h => h) (Or.inl ⟨by rfl, ?_⟩) ?_ ?_
       rotate_left
       ·intro w'
        go_simp
        with_reducible rfl
       rotate_left
       ·simp only [Act.put, List.setIfInBounds_toArray, List.set_cons_zero, List.set_cons_succ, i64_w, i32_w]
        rfl
       refine pure_ (i := 5) (N := some 17) (v := ?_) (a' := ?_) #[true, true, true, true, true, true, false, false, false, false, false, false, false, false, false, false, false, false, false, false, false, false, false, false, false, false, false, false, false, false, false, false, false] rfl rfl (by kernel_rfl) (fun _ _ _ h => h) (Or.inl ⟨by rfl, ?_⟩) ?_ ?_
       rotate_left
       ·intro w'
        go_simp
        with_reducible rfl
       rotate_left
       ·simp only [Act.put, List.setIfInBounds_toArray, List.set_cons_zero, List.set_cons_succ, i64_w, i32_w]
        rfl
       refine pure_ (i := 6) (N := some 18) (v := ?_) (a' := ?_) #[true, true, true, true, true, true, true, false, false, false, false, false, false, false, false, false, false, false, false, false, false, false, false, false, false, false, false, false, false, false, false, false, false] rfl rfl (by kernel_rfl) (fun _ _ _ h => h) (Or.inl ⟨by rfl, ?_⟩) ?_ ?_
       rotate_left
       ·intro w'
        go_simp
        with_reducible rfl
       rotate_left
       ·simp only [Act.put, List.setIfInBounds_toArray, List.set_cons_zero, List.set_cons_succ, i64_w, i32_w]
        rfl
       refine take_ (i := 7) (N := some 19) (v := ?_) (a' := ?_) #[true, true, true, true, true, true, true, true, false, false, false, false, false, false, false, false, false, false, false, false, false, false, false, false, false, false, false, false, false, false, false, false, false] rfl rfl (by kernel_rfl) (fun _ _ _ h => h) (Or.inl ⟨by rfl, ?_⟩) hHeld ?_ ?_
       rotate_left
       ·rintro w' ⟨s0, s1, s2, s3, s4, s5, s6, s7, s8, s9, s10⟩
        go_simp
        with_reducible rfl
       rotate_left
       ·simp only [Act.put, List.setIfInBounds_toArray, List.set_cons_zero, List.set_cons_succ, i64_w, i32_w]
        rfl
       refine pure_ (i := 8) (N := some 20) (v := ?_) (a' := ?_) #[true, true, true, true, true, true, true, true, true, false, false, false, false, false, false, false, false, false, false, false, false, false, false, false, false, false, false, false, false, false, false, false, false] rfl rfl (by kernel_rfl) (fun _ _ _ h => h) (Or.inl ⟨by rfl, ?_⟩) ?_ ?_
       rotate_left
       ·intro w'
        go_simp
        with_reducible rfl
       rotate_left
       ·simp only [Act.put, List.setIfInBounds_toArray, List.set_cons_zero, List.set_cons_succ, i64_w, i32_w]
        rfl
       refine pure_ (i := 9) (N := some 21) (v := ?_) (a' := ?_) #[true, true, true, true, true, true, true, true, true, true, false, false, false, false, false, false, false, false, false, false, false, false, false, false, false, false, false, false, false, false, false, false, false] rfl rfl (by kernel_rfl) (fun _ _ _ h => h) (Or.inl ⟨by rfl, ?_⟩) ?_ ?_
       rotate_left
       ·intro w'
        go_simp
        with_reducible rfl
       rotate_left
       ·simp only [Act.put, List.setIfInBounds_toArray, List.set_cons_zero, List.set_cons_succ, i64_w, i32_w]
        rfl
       refine pure_ (i := 10) (N := some 22) (v := ?_) (a' := ?_) #[true, true, true, true, true, true, true, true, true, true, true, false, false, false, false, false, false, false, false, false, false, false, false, false, false, false, false, false, false, false, false, false, false] rfl rfl (by kernel_rfl) (fun _ _ _ h => h) (Or.inl ⟨by rfl, ?_⟩) ?_ ?_
       rotate_left
       ·intro w'
        go_simp
        with_reducible rfl
       rotate_left
       ·simp only [Act.put, List.setIfInBounds_toArray, List.set_cons_zero, List.set_cons_succ, i64_w, i32_w]
        rfl
       refine pure_ (i := 11) (N := some 23) (v := ?_) (a' := ?_) #[true, true, true, true, true, true, true, true, true, true, true, true, false, false, false, false, false, false, false, false, false, false, false, false, false, false, false, false, false, false, false, false, false] rfl rfl (by kernel_rfl) (fun _ _ _ h => h) (Or.inl ⟨by rfl, ?_⟩) ?_ ?_
       rotate_left
       ·intro w'
        go_simp
        with_reducible rfl
       rotate_left
       ·simp only [Act.put, List.setIfInBounds_toArray, List.set_cons_zero, List.set_cons_succ, i64_w, i32_w]
        rfl
       refine take_ (i := 12) (N := some 24) (v := ?_) (a' := ?_) #[true, true, true, true, true, true, true, true, true, true, true, true, true, false, false, false, false, false, false, false, false, false, false, false, false, false, false, false, false, false, false, false, false] rfl rfl (by kernel_rfl) (fun _ _ _ h => h) (Or.inl ⟨by rfl, ?_⟩) hHeld ?_ ?_
       rotate_left
       ·rintro w' ⟨s0, s1, s2, s3, s4, s5, s6, s7, s8, s9, s10⟩
        go_simp
        with_reducible rfl
       rotate_left
       ·simp only [Act.put, List.setIfInBounds_toArray, List.set_cons_zero, List.set_cons_succ, i64_w, i32_w]
        rfl
       refine pure_ (i := 13) (N := some 25) (v := ?_) (a' := ?_) #[true, true, true, true, true, true, true, true, true, true, true, true, true, true, false, false, false, false, false, false, false, false, false, false, false, false, false, false, false, false, false, false, false] rfl rfl (by kernel_rfl) (fun _ _ _ h => h) (Or.inl ⟨by rfl, ?_⟩) ?_ ?_
       rotate_left
       ·intro w'
        go_simp
        with_reducible rfl
       rotate_left
       ·simp only [Act.put, List.setIfInBounds_toArray, List.set_cons_zero, List.set_cons_succ, i64_w, i32_w]
        rfl
       refine take_ (i := 14) (N := some 26) (v := ?_) (a' := ?_) #[true, true, true, true, true, true, true, true, true, true, true, true, true, true, true, false, false, false, false, false, false, false, false, false, false, false, false, false, false, false, false, false, false] rfl rfl (by kernel_rfl) (fun _ _ _ h => h) (Or.inl ⟨by rfl, ?_⟩) hHeld ?_ ?_
       rotate_left
       ·rintro w' ⟨s0, s1, s2, s3, s4, s5, s6, s7, s8, s9, s10⟩
        go_simp
        with_reducible rfl
       rotate_left
       ·simp only [Act.put, List.setIfInBounds_toArray, List.set_cons_zero, List.set_cons_succ, i64_w, i32_w]
        rfl
       refine pure_ (i := 15) (N := some 27) (v := ?_) (a' := ?_) #[true, true, true, true, true, true, true, true, true, true, true, true, true, true, true, true, false, false, false, false, false, false, false, false, false, false, false, false, false, false, false, false, false] rfl rfl (by kernel_rfl) (fun _ _ _ h => h) (Or.inl ⟨by rfl, ?_⟩) ?_ ?_
       rotate_left
       ·intro w'
        go_simp
        with_reducible rfl
       rotate_left
       ·simp only [Act.put, List.setIfInBounds_toArray, List.set_cons_zero, List.set_cons_succ, i64_w, i32_w]
        rfl
       refine pure_ (i := 16) (N := some 28) (v := ?_) (a' := ?_) #[true, true, true, true, true, true, true, true, true, true, true, true, true, true, true, true, true, false, false, false, false, false, false, false, false, false, false, false, false, false, false, false, false] rfl rfl (by kernel_rfl) (fun _ _ _ h => h) (Or.inl ⟨by rfl, ?_⟩) ?_ ?_
       rotate_left
       ·intro w'
        go_simp
        with_reducible rfl
       rotate_left
       ·simp only [Act.put, List.setIfInBounds_toArray, List.set_cons_zero, List.set_cons_succ, i64_w, i32_w]
        rfl
       refine pure_ (i := 17) (N := some 29) (v := ?_) (a' := ?_) #[true, true, true, true, true, true, true, true, true, true, true, true, true, true, true, true, true, true, false, false, false, false, false, false, false, false, false, false, false, false, false, false, false] rfl rfl (by kernel_rfl) (fun _ _ _ h => h) (Or.inl ⟨by rfl, ?_⟩) ?_ ?_
       rotate_left
       ·intro w'
        go_simp
        with_reducible rfl
       rotate_left
       ·simp only [Act.put, List.setIfInBounds_toArray, List.set_cons_zero, List.set_cons_succ, i64_w, i32_w]
        rfl
       refine pure_ (i := 18) (N := some 30) (v := ?_) (a' := ?_) #[true, true, true, true, true, true, true, true, true, true, true, true, true, true, true, true, true, true, true, false, false, false, false, false, false, false, false, false, false, false, false, false, false] rfl rfl (by kernel_rfl) (fun _ _ _ h => h) (Or.inl ⟨by rfl, ?_⟩) ?_ ?_
       rotate_left
       ·intro w'
        go_simp
        with_reducible rfl
       rotate_left
       ·simp only [Act.put, List.setIfInBounds_toArray, List.set_cons_zero, List.set_cons_succ, i64_w, i32_w]
        rfl
       refine pure_ (i := 19) (N := some 31) (v := undef) (a' := ?_) #[true, true, true, true, true, true, true, true, true, true, true, true, true, true, true, true, true, true, true, true, false, false, false, false, false, false, false, false, false, false, false, false, false] rfl rfl (by kernel_rfl) (fun _ _ _ h => h) (Or.inr ⟨by rfl, rfl⟩) ?_ ?_
       rotate_left
       ·simp only [Act.put, List.setIfInBounds_toArray, List.set_cons_zero, List.set_cons_succ, i64_w, i32_w]
        rfl
       refine pure_ (i := 20) (N := some 32) (v := undef) (a' := ?_) #[true, true, true, true, true, true, true, true, true, true, true, true, true, true, true, true, true, true, true, true, true, false, false, false, false, false, false, false, false, false, false, false, false] rfl rfl (by kernel_rfl) (fun _ _ _ h => h) (Or.inr ⟨by rfl, rfl⟩) ?_ ?_
       rotate_left
       ·simp only [Act.put, List.setIfInBounds_toArray, List.set_cons_zero, List.set_cons_succ, i64_w, i32_w]
        rfl
       refine pure_ (i := 21) (N := some 33) (v := undef) (a' := ?_) #[true, true, true, true, true, true, true, true, true, true, true, true, true, true, true, true, true, true, true, true, true, true, false, false, false, false, false, false, false, false, false, false, false] rfl rfl (by kernel_rfl) (fun _ _ _ h => h) (Or.inr ⟨by rfl, rfl⟩) ?_ ?_
       rotate_left
       ·simp only [Act.put, List.setIfInBounds_toArray, List.set_cons_zero, List.set_cons_succ, i64_w, i32_w]
        rfl
       refine pure_ (i := 22) (N := some 34) (v := undef) (a' := ?_) #[true, true, true, true, true, true, true, true, true, true, true, true, true, true, true, true, true, true, true, true, true, true, true, false, false, false, false, false, false, false, false, false, false] rfl rfl (by kernel_rfl) (fun _ _ _ h => h) (Or.inr ⟨by rfl, rfl⟩) ?_ ?_
       rotate_left
       ·simp only [Act.put, List.setIfInBounds_toArray, List.set_cons_zero, List.set_cons_succ, i64_w, i32_w]
        rfl
       refine pure_ (i := 23) (N := some 35) (v := undef) (a' := ?_) #[true, true, true, true, true, true, true, true, true, true, true, true, true, true, true, true, true, true, true, true, true, true, true, true, false, false, false, false, false, false, false, false, false] rfl rfl (by kernel_rfl) (fun _ _ _ h => h) (Or.inr ⟨by rfl, rfl⟩) ?_ ?_
       rotate_left
       ·simp only [Act.put, List.setIfInBounds_toArray, List.set_cons_zero, List.set_cons_succ, i64_w, i32_w]
        rfl
       refine pure_ (i := 24) (N := some 36) (v := undef) (a' := ?_) #[true, true, true, true, true, true, true, true, true, true, true, true, true, true, true, true, true, true, true, true, true, true, true, true, true, false, false, false, false, false, false, false, false] rfl rfl (by kernel_rfl) (fun _ _ _ h => h) (Or.inr ⟨by rfl, rfl⟩) ?_ ?_
       rotate_left
       ·simp only [Act.put, List.setIfInBounds_toArray, List.set_cons_zero, List.set_cons_succ, i64_w, i32_w]
        rfl
       refine pure_ (i := 25) (N := some 37) (v := undef) (a' := ?_) #[true, true, true, true, true, true, true, true, true, true, true, true, true, true, true, true, true, true, true, true, true, true, true, true, true, true, false, false, false, false, false, false, false] rfl rfl (by kernel_rfl) (fun _ _ _ h => h) (Or.inr ⟨by rfl, rfl⟩) ?_ ?_
       rotate_left
       ·simp only [Act.put, List.setIfInBounds_toArray, List.set_cons_zero, List.set_cons_succ, i64_w, i32_w]
        rfl
       refine pure_ (i := 26) (N := some 38) (v := undef) (a' := ?_) #[true, true, true, true, true, true, true, true, true, true, true, true, true, true, true, true, true, true, true, true, true, true, true, true, true, true, true, false, false, false, false, false, false] rfl rfl (by kernel_rfl) (fun _ _ _ h => h) (Or.inr ⟨by rfl, rfl⟩) ?_ ?_
       rotate_left
       ·simp only [Act.put, List.setIfInBounds_toArray, List.set_cons_zero, List.set_cons_succ, i64_w, i32_w]
        rfl
       refine pure_ (i := 27) (N := some 39) (v := undef) (a' := ?_) #[true, true, true, true, true, true, true, true, true, true, true, true, true, true, true, true, true, true, true, true, true, true, true, true, true, true, true, true, false, false, false, false, false] rfl rfl (by kernel_rfl) (fun _ _ _ h => h) (Or.inr ⟨by rfl, rfl⟩) ?_ ?_
       rotate_left
       ·simp only [Act.put, List.setIfInBounds_toArray, List.set_cons_zero, List.set_cons_succ, i64_w, i32_w]
        rfl
       refine pure_ (i := 28) (N := some 40) (v := undef) (a' := ?_) #[true, true, true, true, true, true, true, true, true, true, true, true, true, true, true, true, true, true, true, true, true, true, true, true, true, true, true, true, true, false, false, false, false] rfl rfl (by kernel_rfl) (fun _ _ _ h => h) (Or.inr ⟨by rfl, rfl⟩) ?_ ?_
       rotate_left
       ·simp only [Act.put, List.setIfInBounds_toArray, List.set_cons_zero, List.set_cons_succ, i64_w, i32_w]
        rfl
       refine pure_ (i := 29) (N := some 41) (v := undef) (a' := ?_) #[true, true, true, true, true, true, true, true, true, true, true, true, true, true, true, true, true, true, true, true, true, true, true, true, true, true, true, true, true, true, false, false, false] rfl rfl (by kernel_rfl) (fun _ _ _ h => h) (Or.inr ⟨by rfl, rfl⟩) ?_ ?_
       rotate_left
       ·simp only [Act.put, List.setIfInBounds_toArray, List.set_cons_zero, List.set_cons_succ, i64_w, i32_w]
        rfl
       refine pure_ (i := 30) (N := some 42) (v := undef) (a' := ?_) #[true, true, true, true, true, true, true, true, true, true, true, true, true, true, true, true, true, true, true, true, true, true, true, true, true, true, true, true, true, true, true, false, false] rfl rfl (by kernel_rfl) (fun _ _ _ h => h) (Or.inr ⟨by rfl, rfl⟩) ?_ ?_
       rotate_left
       ·simp only [Act.put, List.setIfInBounds_toArray, List.set_cons_zero, List.set_cons_succ, i64_w, i32_w]
        rfl
       refine pure_ (i := 31) (N := some 43) (v := undef) (a' := ?_) #[true, true, true, true, true, true, true, true, true, true, true, true, true, true, true, true, true, true, true, true, true, true, true, true, true, true, true, true, true, true, true, true, false] rfl rfl (by kernel_rfl) (fun _ _ _ h => h) (Or.inr ⟨by rfl, rfl⟩) ?_ ?_
       rotate_left
       ·simp only [Act.put, List.setIfInBounds_toArray, List.set_cons_zero, List.set_cons_succ, i64_w, i32_w]
        rfl
       refine pure_ (i := 32) (N := some 44) (v := ?_) (a' := ?_) #[true, true, true, true, true, true, true, true, true, true, true, true, true, true, true, true, true, true, true, true, true, true, true, true, true, true, true, true, true, true, true, true, true] rfl rfl (by kernel_rfl) (fun _ _ _ h => h) (Or.inl ⟨by rfl, ?_⟩) ?_ ?_
       rotate_left
       ·intro w'
        go_simp
        with_reducible rfl
       rotate_left
       ·simp only [Act.put, List.setIfInBounds_toArray, List.set_cons_zero, List.set_cons_succ, i64_w, i32_w]
        rfl
       refine done_ (by kernel_rfl) ?_
       clear hw64
       go_wp2_with (fail)
       go_meet
       exact ⟨true, rfl, ⟨by unfold headOk'; rw [← HX.out, decide_eq_false (show ¬ n.toNat = 0 by have := HN0.out; omega), show lt (l[n.toNat - 1]'(by have := HNL.out; omega)).f0 x.f0 = false from (prev_lt' HY.out HJ.out hls)]; simp, by rw [← hwq]; exact below_drew (below_alloc (Below.refl _ _) _)⟩⟩
      | true =>
       refine start_ (n := 33) (S := fun w' => w'.cell? ⟨wr.heap.size, 0, none⟩ = some (.string x.f0) ∧ w'.cell? ⟨wr.heap.size, 1, none⟩ = some (.string x.f1) ∧ w'.cell? ⟨wr.heap.size, 2, none⟩ = some (.string x.f2) ∧ w'.cell? ⟨wr.heap.size, 3, none⟩ = some (.int .u8 x.f3) ∧ w'.cell? ⟨wr.heap.size, 4, none⟩ = some (.int .i64 x.f4.f0) ∧ w'.cell? ⟨wr.heap.size, 5, none⟩ = some (.int .i64 x.f4.f1) ∧ w'.cell? ⟨wr.heap.size, 6, none⟩ = some (.int .i64 x.f4.f2) ∧ w'.cell? ⟨wr.heap.size, 7, none⟩ = some (.int .i64 x.f4.f3) ∧ w'.cell? ⟨wr.heap.size, 8, none⟩ = some (.slice A7 x.f5.length c7) ∧ w'.cell? ⟨W.heap.size, 0, none⟩ = some (.slice (some ad) l.length c0) ∧ w'.cell? (ad.add (j.toNat * 9)) = some (.string y0)) (ds := []) #[false, false, false, false, false, false, false, false, false, false, false, false, false, false, false, false, false, false, false, false, false, false, false, false, false, false, false, false, false, false, false, false, false] (by kernel_rfl) rfl rfl ⟨by simp, by simp, by simp, by simp, by simp, by simp, by simp, by simp, by simp, acell hbox _, acell hp0 _⟩ (fun hHeld => ?_)
       generalize hwq : (wr.alloc (.cells #[.string x.f0, .string x.f1, .string x.f2, .int .u8 x.f3, .int .i64 x.f4.f0, .int .i64 x.f4.f1, .int .i64 x.f4.f2, .int .i64 x.f4.f3, .slice A7 x.f5.length c7] 40)).drew = wq at hHeld ⊢
       refine pure_ (i := 0) (N := some 12) (v := ?_) (a' := ?_) #[true, false, false, false, false, false, false, false, false, false, false, false, false, false, false, false, false, false, false, false, false, false, false, false, false, false, false, false, false, false, false, false, false] rfl rfl (by kernel_rfl) (fun _ _ _ h => h) (Or.inl ⟨by rfl, ?_⟩) ?_ ?_
       rotate_left
       ·intro w'
        go_simp
        with_reducible rfl
       rotate_left
       ·simp only [Act.put, List.setIfInBounds_toArray, List.set_cons_zero, List.set_cons_succ, i64_w, i32_w]
        rfl
       refine take_ (i := 1) (N := some 13) (v := ?_) (a' := ?_) #[true, true, false, false, false, false, false, false, false, false, false, false, false, false, false, false, false, false, false, false, false, false, false, false, false, false, false, false, false, false, false, false, false] rfl rfl (by kernel_rfl) (fun _ _ _ h => h) (Or.inl ⟨by rfl, ?_⟩) hHeld ?_ ?_
       rotate_left
       ·rintro w' ⟨s0, s1, s2, s3, s4, s5, s6, s7, s8, s9, s10⟩
        go_simp
        with_reducible rfl
       rotate_left
       ·simp only [Act.put, List.setIfInBounds_toArray, List.set_cons_zero, List.set_cons_succ, i64_w, i32_w]
        rfl
       refine pure_ (i := 2) (N := some 14) (v := ?_) (a' := ?_) #[true, true, true, false, false, false, false, false, false, false, false, false, false, false, false, false, false, false, false, false, false, false, false, false, false, false, false, false, false, false, false, false, false] rfl rfl (by kernel_rfl) (fun _ _ _ h => h) (Or.inl ⟨by rfl, ?_⟩) ?_ ?_
       rotate_left
       ·intro w'
        go_simp
        with_reducible rfl
       rotate_left
       ·simp only [Act.put, List.setIfInBounds_toArray, List.set_cons_zero, List.set_cons_succ, i64_w, i32_w]
        rfl
       refine pure_ (i := 3) (N := some 15) (v := ?_) (a' := ?_) #[true, true, true, true, false, false, false, false, false, false, false, false, false, false, false, false, false, false, false, false, false, false, false, false, false, false, false, false, false, false, false, false, false] rfl rfl (by kernel_rfl) (fun _ _ _ h => h) (Or.inl ⟨by rfl, ?_⟩) ?_ ?_
       rotate_left
       ·intro w'
        go_simp
        with_reducible rfl
       rotate_left
       ·simp only [Act.put, List.setIfInBounds_toArray, List.set_cons_zero, List.set_cons_succ, i64_w, i32_w]
        rfl
       refine pure_ (i := 4) (N := some 16) (v := ?_) (a' := ?_) #[true, true, true, true, true, false, false, false, false, false, false, false, false, false, false, false, false, false, false, false, false, false, false, false, false, false, false, false, false, false, false, false, false] rfl rfl (by kernel_rfl) (fun _ _ _ h => h) (Or.inl ⟨by rfl, ?_⟩) ?_ ?_
       rotate_left
       ·intro w'
        go_simp
        with_reducible rfl
       rotate_left
       ·simp only [Act.put, List.setIfInBounds_toArray, List.set_cons_zero, List.set_cons_succ, i64_w, i32_w]
        rfl
       refine pure_ (i := 5) (N := some 17) (v := ?_) (a' := ?_) #[true, true, true, true, true, true, false, false, false, false, false, false, false, false, false, false, false, false, false, false, false, false, false, false, false, false, false, false, false, false, false, false, false] rfl rfl (by kernel_rfl) (fun _ _ _ h => h) (Or.inl ⟨by rfl, ?_⟩) ?_ ?_
       rotate_left
       ·intro w'
        go_simp
        with_reducible rfl
       rotate_left
       ·simp only [Act.put, List.setIfInBounds_toArray, List.set_cons_zero, List.set_cons_succ, i64_w, i32_w]
        rfl
       refine pure_ (i := 6) (N := some 18) (v := ?_) (a' := ?_) #[true, true, true, true, true, true, true, false, false, false, false, false, false, false, false, false, false, false, false, false, false, false, false, false, false, false, false, false, false, false, false, false, false] rfl rfl (by kernel_rfl) (fun _ _ _ h => h) (Or.inl ⟨by rfl, ?_⟩) ?_ ?_
       rotate_left
       ·intro w'
        go_simp
        with_reducible rfl
       rotate_left
       ·simp only [Act.put, List.setIfInBounds_toArray, List.set_cons_zero, List.set_cons_succ, i64_w, i32_w]
        rfl
       refine take_ (i := 7) (N := some 19) (v := ?_) (a' := ?_) #[true, true, true, true, true, true, true, true, false, false, false, false, false, false, false, false, false, false, false, false, false, false, false, false, false, false, false, false, false, false, false, false, false] rfl rfl (by kernel_rfl) (fun _ _ _ h => h) (Or.inl ⟨by rfl, ?_⟩) hHeld ?_ ?_
       rotate_left
       ·rintro w' ⟨s0, s1, s2, s3, s4, s5, s6, s7, s8, s9, s10⟩
        go_simp
        with_reducible rfl
       rotate_left
       ·simp only [Act.put, List.setIfInBounds_toArray, List.set_cons_zero, List.set_cons_succ, i64_w, i32_w]
        rfl
       refine pure_ (i := 8) (N := some 20) (v := ?_) (a' := ?_) #[true, true, true, true, true, true, true, true, true, false, false, false, false, false, false, false, false, false, false, false, false, false, false, false, false, false, false, false, false, false, false, false, false] rfl rfl (by kernel_rfl) (fun _ _ _ h => h) (Or.inl ⟨by rfl, ?_⟩) ?_ ?_
       rotate_left
       ·intro w'
        go_simp
        with_reducible rfl
       rotate_left
       ·simp only [Act.put, List.setIfInBounds_toArray, List.set_cons_zero, List.set_cons_succ, i64_w, i32_w]
        rfl
       refine pure_ (i := 9) (N := some 21) (v := ?_) (a' := ?_) #[true, true, true, true, true, true, true, true, true, true, false, false, false, false, false, false, false, false, false, false, false, false, false, false, false, false, false, false, false, false, false, false, false] rfl rfl (by kernel_rfl) (fun _ _ _ h => h) (Or.inl ⟨by rfl, ?_⟩) ?_ ?_
       rotate_left
       ·intro w'
        go_simp
        with_reducible rfl
       rotate_left
       ·simp only [Act.put, List.setIfInBounds_toArray, List.set_cons_zero, List.set_cons_succ, i64_w, i32_w]
        rfl
       refine pure_ (i := 10) (N := some 22) (v := ?_) (a' := ?_) #[true, true, true, true, true, true, true, true, true, true, true, false, false, false, false, false, false, false, false, false, false, false, false, false, false, false, false, false, false, false, false, false, false] rfl rfl (by kernel_rfl) (fun _ _ _ h => h) (Or.inl ⟨by rfl, ?_⟩) ?_ ?_
       rotate_left
       ·intro w'
        go_simp
        with_reducible rfl
       rotate_left
       ·simp only [Act.put, List.setIfInBounds_toArray, List.set_cons_zero, List.set_cons_succ, i64_w, i32_w]
        rfl
       refine pure_ (i := 11) (N := some 23) (v := ?_) (a' := ?_) #[true, true, true, true, true, true, true, true, true, true, true, true, false, false, false, false, false, false, false, false, false, false, false, false, false, false, false, false, false, false, false, false, false] rfl rfl (by kernel_rfl) (fun _ _ _ h => h) (Or.inl ⟨by rfl, ?_⟩) ?_ ?_
       rotate_left
       ·intro w'
        go_simp
        with_reducible rfl
       rotate_left
       ·simp only [Act.put, List.setIfInBounds_toArray, List.set_cons_zero, List.set_cons_succ, i64_w, i32_w]
        rfl
       refine take_ (i := 12) (N := some 24) (v := ?_) (a' := ?_) #[true, true, true, true, true, true, true, true, true, true, true, true, true, false, false, false, false, false, false, false, false, false, false, false, false, false, false, false, false, false, false, false, false] rfl rfl (by kernel_rfl) (fun _ _ _ h => h) (Or.inl ⟨by rfl, ?_⟩) hHeld ?_ ?_
       rotate_left
       ·rintro w' ⟨s0, s1, s2, s3, s4, s5, s6, s7, s8, s9, s10⟩
        go_simp
        with_reducible rfl
       rotate_left
       ·simp only [Act.put, List.setIfInBounds_toArray, List.set_cons_zero, List.set_cons_succ, i64_w, i32_w]
        rfl
       refine pure_ (i := 13) (N := some 25) (v := ?_) (a' := ?_) #[true, true, true, true, true, true, true, true, true, true, true, true, true, true, false, false, false, false, false, false, false, false, false, false, false, false, false, false, false, false, false, false, false] rfl rfl (by kernel_rfl) (fun _ _ _ h => h) (Or.inl ⟨by rfl, ?_⟩) ?_ ?_
       rotate_left
       ·intro w'
        go_simp
        with_reducible rfl
       rotate_left
       ·simp only [Act.put, List.setIfInBounds_toArray, List.set_cons_zero, List.set_cons_succ, i64_w, i32_w]
        rfl
       refine take_ (i := 14) (N := some 26) (v := ?_) (a' := ?_) #[true, true, true, true, true, true, true, true, true, true, true, true, true, true, true, false, false, false, false, false, false, false, false, false, false, false, false, false, false, false, false, false, false] rfl rfl (by kernel_rfl) (fun _ _ _ h => h) (Or.inl ⟨by rfl, ?_⟩) hHeld ?_ ?_
       rotate_left
       ·rintro w' ⟨s0, s1, s2, s3, s4, s5, s6, s7, s8, s9, s10⟩
        go_simp
        with_reducible rfl
       rotate_left
       ·simp only [Act.put, List.setIfInBounds_toArray, List.set_cons_zero, List.set_cons_succ, i64_w, i32_w]
        rfl
       refine pure_ (i := 15) (N := some 27) (v := ?_) (a' := ?_) #[true, true, true, true, true, true, true, true, true, true, true, true, true, true, true, true, false, false, false, false, false, false, false, false, false, false, false, false, false, false, false, false, false] rfl rfl (by kernel_rfl) (fun _ _ _ h => h) (Or.inl ⟨by rfl, ?_⟩) ?_ ?_
       rotate_left
       ·intro w'
        go_simp
        with_reducible rfl
       rotate_left
       ·simp only [Act.put, List.setIfInBounds_toArray, List.set_cons_zero, List.set_cons_succ, i64_w, i32_w]
        rfl
       refine pure_ (i := 16) (N := some 28) (v := ?_) (a' := ?_) #[true, true, true, true, true, true, true, true, true, true, true, true, true, true, true, true, true, false, false, false, false, false, false, false, false, false, false, false, false, false, false, false, false] rfl rfl (by kernel_rfl) (fun _ _ _ h => h) (Or.inl ⟨by rfl, ?_⟩) ?_ ?_
       rotate_left
       ·intro w'
        go_simp
        with_reducible rfl
       rotate_left
       ·simp only [Act.put, List.setIfInBounds_toArray, List.set_cons_zero, List.set_cons_succ, i64_w, i32_w]
        rfl
       refine pure_ (i := 17) (N := some 29) (v := ?_) (a' := ?_) #[true, true, true, true, true, true, true, true, true, true, true, true, true, true, true, true, true, true, false, false, false, false, false, false, false, false, false, false, false, false, false, false, false] rfl rfl (by kernel_rfl) (fun _ _ _ h => h) (Or.inl ⟨by rfl, ?_⟩) ?_ ?_
       rotate_left
       ·intro w'
        go_simp
        with_reducible rfl
       rotate_left
       ·simp only [Act.put, List.setIfInBounds_toArray, List.set_cons_zero, List.set_cons_succ, i64_w, i32_w]
        rfl
       refine pure_ (i := 18) (N := some 30) (v := ?_) (a' := ?_) #[true, true, true, true, true, true, true, true, true, true, true, true, true, true, true, true, true, true, true, false, false, false, false, false, false, false, false, false, false, false, false, false, false] rfl rfl (by kernel_rfl) (fun _ _ _ h => h) (Or.inl ⟨by rfl, ?_⟩) ?_ ?_
       rotate_left
       ·intro w'
        go_simp
        with_reducible rfl
       rotate_left
       ·simp only [Act.put, List.setIfInBounds_toArray, List.set_cons_zero, List.set_cons_succ, i64_w, i32_w]
        rfl
       refine pure_ (i := 19) (N := some 31) (v := ?_) (a' := ?_) #[true, true, true, true, true, true, true, true, true, true, true, true, true, true, true, true, true, true, true, true, false, false, false, false, false, false, false, false, false, false, false, false, false] rfl rfl (by kernel_rfl) (fun _ _ _ h => h) (Or.inl ⟨by rfl, ?_⟩) ?_ ?_
       rotate_left
       ·intro w'
        go_simp
        with_reducible rfl
       rotate_left
       ·simp only [Act.put, List.setIfInBounds_toArray, List.set_cons_zero, List.set_cons_succ, i64_w, i32_w]
        rfl
       refine take_ (i := 20) (N := some 32) (v := ?_) (a' := ?_) #[true, true, true, true, true, true, true, true, true, true, true, true, true, true, true, true, true, true, true, true, true, false, false, false, false, false, false, false, false, false, false, false, false] rfl rfl (by kernel_rfl) (fun _ _ _ h => h) (Or.inl ⟨by rfl, ?_⟩) hHeld ?_ ?_
       rotate_left
       ·rintro w' ⟨s0, s1, s2, s3, s4, s5, s6, s7, s8, s9, s10⟩
        go_simp
        with_reducible rfl
       rotate_left
       ·simp only [Act.put, List.setIfInBounds_toArray, List.set_cons_zero, List.set_cons_succ, i64_w, i32_w]
        rfl
       refine pure_ (i := 21) (N := some 33) (v := ?_) (a' := ?_) #[true, true, true, true, true, true, true, true, true, true, true, true, true, true, true, true, true, true, true, true, true, true, false, false, false, false, false, false, false, false, false, false, false] rfl rfl (by kernel_rfl) (fun _ _ _ h => h) (Or.inl ⟨by rfl, ?_⟩) ?_ ?_
       rotate_left
       ·intro w'
        go_simp
        with_reducible rfl
       rotate_left
       ·simp only [Act.put, List.setIfInBounds_toArray, List.set_cons_zero, List.set_cons_succ, i64_w, i32_w]
        rfl
       refine take_ (i := 22) (N := some 34) (v := ?_) (a' := ?_) #[true, true, true, true, true, true, true, true, true, true, true, true, true, true, true, true, true, true, true, true, true, true, true, false, false, false, false, false, false, false, false, false, false] rfl rfl (by kernel_rfl) (fun _ _ _ h => h) (Or.inl ⟨by rfl, ?_⟩) hHeld ?_ ?_
       rotate_left
       ·rintro w' ⟨s0, s1, s2, s3, s4, s5, s6, s7, s8, s9, s10⟩
        go_simp
        with_reducible rfl
       rotate_left
       ·simp only [Act.put, List.setIfInBounds_toArray, List.set_cons_zero, List.set_cons_succ, i64_w, i32_w]
        rfl
       refine pure_ (i := 23) (N := some 35) (v := ?_) (a' := ?_) #[true, true, true, true, true, true, true, true, true, true, true, true, true, true, true, true, true, true, true, true, true, true, true, true, false, false, false, false, false, false, false, false, false] rfl rfl (by kernel_rfl) (fun _ _ _ h => h) (Or.inl ⟨by rfl, ?_⟩) ?_ ?_
       rotate_left
       ·intro w'
        go_simp
        with_reducible rfl
       rotate_left
       ·simp only [Act.put, List.setIfInBounds_toArray, List.set_cons_zero, List.set_cons_succ, i64_w, i32_w]
        rfl
       refine take_ (i := 24) (N := some 36) (v := ?_) (a' := ?_) #[true, true, true, true, true, true, true, true, true, true, true, true, true, true, true, true, true, true, true, true, true, true, true, true, true, false, false, false, false, false, false, false, false] rfl rfl (by kernel_rfl) (fun _ _ _ h => h) (Or.inl ⟨by rfl, ?_⟩) hHeld ?_ ?_
       rotate_left
       ·rintro w' ⟨s0, s1, s2, s3, s4, s5, s6, s7, s8, s9, s10⟩
        go_simp
        with_reducible rfl
       rotate_left
       ·simp only [Act.put, List.setIfInBounds_toArray, List.set_cons_zero, List.set_cons_succ, i64_w, i32_w]
        rfl
       refine pure_ (i := 25) (N := some 37) (v := ?_) (a' := ?_) #[true, true, true, true, true, true, true, true, true, true, true, true, true, true, true, true, true, true, true, true, true, true, true, true, true, true, false, false, false, false, false, false, false] rfl rfl (by kernel_rfl) (fun _ _ _ h => h) (Or.inl ⟨by rfl, ?_⟩) ?_ ?_
       rotate_left
       ·intro w'
        go_simp
        with_reducible rfl
       rotate_left
       ·simp only [Act.put, List.setIfInBounds_toArray, List.set_cons_zero, List.set_cons_succ, i64_w, i32_w]
        rfl
       refine take_ (i := 26) (N := some 38) (v := ?_) (a' := ?_) #[true, true, true, true, true, true, true, true, true, true, true, true, true, true, true, true, true, true, true, true, true, true, true, true, true, true, true, false, false, false, false, false, false] rfl rfl (by kernel_rfl) (fun _ _ _ h => h) (Or.inl ⟨by rfl, ?_⟩) hHeld ?_ ?_
       rotate_left
       ·rintro w' ⟨s0, s1, s2, s3, s4, s5, s6, s7, s8, s9, s10⟩
        go_simp
        with_reducible rfl
       rotate_left
       ·simp only [Act.put, List.setIfInBounds_toArray, List.set_cons_zero, List.set_cons_succ, i64_w, i32_w]
        rfl
       refine pure_ (i := 27) (N := some 39) (v := ?_) (a' := ?_) #[true, true, true, true, true, true, true, true, true, true, true, true, true, true, true, true, true, true, true, true, true, true, true, true, true, true, true, true, false, false, false, false, false] rfl rfl (by kernel_rfl) (fun _ _ _ h => h) (Or.inl ⟨by rfl, ?_⟩) ?_ ?_
       rotate_left
       ·intro w'
        go_simp
        with_reducible rfl
       rotate_left
       ·simp only [Act.put, List.setIfInBounds_toArray, List.set_cons_zero, List.set_cons_succ, i64_w, i32_w]
        rfl
       refine take_ (i := 28) (N := some 40) (v := ?_) (a' := ?_) #[true, true, true, true, true, true, true, true, true, true, true, true, true, true, true, true, true, true, true, true, true, true, true, true, true, true, true, true, true, false, false, false, false] rfl rfl (by kernel_rfl) (fun _ _ _ h => h) (Or.inl ⟨by rfl, ?_⟩) hHeld ?_ ?_
       rotate_left
       ·rintro w' ⟨s0, s1, s2, s3, s4, s5, s6, s7, s8, s9, s10⟩
        go_simp
        with_reducible rfl
       rotate_left
       ·simp only [Act.put, List.setIfInBounds_toArray, List.set_cons_zero, List.set_cons_succ, i64_w, i32_w]
        rfl
       refine pure_ (i := 29) (N := some 41) (v := ?_) (a' := ?_) #[true, true, true, true, true, true, true, true, true, true, true, true, true, true, true, true, true, true, true, true, true, true, true, true, true, true, true, true, true, true, false, false, false] rfl rfl (by kernel_rfl) (fun _ _ _ h => h) (Or.inl ⟨by rfl, ?_⟩) ?_ ?_
       rotate_left
       ·intro w'
        go_simp
        with_reducible rfl
       rotate_left
       ·simp only [Act.put, List.setIfInBounds_toArray, List.set_cons_zero, List.set_cons_succ, i64_w, i32_w]
        rfl
       refine one_ (i := 30) (N := some 42) #[true, true, true, true, true, true, true, true, true, true, true, true, true, true, true, true, true, true, true, true, true, true, true, true, true, true, true, true, true, true, true, false, false] rfl rfl (by kernel_rfl) (by decide) (fun K hK => ?_)
       refine goes_ Tryd.func43 (by kernel_rfl) rfl #[.agg #[.string x.f0, .string x.f1, .int .u8 x.f3, .int .i64 x.f4.f0, .int .i64 x.f4.f1, .int .i64 x.f4.f2, .int .i64 x.f4.f3, .slice A7 x.f5.length c7]] (by rfl) rfl rfl (by first | rfl | (simp [Act.eval]; done)) ?_
       refine (member_Good.calls kg x.f0 x.f1 x.f3 x.f4.f0 x.f4.f1 x.f4.f2 x.f4.f3 A7 c7 x.f5 gd wq ⟨by rw [← hwq]; exact Tabs.below HTA.out (below_drew (below_alloc (Below.refl _ _) _))⟩ (by rw [← hwq]; exact Kd.C_drew (HCA.out _)) hl7' HKG.out).mono ?_
       rintro e w5 ⟨rfl, hb5⟩
       refine ⟨_, rfl, ?_⟩
       refine hK.out _ _ ⟨bkeep hb5 hHeld.1, bkeep hb5 hHeld.2.1, bkeep hb5 hHeld.2.2.1, bkeep hb5 hHeld.2.2.2.1, bkeep hb5 hHeld.2.2.2.2.1, bkeep hb5 hHeld.2.2.2.2.2.1, bkeep hb5 hHeld.2.2.2.2.2.2.1, bkeep hb5 hHeld.2.2.2.2.2.2.2.1, bkeep hb5 hHeld.2.2.2.2.2.2.2.2.1, bkeep hb5 hHeld.2.2.2.2.2.2.2.2.2.1, bkeep hb5 hHeld.2.2.2.2.2.2.2.2.2.2⟩ (fun hHeld => ?_)
       clear hK K
       refine norm_ (a' := ?_) ?_ ?_
       rotate_left
       ·show Act.put _ (some 42) _ = _
        simp only [Act.put, List.setIfInBounds_toArray, List.set_cons_zero, List.set_cons_succ, i64_w, i32_w]
        rfl
       refine pure_ (i := 31) (N := some 43) (v := ?_) (a' := ?_) #[true, true, true, true, true, true, true, true, true, true, true, true, true, true, true, true, true, true, true, true, true, true, true, true, true, true, true, true, true, true, true, true, false] rfl rfl (by kernel_rfl) (fun _ _ _ h => h) (Or.inl ⟨by rfl, ?_⟩) ?_ ?_
       rotate_left
       ·intro w'
        go_simp
        with_reducible rfl
       rotate_left
       ·simp only [Act.put, List.setIfInBounds_toArray, List.set_cons_zero, List.set_cons_succ, i64_w, i32_w]
        rfl
       refine pure_ (i := 32) (N := some 44) (v := ?_) (a' := ?_) #[true, true, true, true, true, true, true, true, true, true, true, true, true, true, true, true, true, true, true, true, true, true, true, true, true, true, true, true, true, true, true, true, true] rfl rfl (by kernel_rfl) (fun _ _ _ h => h) (Or.inl ⟨by rfl, ?_⟩) ?_ ?_
       rotate_left
       ·intro w'
        go_simp
        with_reducible rfl
       rotate_left
       ·simp only [Act.put, List.setIfInBounds_toArray, List.set_cons_zero, List.set_cons_succ, i64_w, i32_w]
        rfl
       refine done_ (by kernel_rfl) ?_
       clear hw64
       go_wp2_with (fail)
       go_meet
       exact ⟨!gd, rfl, ⟨by unfold headOk'; rw [← HX.out, HGD.out, decide_eq_false H49.out, show lt (l[n.toNat - 1]'(by have := HNL.out; omega)).f0 x.f0 = true from (prev_lt' HY.out HJ.out hls)]; simp, (show Below wr.heap.size wr wq from by rw [← hwq]; exact below_drew (below_alloc (Below.refl _ _) _)).trans (hb5.mono (by rw [← hwq]; show wr.heap.size ≤ (wr.alloc (.cells #[.string x.f0, .string x.f1, .string x.f2, .int .u8 x.f3, .int .i64 x.f4.f0, .int .i64 x.f4.f1, .int .i64 x.f4.f2, .int .i64 x.f4.f3, .slice A7 x.f5.length c7] 40)).heap.size; rw [World.size_alloc]; omega))⟩⟩
   case rest =>
    obtain ⟨b, rfl, HM⟩ := hcut
    cases b with
    | true =>
     go_wp2
     rw [← hQ.out]
     exact ⟨by rw [goodTree_nothead n.toNat HNL.out (by have := HM.out.1; simpa using this.symm)], HB.out.trans (HM.out.2.mono HB.out.size)⟩
    | false =>
     have hfin : GRel l W (some ad) c0 (n + 1) wc := gRel_next HR.out HNL.out (by have := HM.out.1; simpa using this.symm) HM.out.2
     have HF := Aside0.mk hfin
     clear hfin
     go_wp2
     go_roundg (gk - 1)
     case measure => have := HG.out; omega
     case rel => exact ⟨n + 1, by go_num, HF, ⟨by have := HG.out; omega⟩⟩
  ·have c1b : decide (n < (l.length : Int)) = false := decide_eq_false hlt
   obtain ⟨hr, hgt⟩ := goodTree_head (l := l) (fun i hi => HR.out.2.2.1 i hi (by omega))
   have HCT := Aside0.mk (Contains_calls l hr ((nodesZ_iff l).2 HZ.out.1) A0 c0 HC0.out W.heap.size wr hbox (Kd.C_below HC.out HB.out))
   have HGT := Aside0.mk hgt
   clear hgt hr
   by_cases h4 : l.length ≤ 4096
   ·have h4b : decide ((l.length : Int) ≤ 4096) = true := decide_eq_true (by omega)
    have h4c : decide (l.length ≤ 4096) = true := decide_eq_true h4
    have H4 := Aside0.mk h4
    clear h4
    go_wp2_with (go_at_call 50; refine HCT.out.mono ?_; rintro e w1 ⟨rfl, hb1⟩)
    rw [← hQ.out]
    refine ⟨?_, HB.out.trans (hb1.mono HB.out.size)⟩
    rw [HGT.out, decide_eq_true H4.out]
    simp
   ·have h4b : decide ((l.length : Int) ≤ 4096) = false := decide_eq_false (by omega)
    have h4c : decide (l.length ≤ 4096) = false := decide_eq_false h4
    have H4 := Aside0.mk h4
    clear h4
    go_wp2
    rw [← hQ.out]
    refine ⟨?_, HB.out⟩
    rw [HGT.out, decide_eq_false H4.out]
    rfl
end Go.Proofs.YtfljbidecljlcaaDoor

namespace Go.Proofs.YtfljbidecljlcaaDoor
open Go.RowKit Go.Shelf Go.Proofs.YtfljbidecljlcaaDoor.Print Go.Proofs.YtfljbidecljlcaaDoorW.PrintWords
set_option linter.unusedVariables false
set_option linter.unusedSimpArgs false
def litW (w : World) (cs : Array Value) : World := (w.alloc (.cells cs 5)).freeze ⟨w.heap.size, cs.size, none⟩ 1
theorem litW_new (w : World) (cs : Array Value) : (litW w cs).heap[w.heap.size]? = some (.cells cs 5 (cs.size, cs.size + 1)) := by
 simp [litW, World.freeze, World.alloc, -World.alloc_eq]
 rw [Array.getElem_modify_self]
 simp
theorem litW_size (w : World) (cs : Array Value) : (litW w cs).heap.size = w.heap.size + 1 := by
 simp [litW, World.freeze, World.alloc, -World.alloc_eq]
theorem litW_old (w : World) (cs : Array Value) (j : Nat) (hj : j < w.heap.size) : (litW w cs).heap[j]? = w.heap[j]? := by
 have h1 : w.heap.size ≠ j := by omega
 simp [litW, World.freeze, World.alloc, -World.alloc_eq, Array.getElem?_modify, Array.getElem?_push, h1, Ne.symm h1]
theorem litW_below (w : World) (cs : Array Value) : Below w.heap.size w (litW w cs) :=
 ⟨rfl, rfl, rfl, by rw [litW_size]; omega, fun i hi => litW_old w cs i hi⟩
theorem litW_conv (w : World) (cs : Array Value) (n c : Nat) : (convert 23 23 (.slice (some ⟨w.heap.size, 0, none⟩) n c)).run Tryd.prog (w.alloc (.cells cs 5)) = .ok (.slice (some ⟨w.heap.size, 0, none⟩) n c) (litW w cs) := by
 have hsh : (w.alloc (.cells cs 5)).shape? w.heap.size = some (5, cs.size) := by
  simp [World.shape?, World.alloc, -World.alloc_eq]
 simp [convert, run_underlying Tryd.underlying23, run_underlying Tryd.underlying5, markStringish, litW, hsh, Result.andThen]
theorem C_block {α : Type} {d : Kd α} {w : World} {g : Nat} {cs : Array Value} {t : TypeId} {fz : Nat × Nat} {xs : List α} (hb : w.heap[g]? = some (.cells cs t fz)) (hm : xs.length ≤ 9223372036854775807) (hr : Reps (d.K w) d.sz xs cs.toList) : Kd.C d w (some ⟨g, 0, none⟩) xs.length xs := by
 refine ⟨rfl, hm, fun _ => ⟨_, rfl, fun j p hj => ?_⟩⟩
 refine ⟨(cs.toList.drop (j * d.sz)).take d.sz, ?_, hr.2 j p hj, fun i u hu => ?_⟩
 ·exact d.K_len (hr.2 j p hj)
 ·rw [add_plain]
  unfold World.cell?
  dsimp only
  rw [hb]
  dsimp only
  have hi : i < d.sz := by
   have h1 := (List.getElem?_eq_some_iff.1 hu).1
   rw [List.length_take] at h1
   omega
  rw [List.getElem?_take_of_lt hi, List.getElem?_drop] at hu
  simpa using hu
theorem Reps_cons {α : Type} {R : α → List Value → Prop} {size : Nat} {ps : List α} {cs c : List Value} {p : α} (hp : R p c) (hc : c.length = size) (h : Reps R size ps cs) : Reps R size (p :: ps) (c ++ cs) := by
 refine ⟨by rw [List.length_append, hc, h.1, List.length_cons, Nat.add_mul, Nat.one_mul, Nat.add_comm], fun j q hq => ?_⟩
 cases j with
 | zero =>
  simp only [List.getElem?_cons_zero, Option.some.injEq] at hq
  subst hq
  rw [Nat.zero_mul, List.drop_zero, List.take_append_of_le_length (by omega), List.take_of_length_le (by omega)]
  exact hp
 | succ j =>
  simp only [List.getElem?_cons_succ] at hq
  have := h.2 j q hq
  rw [Nat.add_mul, Nat.one_mul, Nat.add_comm, ← hc, List.drop_append, hc]
  rw [List.drop_eq_nil_of_le (by omega), List.nil_append, show size + j * size - size = j * size from by omega]
  exact this
abbrev aB : ByteArray := ⟨#[97]⟩
abbrev bB : ByteArray := ⟨#[98]⟩
abbrev l10 : List Mem := [⟨bB, emp, 48, ⟨0, 0, 0, 0⟩, [120]⟩, ⟨aB, bB, 49, ⟨0, 0, 0, 0⟩, []⟩]
abbrev t10 : List Node := [⟨aB, emp, aB, 48, ⟨0, 0, 0, 0⟩, [120]⟩, ⟨bB, emp, aB, 48, ⟨0, 0, 0, 0⟩, [120]⟩]
theorem str120 : strOfNums [120] = ⟨#[120]⟩ := by rfl
theorem fold10 : foldF l10 = (t10, 0, 0) := by kernel_rfl
theorem fold11 : foldF [⟨aB, bB, 49, ⟨0, 0, 0, 0⟩, []⟩] = ([], 7, 0) := by kernel_rfl
theorem good10 : goodTree t10 = true := by kernel_rfl
theorem good11 : goodTree [z40] = false := by kernel_rfl
def Ans1 (X : World) (e : Ending) (w' : World) : Prop := ∃ g c A8 c8, e = .returned (.tuple #[.slice (some ⟨g, 0, none⟩) 2 c, .agg #[.int .i64 0, .int .i64 0]]) ∧ Kd.C k40 w' (some ⟨g, 0, none⟩) 2 t10 ∧ w'.cell? ⟨g, 2, none⟩ = some (.string ⟨#[97]⟩) ∧ w'.cell? ⟨g, 11, none⟩ = some (.string ⟨#[97]⟩) ∧ w'.cell? ⟨g, 8, none⟩ = some (.slice A8 1 c8) ∧ Kd.C (Kd.int .u8) w' A8 1 [120] ∧ 2 ≤ c ∧ Below X.heap.size X w'
theorem ans1_calls (X : World) (hT : Tabs X) : Calls Tryd.prog 27 #[.slice (some ⟨X.heap.size + 1, 0, none⟩) 2 2] ((litW X #[.int .u8 120]).alloc (.cells #[.string ⟨#[98]⟩, .string ⟨#[]⟩, .int .u8 48, .int .i64 0, .int .i64 0, .int .i64 0, .int .i64 0, .slice (some ⟨X.heap.size, 0, none⟩) 1 1, .string ⟨#[97]⟩, .string ⟨#[98]⟩, .int .u8 49, .int .i64 0, .int .i64 0, .int .i64 0, .int .i64 0, .slice none 0 0] 45)) (Ans1 X) := by
 generalize hO : (Obj.cells _ _) = O
 have hb1 := litW_below X #[.int .u8 120]
 have hs1 := litW_size X #[.int .u8 120]
 have hb2 : Below X.heap.size X ((litW X #[.int .u8 120]).alloc O) := hb1.alloc (by omega) _
 have hblk : ((litW X #[.int .u8 120]).alloc O).heap[X.heap.size + 1]? = some O := by rw [← hs1]; exact blk_new _ _
 have hu : Kd.C (Kd.int .u8) ((litW X #[.int .u8 120]).alloc O) (some ⟨X.heap.size, 0, none⟩) 1 [120] := by
  have h1 : Kd.C (Kd.int .u8) (litW X #[.int .u8 120]) (some ⟨X.heap.size, 0, none⟩) ([120] : List Int).length [120] := C_block (litW_new X #[.int .u8 120]) (by decide) (Reps.one (show Kd.K (Kd.int .u8) _ 120 [.int .u8 120] from rfl) (Reps.none _ _))
  exact Kd.C_alloc h1 _
 subst hO
 have hC : Kd.C k45 _ (some ⟨X.heap.size + 1, 0, none⟩) l10.length l10 := C_block hblk (by decide)
  (Reps_cons (k45_mk _ _ (by decide) hu) rfl (Reps_cons (k45_mk _ _ (Nat.le_refl _) (Kd.C_nil _ _)) rfl (Reps.none _ _)))
 refine (Fold_calls (some ⟨X.heap.size + 1, 0, none⟩) 2 l10 _ (Tabs.below hT hb2) hC ((memsZ_iff _).1 (by decide))).mono ?_
 rintro e w' ⟨v, rfl, hV, hB, hform⟩
 rw [fold10] at hV hform ⊢
 obtain ⟨g, c, rfl⟩ := hform (by decide)
 obtain ⟨h1, h2, h3⟩ := Kd.V_reads' hV
 obtain ⟨ad, A8, c8, hA, x0, x1, x2, x3, x4, x5, x6, x7, x8, hl8, hC8⟩ := at_T40 h3 0 (by decide) (by decide)
 cases hA
 obtain ⟨ad, A9, c9, hA, y0, y1, y2, _⟩ := at_T40 h3 1 (by decide) (by decide)
 cases hA
 exact ⟨g, c, A8, c8, rfl, h3, x2, y2, x8, hC8, h2, hb2.trans (hB.mono hb2.size)⟩
def Ans2 (X : World) (e : Ending) (w' : World) : Prop := ∃ v, e = .returned (.tuple #[v, .agg #[.int .i64 7, .int .i64 0]]) ∧ Below X.heap.size X w'
theorem ans2_calls (X : World) (b : Nat) (hb : X.heap.size = b) (hT : Tabs X) : Calls Tryd.prog 27 #[.slice (some ⟨b, 0, none⟩) 1 1] (X.alloc (.cells #[.string ⟨#[97]⟩, .string ⟨#[98]⟩, .int .u8 49, .int .i64 0, .int .i64 0, .int .i64 0, .int .i64 0, .slice none 0 0] 45)) (Ans2 X) := by
 subst hb
 have hblk := blk_new X (Obj.cells #[.string ⟨#[97]⟩, .string ⟨#[98]⟩, .int .u8 49, .int .i64 0, .int .i64 0, .int .i64 0, .int .i64 0, .slice none 0 0] 45)
 have hb2 := below_alloc (Below.refl X.heap.size X) (Obj.cells #[.string ⟨#[97]⟩, .string ⟨#[98]⟩, .int .u8 49, .int .i64 0, .int .i64 0, .int .i64 0, .int .i64 0, .slice none 0 0] 45)
 have hC : Kd.C k45 _ (some ⟨X.heap.size, 0, none⟩) ([⟨aB, bB, 49, ⟨0, 0, 0, 0⟩, []⟩] : List Mem).length [⟨aB, bB, 49, ⟨0, 0, 0, 0⟩, []⟩] := C_block hblk (by decide)
  (Reps_cons (k45_mk _ _ (Nat.le_refl _) (Kd.C_nil _ _)) rfl (Reps.none _ _))
 refine (Fold_calls (some ⟨X.heap.size, 0, none⟩) 1 _ _ (Tabs.below hT hb2) hC ((memsZ_iff _).1 (by decide))).mono ?_
 rintro e w' ⟨v, rfl, hV, hB, hform⟩
 rw [fold11]
 exact ⟨v, rfl, hb2.trans (hB.mono hb2.size)⟩
theorem ans4_calls (X : World) (b : Nat) (hb : X.heap.size = b) (hT : Tabs X) : Calls Tryd.prog 31 #[.slice (some ⟨b, 0, none⟩) 1 1] (X.alloc (.cells #[.string ⟨#[]⟩, .string ⟨#[]⟩, .string ⟨#[]⟩, .int .u8 0, .int .i64 0, .int .i64 0, .int .i64 0, .int .i64 0, .slice none 0 0] 40)) fun e w' => e = .returned (.bool false) ∧ Below X.heap.size X w' := by
 subst hb
 have hblk := blk_new X (Obj.cells #[.string ⟨#[]⟩, .string ⟨#[]⟩, .string ⟨#[]⟩, .int .u8 0, .int .i64 0, .int .i64 0, .int .i64 0, .int .i64 0, .slice none 0 0] 40)
 have hb2 := below_alloc (Below.refl X.heap.size X) (Obj.cells #[.string ⟨#[]⟩, .string ⟨#[]⟩, .string ⟨#[]⟩, .int .u8 0, .int .i64 0, .int .i64 0, .int .i64 0, .int .i64 0, .slice none 0 0] 40)
 have hC : Kd.C k40 _ (some ⟨X.heap.size, 0, none⟩) ([z40] : List Node).length [z40] := C_block hblk (by decide)
  (Reps_cons (k40_mk _ z40 (Nat.le_refl _) (Kd.C_nil _ _)) rfl (Reps.none _ _))
 refine (Good_calls (some ⟨X.heap.size, 0, none⟩) 1 [z40] _ (Tabs.below hT hb2) hC (by decide) ((nodesG_iff _).1 (by decide))).mono ?_
 rintro e w' ⟨rfl, hB⟩
 rw [good11]
 exact ⟨rfl, hb2.trans (hB.mono hb2.size)⟩
theorem ans3_calls (Y : World) (g c : Nat) (hC : Kd.C k40 Y (some ⟨g, 0, none⟩) 2 t10) (hc : 2 ≤ c) (hT : Tabs Y) : Calls Tryd.prog 31 #[.slice (some ⟨g, 0, none⟩) 2 c] Y fun e w' => e = .returned (.bool true) ∧ Below Y.heap.size Y w' := by
 have h := Good_calls (some ⟨g, 0, none⟩) c t10 Y hT hC hc ((nodesG_iff _).1 (by decide))
 rw [good10] at h
 exact h
set_option maxRecDepth 100000 in
set_option maxHeartbeats 4000000 in
theorem answers10_calls (w : World) (hT : Tabs w) :
  Calls Tryd.prog 26 #[] w fun e w' => e = .returned (.bool true) ∧ Below w.heap.size w w' := by
 have HT : Aside0 (∀ X : World, Below w.heap.size w X → Tabs X) := ⟨fun X hb => Tabs.below hT hb⟩
 have c1 := Aside0.mk (ans1_calls w hT)
 have kc := fun (W : World) => litW_conv W (#[.int .u8 120] : Array Value) 1 1
 have hls := litW_size w #[.int .u8 120]
 clear hT
 go_enter Tryd.func26, Tryd.ntmps26
 go_wp2_with (first
  | (go_at_call 27; (with_reducible refine c1.out.mono ?_); rintro e w1 ⟨g, c, A8, c8, rfl, hC, x2, y2, x8, hC8, hc2, hb1⟩; have HC := Aside0.mk hC; have HC8 := Aside0.mk hC8; have HB1 := Aside0.mk hb1; have hg := World.block_lt_of_cell? w1 _ x2; dsimp only at hg; have hg1 : g < w1.heap.size + 1 := (by omega); have hgn : ¬ w1.heap.size = g := (by omega); have hgn1 : ¬ w1.heap.size + 1 = g := (by omega); have hw1 := hb1.size; clear hC hC8 hb1)
  | (go_at_call 27; refine (ans2_calls _ _ (by simp) (HT.out _ ?hx)).mono ?_; (case hx => repeat (first | with_reducible refine below_put ?_ _ _ (by omega) _ | with_reducible refine below_alloc ?_ _); exact HB1.out); rintro e w2 ⟨v2, rfl, hb2⟩; obtain ⟨hd2, hf2⟩ := bcell hb2; have hz2 := hb2.size; simp only [World.size_alloc, World.size_setCell] at hz2; have HB2 := Aside0.mk hb2; have hq1 : w1.heap.size < w2.heap.size := (by omega); have hq2 : ¬ w1.heap.size = w2.heap.size := (by omega); have hq3 : ¬ w2.heap.size = w1.heap.size := (by omega); have hq4 : g < w2.heap.size := (by omega); have hq5 : ¬ g = w2.heap.size := (by omega); have hq6 : ¬ w2.heap.size = g := (by omega); have hX : Below w1.heap.size w1 w2 := (by refine Below.trans ?_ (HB2.out.mono (by simp)); repeat (first | with_reducible refine below_put ?_ _ _ (by omega) _ | with_reducible refine below_alloc ?_ _); exact Below.refl _ _); have hstr := (fun (o : Obj) => Kd.C_string (P := Tryd.prog) (src := 23) (dst := 9) (n := 1) (c := c8) Tryd.underlying23 Tryd.underlying5 Tryd.underlying9 (Kd.C_alloc (Kd.C_below HC8.out hX) o)); rw [str120] at hstr; have HX := Aside0.mk hX; have HW2 := Aside0.mk (HB1.out.trans (HX.out.mono hw1)); clear hb2 hX)
  | (go_at_call 31; (with_reducible refine (ans3_calls _ g c (Kd.C_alloc (Kd.C_below HC.out HX.out) _) hc2 (HT.out _ (below_alloc HW2.out _))).mono ?_); rintro e w3 ⟨rfl, hb3⟩; obtain ⟨hd3, hf3⟩ := bcell hb3; have hz3 := hb3.size; simp only [World.size_alloc] at hz3; have HB3 := Aside0.mk hb3; have hs23 := HW2.out.size; have HW3 := Aside0.mk ((below_alloc HW2.out _).trans (HB3.out.mono (by rw [World.size_alloc]; omega))); clear hb3)
  | (go_at_call 31; refine (ans4_calls _ _ rfl (HT.out _ HW3.out)).mono ?_; rintro e w4 ⟨rfl, hb4⟩)
  | fail)
 go_ret
 exact ⟨rfl, HW3.out.trans (hb4.mono HW3.out.size)⟩
end Go.Proofs.YtfljbidecljlcaaDoor
namespace Go.Proofs.YtfljbidecljlcaaDoor.Print
open Go.RowKit Go.Proofs.YtfljbidecljlcaaDoor Go.Proofs.YtfljbidecljlcaaDoorW.PrintWords
def bindlelaw10_answers.f : Option (Bool) := some true
theorem bindlelaw10_answers.calls (r : Bool) (w : World) (hT : Aside0 (Tabs w)) (h : bindlelaw10_answers.f = some r) :
  Calls Tryd.prog 26 #[] w fun e w' => e = .returned (.bool r) ∧ Below w.heap.size w w' := by
 cases h
 exact answers10_calls w hT.out
end Go.Proofs.YtfljbidecljlcaaDoor.Print

namespace Go.Proofs.YtfljbidecljlcaaDoor.Print
open Go.RowKit Go.Proofs.YtfljbidecljlcaaDoorW.PrintWords Go.Proofs.YtfljbidecljlcaaDoorW.PrintLast Go.Proofs.YtfljbidecljlcaaDoorW.PrintMore
attribute [local go_sem] max2_int min2_int max_two min_two max_three min_three max_four min_four   -- for this text's walks alone
set_option linter.unusedVariables false
set_option linter.unusedSimpArgs false
attribute [local go_sem high] eqA38
def tree_Equal.f (a0_0 : ByteArray) (a0_1 : ByteArray) (a0_2 : ByteArray) (a0_3 : Int) (a0_4 : Int) (a0_5 : Int) (a0_6 : Int) (a0_7 : Int) (l0_8 : List Int) (a1_0 : ByteArray) (a1_1 : ByteArray) (a1_2 : ByteArray) (a1_3 : Int) (a1_4 : Int) (a1_5 : Int) (a1_6 : Int) (a1_7 : Int) (l1_8 : List Int) : Option (Bool) := if a0_0.toList = a1_0.toList then (if a0_3 = a1_3 then (if (a0_4 == a1_4 && (a0_5 == a1_5 && (a0_6 == a1_6 && (a0_7 == a1_7)))) = true then (if a0_1.toList = a1_1.toList then ((bytes_Equal.f l0_8 l1_8).bind fun t528 => (some t528)) else (some false)) else (some false)) else (some false)) else (some false)
set_option maxHeartbeats 8000000 in
set_option maxRecDepth 100000 in
theorem tree_Equal.calls (a0_0 : ByteArray) (a0_1 : ByteArray) (a0_2 : ByteArray) (a0_3 : Int) (a0_4 : Int) (a0_5 : Int) (a0_6 : Int) (a0_7 : Int) (A0_8 : Option Addr) (c0_8 : Nat) (l0_8 : List Int) (a1_0 : ByteArray) (a1_1 : ByteArray) (a1_2 : ByteArray) (a1_3 : Int) (a1_4 : Int) (a1_5 : Int) (a1_6 : Int) (a1_7 : Int) (A1_8 : Option Addr) (c1_8 : Nat) (l1_8 : List Int) (r : Bool) (w : World) (hr0_8 : Kd.C (Kd.int .u8) w A0_8 l0_8.length l0_8) (hc0_8 : l0_8.length ≤ c0_8) (hr1_8 : Kd.C (Kd.int .u8) w A1_8 l1_8.length l1_8) (hc1_8 : l1_8.length ≤ c1_8) (h : tree_Equal.f a0_0 a0_1 a0_2 a0_3 a0_4 a0_5 a0_6 a0_7 l0_8 a1_0 a1_1 a1_2 a1_3 a1_4 a1_5 a1_6 a1_7 l1_8 = some r) :
  Calls Tryd.prog 37 #[.agg #[.string a0_0, .string a0_1, .string a0_2, .int .u8 a0_3, .int .i64 a0_4, .int .i64 a0_5, .int .i64 a0_6, .int .i64 a0_7, .slice A0_8 l0_8.length c0_8], .agg #[.string a1_0, .string a1_1, .string a1_2, .int .u8 a1_3, .int .i64 a1_4, .int .i64 a1_5, .int .i64 a1_6, .int .i64 a1_7, .slice A1_8 l1_8.length c1_8]] w fun e w' => e = .returned (.bool r) ∧ Below w.heap.size w w' := by
 have hu40 := Tryd.underlying40
 have hu38 := Tryd.underlying38
 have HR0_8 := A0_ hr0_8
 have HC0_8 := A0_ hc0_8
 clear hr0_8 hc0_8
 have HR1_8 := A0_ hr1_8
 have HC1_8 := A0_ hc1_8
 clear hr1_8 hc1_8
 have HB := A0_ (Below.refl w.heap.size w)
 have H : (if a0_0.toList = a1_0.toList then (if a0_3 = a1_3 then (if (a0_4 == a1_4 && (a0_5 == a1_5 && (a0_6 == a1_6 && (a0_7 == a1_7)))) = true then (if a0_1.toList = a1_1.toList then ((bytes_Equal.f l0_8 l1_8).bind fun t528 => (some t528)) else (some false)) else (some false)) else (some false)) else (some false)) = some r := h
 clear h
 by_cases c3 : a0_0.toList = a1_0.toList
 rotate_left
 ·rw [if_neg c3] at H
  have c3b0 : (a0_0.toList == a1_0.toList) = false := beq_eq_false_iff_ne.mpr c3
  have c3b1 : (a0_0.toList != a1_0.toList) = true := bne_iff_ne.mpr c3
  obtain rfl := Option.some.inj H
  go_enter Tryd.func37, Tryd.ntmps37
  go_wp2_with (first | ((with_reducible refine gate_dst (N := 2) rfl ?_); refine box_event ?hg (N := 2) ?hd (cs := #[.string a0_0, .string a0_1, .string a0_2, .int .u8 a0_3, .int .i64 a0_4, .int .i64 a0_5, .int .i64 a0_6, .int .i64 a0_7, .slice A0_8 l0_8.length c0_8]) (t := 40) ?hr ?_; (case hd => rfl); (case hg => rfl); (case hr => first | (go_simp; done) | (go_simp; rfl)); intro gb526 hg w28 hbox hb; have n0_ := A0_ (below_step (wb_ HB.out) hb); have n1_ := A0_ (hbox); have n2_ := A0_ ((by rw [hg]; exact (below_size (wb_ HB.out)) : w.heap.size ≤ gb526)); have n3_ := A0_ ((by rw [hg]; exact (below_size (wb_ HB.out)) : w.heap.size ≤ gb526)); clear HB; have HB := n0_; have BK526 := n1_; have GW526 := n2_; have GE526 := n3_; clear n0_ n1_ n2_ n3_; clear hb hbox hg) | ((with_reducible refine gate_dst (N := 3) rfl ?_); refine box_event ?hg (N := 3) ?hd (cs := #[.string a1_0, .string a1_1, .string a1_2, .int .u8 a1_3, .int .i64 a1_4, .int .i64 a1_5, .int .i64 a1_6, .int .i64 a1_7, .slice A1_8 l1_8.length c1_8]) (t := 40) ?hr ?_; (case hd => rfl); (case hg => rfl); (case hr => first | (go_simp; done) | (go_simp; rfl)); intro gb527 hg w29 hbox hb; have n0_ := A0_ (blk_below (g := gb526) (o := .cells #[.string a0_0, .string a0_1, .string a0_2, .int .u8 a0_3, .int .i64 a0_4, .int .i64 a0_5, .int .i64 a0_6, .int .i64 a0_7, .slice A0_8 l0_8.length c0_8] 40 (0, 0)) (wB_ BK526.out) hb); have n1_ := A0_ (below_step (wb1_ HB.out GE526.out) hb); have n2_ := A0_ (hbox); have n3_ := A0_ ((by rw [hg]; exact (below_size (wb1_ HB.out GE526.out)) : w.heap.size ≤ gb527)); have n4_ := A0_ ((by rw [hg]; exact (below_size (wb1_ HB.out GE526.out)) : w.heap.size ≤ gb527)); have n5_ := A0_ ((by rw [hg]; exact Nat.ne_of_lt (blk_lt (g := gb526) (o := .cells #[.string a0_0, .string a0_1, .string a0_2, .int .u8 a0_3, .int .i64 a0_4, .int .i64 a0_5, .int .i64 a0_6, .int .i64 a0_7, .slice A0_8 l0_8.length c0_8] 40 (0, 0)) (wB_ BK526.out)) : gb526 ≠ gb527)); have n6_ := A0_ ((by rw [hg]; exact Nat.ne_of_gt (blk_lt (g := gb526) (o := .cells #[.string a0_0, .string a0_1, .string a0_2, .int .u8 a0_3, .int .i64 a0_4, .int .i64 a0_5, .int .i64 a0_6, .int .i64 a0_7, .slice A0_8 l0_8.length c0_8] 40 (0, 0)) (wB_ BK526.out)) : gb527 ≠ gb526)); clear BK526; clear HB; have BK526 := n0_; have HB := n1_; have BK527 := n2_; have GW527 := n3_; have GE527 := n4_; have NB526_527 := n5_; have NB527_526 := n6_; clear n0_ n1_ n2_ n3_ n4_ n5_ n6_; clear hb hbox hg; have hnb30 := NB526_527.out; have hnc30 := NB527_526.out; have hcz31_0 : w29.cell? ⟨gb526, 0, none⟩ = some (.string a0_0) := (bc_ BK526.out 0).trans rfl; have hcz31_1 : w29.cell? ⟨gb526, 1, none⟩ = some (.string a0_1) := (bc_ BK526.out 1).trans rfl; have hcz31_2 : w29.cell? ⟨gb526, 2, none⟩ = some (.string a0_2) := (bc_ BK526.out 2).trans rfl; have hcz31_3 : w29.cell? ⟨gb526, 3, none⟩ = some (.int .u8 a0_3) := (bc_ BK526.out 3).trans rfl; have hcz31_4 : w29.cell? ⟨gb526, 4, none⟩ = some (.int .i64 a0_4) := (bc_ BK526.out 4).trans rfl; have hcz31_5 : w29.cell? ⟨gb526, 5, none⟩ = some (.int .i64 a0_5) := (bc_ BK526.out 5).trans rfl; have hcz31_6 : w29.cell? ⟨gb526, 6, none⟩ = some (.int .i64 a0_6) := (bc_ BK526.out 6).trans rfl; have hcz31_7 : w29.cell? ⟨gb526, 7, none⟩ = some (.int .i64 a0_7) := (bc_ BK526.out 7).trans rfl; have hcz31_8 : w29.cell? ⟨gb526, 8, none⟩ = some (.slice A0_8 l0_8.length c0_8) := (bc_ BK526.out 8).trans rfl; have hfz31_0 := bf_ BK526.out 0; have hfz31_1 := bf_ BK526.out 1; have hfz31_2 := bf_ BK526.out 2; have hfz31_3 := bf_ BK526.out 3; have hfz31_4 := bf_ BK526.out 4; have hfz31_5 := bf_ BK526.out 5; have hfz31_6 := bf_ BK526.out 6; have hfz31_7 := bf_ BK526.out 7; have hfz31_8 := bf_ BK526.out 8; have hcz32_0 : w29.cell? ⟨gb527, 0, none⟩ = some (.string a1_0) := (bc_ BK527.out 0).trans rfl; have hcz32_1 : w29.cell? ⟨gb527, 1, none⟩ = some (.string a1_1) := (bc_ BK527.out 1).trans rfl; have hcz32_2 : w29.cell? ⟨gb527, 2, none⟩ = some (.string a1_2) := (bc_ BK527.out 2).trans rfl; have hcz32_3 : w29.cell? ⟨gb527, 3, none⟩ = some (.int .u8 a1_3) := (bc_ BK527.out 3).trans rfl; have hcz32_4 : w29.cell? ⟨gb527, 4, none⟩ = some (.int .i64 a1_4) := (bc_ BK527.out 4).trans rfl; have hcz32_5 : w29.cell? ⟨gb527, 5, none⟩ = some (.int .i64 a1_5) := (bc_ BK527.out 5).trans rfl; have hcz32_6 : w29.cell? ⟨gb527, 6, none⟩ = some (.int .i64 a1_6) := (bc_ BK527.out 6).trans rfl; have hcz32_7 : w29.cell? ⟨gb527, 7, none⟩ = some (.int .i64 a1_7) := (bc_ BK527.out 7).trans rfl; have hcz32_8 : w29.cell? ⟨gb527, 8, none⟩ = some (.slice A1_8 l1_8.length c1_8) := (bc_ BK527.out 8).trans rfl; have hfz32_0 := bf_ BK527.out 0; have hfz32_1 := bf_ BK527.out 1; have hfz32_2 := bf_ BK527.out 2; have hfz32_3 := bf_ BK527.out 3; have hfz32_4 := bf_ BK527.out 4; have hfz32_5 := bf_ BK527.out 5; have hfz32_6 := bf_ BK527.out 6; have hfz32_7 := bf_ BK527.out 7; have hfz32_8 := bf_ BK527.out 8))
  go_ret
  exact ⟨we_, wb2_ HB.out GE526.out GE527.out⟩
 rw [if_pos c3] at H
 have c3b0 : (a0_0.toList == a1_0.toList) = true := beq_iff_eq.mpr c3
 have c3b1 : (a0_0.toList != a1_0.toList) = false := bne_eq_false_iff_eq.mpr c3
 clear c3
 by_cases c4 : a0_3 = a1_3
 rotate_left
 ·rw [if_neg c4] at H
  have c4b0 : (a0_3 == a1_3) = false := beq_eq_false_iff_ne.mpr c4
  have c4b1 : (a0_3 != a1_3) = true := bne_iff_ne.mpr c4
  obtain rfl := Option.some.inj H
  go_enter Tryd.func37, Tryd.ntmps37
  go_wp2_with (first | ((with_reducible refine gate_dst (N := 2) rfl ?_); refine box_event ?hg (N := 2) ?hd (cs := #[.string a0_0, .string a0_1, .string a0_2, .int .u8 a0_3, .int .i64 a0_4, .int .i64 a0_5, .int .i64 a0_6, .int .i64 a0_7, .slice A0_8 l0_8.length c0_8]) (t := 40) ?hr ?_; (case hd => rfl); (case hg => rfl); (case hr => first | (go_simp; done) | (go_simp; rfl)); intro gb526 hg w23 hbox hb; have n0_ := A0_ (below_step (wb_ HB.out) hb); have n1_ := A0_ (hbox); have n2_ := A0_ ((by rw [hg]; exact (below_size (wb_ HB.out)) : w.heap.size ≤ gb526)); have n3_ := A0_ ((by rw [hg]; exact (below_size (wb_ HB.out)) : w.heap.size ≤ gb526)); clear HB; have HB := n0_; have BK526 := n1_; have GW526 := n2_; have GE526 := n3_; clear n0_ n1_ n2_ n3_; clear hb hbox hg) | ((with_reducible refine gate_dst (N := 3) rfl ?_); refine box_event ?hg (N := 3) ?hd (cs := #[.string a1_0, .string a1_1, .string a1_2, .int .u8 a1_3, .int .i64 a1_4, .int .i64 a1_5, .int .i64 a1_6, .int .i64 a1_7, .slice A1_8 l1_8.length c1_8]) (t := 40) ?hr ?_; (case hd => rfl); (case hg => rfl); (case hr => first | (go_simp; done) | (go_simp; rfl)); intro gb527 hg w24 hbox hb; have n0_ := A0_ (blk_below (g := gb526) (o := .cells #[.string a0_0, .string a0_1, .string a0_2, .int .u8 a0_3, .int .i64 a0_4, .int .i64 a0_5, .int .i64 a0_6, .int .i64 a0_7, .slice A0_8 l0_8.length c0_8] 40 (0, 0)) (wB_ BK526.out) hb); have n1_ := A0_ (below_step (wb1_ HB.out GE526.out) hb); have n2_ := A0_ (hbox); have n3_ := A0_ ((by rw [hg]; exact (below_size (wb1_ HB.out GE526.out)) : w.heap.size ≤ gb527)); have n4_ := A0_ ((by rw [hg]; exact (below_size (wb1_ HB.out GE526.out)) : w.heap.size ≤ gb527)); have n5_ := A0_ ((by rw [hg]; exact Nat.ne_of_lt (blk_lt (g := gb526) (o := .cells #[.string a0_0, .string a0_1, .string a0_2, .int .u8 a0_3, .int .i64 a0_4, .int .i64 a0_5, .int .i64 a0_6, .int .i64 a0_7, .slice A0_8 l0_8.length c0_8] 40 (0, 0)) (wB_ BK526.out)) : gb526 ≠ gb527)); have n6_ := A0_ ((by rw [hg]; exact Nat.ne_of_gt (blk_lt (g := gb526) (o := .cells #[.string a0_0, .string a0_1, .string a0_2, .int .u8 a0_3, .int .i64 a0_4, .int .i64 a0_5, .int .i64 a0_6, .int .i64 a0_7, .slice A0_8 l0_8.length c0_8] 40 (0, 0)) (wB_ BK526.out)) : gb527 ≠ gb526)); clear BK526; clear HB; have BK526 := n0_; have HB := n1_; have BK527 := n2_; have GW527 := n3_; have GE527 := n4_; have NB526_527 := n5_; have NB527_526 := n6_; clear n0_ n1_ n2_ n3_ n4_ n5_ n6_; clear hb hbox hg; have hnb25 := NB526_527.out; have hnc25 := NB527_526.out; have hcz26_0 : w24.cell? ⟨gb526, 0, none⟩ = some (.string a0_0) := (bc_ BK526.out 0).trans rfl; have hcz26_1 : w24.cell? ⟨gb526, 1, none⟩ = some (.string a0_1) := (bc_ BK526.out 1).trans rfl; have hcz26_2 : w24.cell? ⟨gb526, 2, none⟩ = some (.string a0_2) := (bc_ BK526.out 2).trans rfl; have hcz26_3 : w24.cell? ⟨gb526, 3, none⟩ = some (.int .u8 a0_3) := (bc_ BK526.out 3).trans rfl; have hcz26_4 : w24.cell? ⟨gb526, 4, none⟩ = some (.int .i64 a0_4) := (bc_ BK526.out 4).trans rfl; have hcz26_5 : w24.cell? ⟨gb526, 5, none⟩ = some (.int .i64 a0_5) := (bc_ BK526.out 5).trans rfl; have hcz26_6 : w24.cell? ⟨gb526, 6, none⟩ = some (.int .i64 a0_6) := (bc_ BK526.out 6).trans rfl; have hcz26_7 : w24.cell? ⟨gb526, 7, none⟩ = some (.int .i64 a0_7) := (bc_ BK526.out 7).trans rfl; have hcz26_8 : w24.cell? ⟨gb526, 8, none⟩ = some (.slice A0_8 l0_8.length c0_8) := (bc_ BK526.out 8).trans rfl; have hfz26_0 := bf_ BK526.out 0; have hfz26_1 := bf_ BK526.out 1; have hfz26_2 := bf_ BK526.out 2; have hfz26_3 := bf_ BK526.out 3; have hfz26_4 := bf_ BK526.out 4; have hfz26_5 := bf_ BK526.out 5; have hfz26_6 := bf_ BK526.out 6; have hfz26_7 := bf_ BK526.out 7; have hfz26_8 := bf_ BK526.out 8; have hcz27_0 : w24.cell? ⟨gb527, 0, none⟩ = some (.string a1_0) := (bc_ BK527.out 0).trans rfl; have hcz27_1 : w24.cell? ⟨gb527, 1, none⟩ = some (.string a1_1) := (bc_ BK527.out 1).trans rfl; have hcz27_2 : w24.cell? ⟨gb527, 2, none⟩ = some (.string a1_2) := (bc_ BK527.out 2).trans rfl; have hcz27_3 : w24.cell? ⟨gb527, 3, none⟩ = some (.int .u8 a1_3) := (bc_ BK527.out 3).trans rfl; have hcz27_4 : w24.cell? ⟨gb527, 4, none⟩ = some (.int .i64 a1_4) := (bc_ BK527.out 4).trans rfl; have hcz27_5 : w24.cell? ⟨gb527, 5, none⟩ = some (.int .i64 a1_5) := (bc_ BK527.out 5).trans rfl; have hcz27_6 : w24.cell? ⟨gb527, 6, none⟩ = some (.int .i64 a1_6) := (bc_ BK527.out 6).trans rfl; have hcz27_7 : w24.cell? ⟨gb527, 7, none⟩ = some (.int .i64 a1_7) := (bc_ BK527.out 7).trans rfl; have hcz27_8 : w24.cell? ⟨gb527, 8, none⟩ = some (.slice A1_8 l1_8.length c1_8) := (bc_ BK527.out 8).trans rfl; have hfz27_0 := bf_ BK527.out 0; have hfz27_1 := bf_ BK527.out 1; have hfz27_2 := bf_ BK527.out 2; have hfz27_3 := bf_ BK527.out 3; have hfz27_4 := bf_ BK527.out 4; have hfz27_5 := bf_ BK527.out 5; have hfz27_6 := bf_ BK527.out 6; have hfz27_7 := bf_ BK527.out 7; have hfz27_8 := bf_ BK527.out 8))
  go_ret
  exact ⟨we_, wb2_ HB.out GE526.out GE527.out⟩
 rw [if_pos c4] at H
 have c4b0 : (a0_3 == a1_3) = true := beq_iff_eq.mpr c4
 have c4b1 : (a0_3 != a1_3) = false := bne_eq_false_iff_eq.mpr c4
 clear c4
 by_cases c5 : (a0_4 == a1_4 && (a0_5 == a1_5 && (a0_6 == a1_6 && (a0_7 == a1_7)))) = true
 rotate_left
 ·rw [if_neg c5] at H
  have c5b0 : (a0_4 == a1_4 && (a0_5 == a1_5 && (a0_6 == a1_6 && (a0_7 == a1_7)))) = false := by simpa using c5
  (try (have c5b1 : decide (a0_4 = a1_4 && (a0_5 == a1_5 && (a0_6 == a1_6 && (a0_7 == a1_7)))) = false := by simpa using c5))
  (try (have c5b2 : (a0_4 == a1_4 && (a0_5 == a1_5 && (a0_6 == a1_6 && (a0_7 == a1_7)))) = false := by simpa using c5))
  (try (have c5b3 : ¬ (a0_4 = a1_4 && (a0_5 == a1_5 && (a0_6 == a1_6 && (a0_7 == a1_7)))) := by simpa using c5))
  clear c5
  obtain rfl := Option.some.inj H
  go_enter Tryd.func37, Tryd.ntmps37
  go_wp2_with (first | ((with_reducible refine gate_dst (N := 2) rfl ?_); refine box_event ?hg (N := 2) ?hd (cs := #[.string a0_0, .string a0_1, .string a0_2, .int .u8 a0_3, .int .i64 a0_4, .int .i64 a0_5, .int .i64 a0_6, .int .i64 a0_7, .slice A0_8 l0_8.length c0_8]) (t := 40) ?hr ?_; (case hd => rfl); (case hg => rfl); (case hr => first | (go_simp; done) | (go_simp; rfl)); intro gb526 hg w18 hbox hb; have n0_ := A0_ (below_step (wb_ HB.out) hb); have n1_ := A0_ (hbox); have n2_ := A0_ ((by rw [hg]; exact (below_size (wb_ HB.out)) : w.heap.size ≤ gb526)); have n3_ := A0_ ((by rw [hg]; exact (below_size (wb_ HB.out)) : w.heap.size ≤ gb526)); clear HB; have HB := n0_; have BK526 := n1_; have GW526 := n2_; have GE526 := n3_; clear n0_ n1_ n2_ n3_; clear hb hbox hg) | ((with_reducible refine gate_dst (N := 3) rfl ?_); refine box_event ?hg (N := 3) ?hd (cs := #[.string a1_0, .string a1_1, .string a1_2, .int .u8 a1_3, .int .i64 a1_4, .int .i64 a1_5, .int .i64 a1_6, .int .i64 a1_7, .slice A1_8 l1_8.length c1_8]) (t := 40) ?hr ?_; (case hd => rfl); (case hg => rfl); (case hr => first | (go_simp; done) | (go_simp; rfl)); intro gb527 hg w19 hbox hb; have n0_ := A0_ (blk_below (g := gb526) (o := .cells #[.string a0_0, .string a0_1, .string a0_2, .int .u8 a0_3, .int .i64 a0_4, .int .i64 a0_5, .int .i64 a0_6, .int .i64 a0_7, .slice A0_8 l0_8.length c0_8] 40 (0, 0)) (wB_ BK526.out) hb); have n1_ := A0_ (below_step (wb1_ HB.out GE526.out) hb); have n2_ := A0_ (hbox); have n3_ := A0_ ((by rw [hg]; exact (below_size (wb1_ HB.out GE526.out)) : w.heap.size ≤ gb527)); have n4_ := A0_ ((by rw [hg]; exact (below_size (wb1_ HB.out GE526.out)) : w.heap.size ≤ gb527)); have n5_ := A0_ ((by rw [hg]; exact Nat.ne_of_lt (blk_lt (g := gb526) (o := .cells #[.string a0_0, .string a0_1, .string a0_2, .int .u8 a0_3, .int .i64 a0_4, .int .i64 a0_5, .int .i64 a0_6, .int .i64 a0_7, .slice A0_8 l0_8.length c0_8] 40 (0, 0)) (wB_ BK526.out)) : gb526 ≠ gb527)); have n6_ := A0_ ((by rw [hg]; exact Nat.ne_of_gt (blk_lt (g := gb526) (o := .cells #[.string a0_0, .string a0_1, .string a0_2, .int .u8 a0_3, .int .i64 a0_4, .int .i64 a0_5, .int .i64 a0_6, .int .i64 a0_7, .slice A0_8 l0_8.length c0_8] 40 (0, 0)) (wB_ BK526.out)) : gb527 ≠ gb526)); clear BK526; clear HB; have BK526 := n0_; have HB := n1_; have BK527 := n2_; have GW527 := n3_; have GE527 := n4_; have NB526_527 := n5_; have NB527_526 := n6_; clear n0_ n1_ n2_ n3_ n4_ n5_ n6_; clear hb hbox hg; have hnb20 := NB526_527.out; have hnc20 := NB527_526.out; have hcz21_0 : w19.cell? ⟨gb526, 0, none⟩ = some (.string a0_0) := (bc_ BK526.out 0).trans rfl; have hcz21_1 : w19.cell? ⟨gb526, 1, none⟩ = some (.string a0_1) := (bc_ BK526.out 1).trans rfl; have hcz21_2 : w19.cell? ⟨gb526, 2, none⟩ = some (.string a0_2) := (bc_ BK526.out 2).trans rfl; have hcz21_3 : w19.cell? ⟨gb526, 3, none⟩ = some (.int .u8 a0_3) := (bc_ BK526.out 3).trans rfl; have hcz21_4 : w19.cell? ⟨gb526, 4, none⟩ = some (.int .i64 a0_4) := (bc_ BK526.out 4).trans rfl; have hcz21_5 : w19.cell? ⟨gb526, 5, none⟩ = some (.int .i64 a0_5) := (bc_ BK526.out 5).trans rfl; have hcz21_6 : w19.cell? ⟨gb526, 6, none⟩ = some (.int .i64 a0_6) := (bc_ BK526.out 6).trans rfl; have hcz21_7 : w19.cell? ⟨gb526, 7, none⟩ = some (.int .i64 a0_7) := (bc_ BK526.out 7).trans rfl; have hcz21_8 : w19.cell? ⟨gb526, 8, none⟩ = some (.slice A0_8 l0_8.length c0_8) := (bc_ BK526.out 8).trans rfl; have hfz21_0 := bf_ BK526.out 0; have hfz21_1 := bf_ BK526.out 1; have hfz21_2 := bf_ BK526.out 2; have hfz21_3 := bf_ BK526.out 3; have hfz21_4 := bf_ BK526.out 4; have hfz21_5 := bf_ BK526.out 5; have hfz21_6 := bf_ BK526.out 6; have hfz21_7 := bf_ BK526.out 7; have hfz21_8 := bf_ BK526.out 8; have hcz22_0 : w19.cell? ⟨gb527, 0, none⟩ = some (.string a1_0) := (bc_ BK527.out 0).trans rfl; have hcz22_1 : w19.cell? ⟨gb527, 1, none⟩ = some (.string a1_1) := (bc_ BK527.out 1).trans rfl; have hcz22_2 : w19.cell? ⟨gb527, 2, none⟩ = some (.string a1_2) := (bc_ BK527.out 2).trans rfl; have hcz22_3 : w19.cell? ⟨gb527, 3, none⟩ = some (.int .u8 a1_3) := (bc_ BK527.out 3).trans rfl; have hcz22_4 : w19.cell? ⟨gb527, 4, none⟩ = some (.int .i64 a1_4) := (bc_ BK527.out 4).trans rfl; have hcz22_5 : w19.cell? ⟨gb527, 5, none⟩ = some (.int .i64 a1_5) := (bc_ BK527.out 5).trans rfl; have hcz22_6 : w19.cell? ⟨gb527, 6, none⟩ = some (.int .i64 a1_6) := (bc_ BK527.out 6).trans rfl; have hcz22_7 : w19.cell? ⟨gb527, 7, none⟩ = some (.int .i64 a1_7) := (bc_ BK527.out 7).trans rfl; have hcz22_8 : w19.cell? ⟨gb527, 8, none⟩ = some (.slice A1_8 l1_8.length c1_8) := (bc_ BK527.out 8).trans rfl; have hfz22_0 := bf_ BK527.out 0; have hfz22_1 := bf_ BK527.out 1; have hfz22_2 := bf_ BK527.out 2; have hfz22_3 := bf_ BK527.out 3; have hfz22_4 := bf_ BK527.out 4; have hfz22_5 := bf_ BK527.out 5; have hfz22_6 := bf_ BK527.out 6; have hfz22_7 := bf_ BK527.out 7; have hfz22_8 := bf_ BK527.out 8))
  go_ret
  exact ⟨we_, wb2_ HB.out GE526.out GE527.out⟩
 rw [if_pos c5] at H
 have c5b0 : (a0_4 == a1_4 && (a0_5 == a1_5 && (a0_6 == a1_6 && (a0_7 == a1_7)))) = true := c5
 (try (have c5b1 : decide (a0_4 = a1_4 && (a0_5 == a1_5 && (a0_6 == a1_6 && (a0_7 == a1_7)))) = true := by simpa using c5))
 (try (have c5b2 : (a0_4 == a1_4 && (a0_5 == a1_5 && (a0_6 == a1_6 && (a0_7 == a1_7)))) = true := by simpa using c5))
 clear c5
 by_cases c6 : a0_1.toList = a1_1.toList
 rotate_left
 ·rw [if_neg c6] at H
  have c6b0 : (a0_1.toList == a1_1.toList) = false := beq_eq_false_iff_ne.mpr c6
  have c6b1 : (a0_1.toList != a1_1.toList) = true := bne_iff_ne.mpr c6
  obtain rfl := Option.some.inj H
  go_enter Tryd.func37, Tryd.ntmps37
  go_wp2_with (first | ((with_reducible refine gate_dst (N := 2) rfl ?_); refine box_event ?hg (N := 2) ?hd (cs := #[.string a0_0, .string a0_1, .string a0_2, .int .u8 a0_3, .int .i64 a0_4, .int .i64 a0_5, .int .i64 a0_6, .int .i64 a0_7, .slice A0_8 l0_8.length c0_8]) (t := 40) ?hr ?_; (case hd => rfl); (case hg => rfl); (case hr => first | (go_simp; done) | (go_simp; rfl)); intro gb526 hg w13 hbox hb; have n0_ := A0_ (below_step (wb_ HB.out) hb); have n1_ := A0_ (hbox); have n2_ := A0_ ((by rw [hg]; exact (below_size (wb_ HB.out)) : w.heap.size ≤ gb526)); have n3_ := A0_ ((by rw [hg]; exact (below_size (wb_ HB.out)) : w.heap.size ≤ gb526)); clear HB; have HB := n0_; have BK526 := n1_; have GW526 := n2_; have GE526 := n3_; clear n0_ n1_ n2_ n3_; clear hb hbox hg) | ((with_reducible refine gate_dst (N := 3) rfl ?_); refine box_event ?hg (N := 3) ?hd (cs := #[.string a1_0, .string a1_1, .string a1_2, .int .u8 a1_3, .int .i64 a1_4, .int .i64 a1_5, .int .i64 a1_6, .int .i64 a1_7, .slice A1_8 l1_8.length c1_8]) (t := 40) ?hr ?_; (case hd => rfl); (case hg => rfl); (case hr => first | (go_simp; done) | (go_simp; rfl)); intro gb527 hg w14 hbox hb; have n0_ := A0_ (blk_below (g := gb526) (o := .cells #[.string a0_0, .string a0_1, .string a0_2, .int .u8 a0_3, .int .i64 a0_4, .int .i64 a0_5, .int .i64 a0_6, .int .i64 a0_7, .slice A0_8 l0_8.length c0_8] 40 (0, 0)) (wB_ BK526.out) hb); have n1_ := A0_ (below_step (wb1_ HB.out GE526.out) hb); have n2_ := A0_ (hbox); have n3_ := A0_ ((by rw [hg]; exact (below_size (wb1_ HB.out GE526.out)) : w.heap.size ≤ gb527)); have n4_ := A0_ ((by rw [hg]; exact (below_size (wb1_ HB.out GE526.out)) : w.heap.size ≤ gb527)); have n5_ := A0_ ((by rw [hg]; exact Nat.ne_of_lt (blk_lt (g := gb526) (o := .cells #[.string a0_0, .string a0_1, .string a0_2, .int .u8 a0_3, .int .i64 a0_4, .int .i64 a0_5, .int .i64 a0_6, .int .i64 a0_7, .slice A0_8 l0_8.length c0_8] 40 (0, 0)) (wB_ BK526.out)) : gb526 ≠ gb527)); have n6_ := A0_ ((by rw [hg]; exact Nat.ne_of_gt (blk_lt (g := gb526) (o := .cells #[.string a0_0, .string a0_1, .string a0_2, .int .u8 a0_3, .int .i64 a0_4, .int .i64 a0_5, .int .i64 a0_6, .int .i64 a0_7, .slice A0_8 l0_8.length c0_8] 40 (0, 0)) (wB_ BK526.out)) : gb527 ≠ gb526)); clear BK526; clear HB; have BK526 := n0_; have HB := n1_; have BK527 := n2_; have GW527 := n3_; have GE527 := n4_; have NB526_527 := n5_; have NB527_526 := n6_; clear n0_ n1_ n2_ n3_ n4_ n5_ n6_; clear hb hbox hg; have hnb15 := NB526_527.out; have hnc15 := NB527_526.out; have hcz16_0 : w14.cell? ⟨gb526, 0, none⟩ = some (.string a0_0) := (bc_ BK526.out 0).trans rfl; have hcz16_1 : w14.cell? ⟨gb526, 1, none⟩ = some (.string a0_1) := (bc_ BK526.out 1).trans rfl; have hcz16_2 : w14.cell? ⟨gb526, 2, none⟩ = some (.string a0_2) := (bc_ BK526.out 2).trans rfl; have hcz16_3 : w14.cell? ⟨gb526, 3, none⟩ = some (.int .u8 a0_3) := (bc_ BK526.out 3).trans rfl; have hcz16_4 : w14.cell? ⟨gb526, 4, none⟩ = some (.int .i64 a0_4) := (bc_ BK526.out 4).trans rfl; have hcz16_5 : w14.cell? ⟨gb526, 5, none⟩ = some (.int .i64 a0_5) := (bc_ BK526.out 5).trans rfl; have hcz16_6 : w14.cell? ⟨gb526, 6, none⟩ = some (.int .i64 a0_6) := (bc_ BK526.out 6).trans rfl; have hcz16_7 : w14.cell? ⟨gb526, 7, none⟩ = some (.int .i64 a0_7) := (bc_ BK526.out 7).trans rfl; have hcz16_8 : w14.cell? ⟨gb526, 8, none⟩ = some (.slice A0_8 l0_8.length c0_8) := (bc_ BK526.out 8).trans rfl; have hfz16_0 := bf_ BK526.out 0; have hfz16_1 := bf_ BK526.out 1; have hfz16_2 := bf_ BK526.out 2; have hfz16_3 := bf_ BK526.out 3; have hfz16_4 := bf_ BK526.out 4; have hfz16_5 := bf_ BK526.out 5; have hfz16_6 := bf_ BK526.out 6; have hfz16_7 := bf_ BK526.out 7; have hfz16_8 := bf_ BK526.out 8; have hcz17_0 : w14.cell? ⟨gb527, 0, none⟩ = some (.string a1_0) := (bc_ BK527.out 0).trans rfl; have hcz17_1 : w14.cell? ⟨gb527, 1, none⟩ = some (.string a1_1) := (bc_ BK527.out 1).trans rfl; have hcz17_2 : w14.cell? ⟨gb527, 2, none⟩ = some (.string a1_2) := (bc_ BK527.out 2).trans rfl; have hcz17_3 : w14.cell? ⟨gb527, 3, none⟩ = some (.int .u8 a1_3) := (bc_ BK527.out 3).trans rfl; have hcz17_4 : w14.cell? ⟨gb527, 4, none⟩ = some (.int .i64 a1_4) := (bc_ BK527.out 4).trans rfl; have hcz17_5 : w14.cell? ⟨gb527, 5, none⟩ = some (.int .i64 a1_5) := (bc_ BK527.out 5).trans rfl; have hcz17_6 : w14.cell? ⟨gb527, 6, none⟩ = some (.int .i64 a1_6) := (bc_ BK527.out 6).trans rfl; have hcz17_7 : w14.cell? ⟨gb527, 7, none⟩ = some (.int .i64 a1_7) := (bc_ BK527.out 7).trans rfl; have hcz17_8 : w14.cell? ⟨gb527, 8, none⟩ = some (.slice A1_8 l1_8.length c1_8) := (bc_ BK527.out 8).trans rfl; have hfz17_0 := bf_ BK527.out 0; have hfz17_1 := bf_ BK527.out 1; have hfz17_2 := bf_ BK527.out 2; have hfz17_3 := bf_ BK527.out 3; have hfz17_4 := bf_ BK527.out 4; have hfz17_5 := bf_ BK527.out 5; have hfz17_6 := bf_ BK527.out 6; have hfz17_7 := bf_ BK527.out 7; have hfz17_8 := bf_ BK527.out 8))
  go_ret
  exact ⟨we_, wb2_ HB.out GE526.out GE527.out⟩
 rw [if_pos c6] at H
 have c6b0 : (a0_1.toList == a1_1.toList) = true := beq_iff_eq.mpr c6
 have c6b1 : (a0_1.toList != a1_1.toList) = false := bne_eq_false_iff_eq.mpr c6
 clear c6
 replace H := Option.bind_eq_some_iff.mp H
 obtain ⟨t528, A70, H⟩ := H
 replace H : (some t528) = some r := H
 have A7 := A0_ A70
 clear A70
 obtain rfl := Option.some.inj H
 go_enter Tryd.func37, Tryd.ntmps37
 go_wp2_with (first | ((with_reducible refine gate_dst (N := 2) rfl ?_); refine box_event ?hg (N := 2) ?hd (cs := #[.string a0_0, .string a0_1, .string a0_2, .int .u8 a0_3, .int .i64 a0_4, .int .i64 a0_5, .int .i64 a0_6, .int .i64 a0_7, .slice A0_8 l0_8.length c0_8]) (t := 40) ?hr ?_; (case hd => rfl); (case hg => rfl); (case hr => first | (go_simp; done) | (go_simp; rfl)); intro gb526 hg w8 hbox hb; have n0_ := A0_ (below_step (wb_ HB.out) hb); have n1_ := A0_ (hbox); have n2_ := A0_ ((by rw [hg]; exact (below_size (wb_ HB.out)) : w.heap.size ≤ gb526)); have n3_ := A0_ ((by rw [hg]; exact (below_size (wb_ HB.out)) : w.heap.size ≤ gb526)); clear HB; have HB := n0_; have BK526 := n1_; have GW526 := n2_; have GE526 := n3_; clear n0_ n1_ n2_ n3_; clear hb hbox hg) | ((with_reducible refine gate_dst (N := 3) rfl ?_); refine box_event ?hg (N := 3) ?hd (cs := #[.string a1_0, .string a1_1, .string a1_2, .int .u8 a1_3, .int .i64 a1_4, .int .i64 a1_5, .int .i64 a1_6, .int .i64 a1_7, .slice A1_8 l1_8.length c1_8]) (t := 40) ?hr ?_; (case hd => rfl); (case hg => rfl); (case hr => first | (go_simp; done) | (go_simp; rfl)); intro gb527 hg w9 hbox hb; have n0_ := A0_ (blk_below (g := gb526) (o := .cells #[.string a0_0, .string a0_1, .string a0_2, .int .u8 a0_3, .int .i64 a0_4, .int .i64 a0_5, .int .i64 a0_6, .int .i64 a0_7, .slice A0_8 l0_8.length c0_8] 40 (0, 0)) (wB_ BK526.out) hb); have n1_ := A0_ (below_step (wb1_ HB.out GE526.out) hb); have n2_ := A0_ (hbox); have n3_ := A0_ ((by rw [hg]; exact (below_size (wb1_ HB.out GE526.out)) : w.heap.size ≤ gb527)); have n4_ := A0_ ((by rw [hg]; exact (below_size (wb1_ HB.out GE526.out)) : w.heap.size ≤ gb527)); have n5_ := A0_ ((by rw [hg]; exact Nat.ne_of_lt (blk_lt (g := gb526) (o := .cells #[.string a0_0, .string a0_1, .string a0_2, .int .u8 a0_3, .int .i64 a0_4, .int .i64 a0_5, .int .i64 a0_6, .int .i64 a0_7, .slice A0_8 l0_8.length c0_8] 40 (0, 0)) (wB_ BK526.out)) : gb526 ≠ gb527)); have n6_ := A0_ ((by rw [hg]; exact Nat.ne_of_gt (blk_lt (g := gb526) (o := .cells #[.string a0_0, .string a0_1, .string a0_2, .int .u8 a0_3, .int .i64 a0_4, .int .i64 a0_5, .int .i64 a0_6, .int .i64 a0_7, .slice A0_8 l0_8.length c0_8] 40 (0, 0)) (wB_ BK526.out)) : gb527 ≠ gb526)); clear BK526; clear HB; have BK526 := n0_; have HB := n1_; have BK527 := n2_; have GW527 := n3_; have GE527 := n4_; have NB526_527 := n5_; have NB527_526 := n6_; clear n0_ n1_ n2_ n3_ n4_ n5_ n6_; clear hb hbox hg; have hnb10 := NB526_527.out; have hnc10 := NB527_526.out; have hcz11_0 : w9.cell? ⟨gb526, 0, none⟩ = some (.string a0_0) := (bc_ BK526.out 0).trans rfl; have hcz11_1 : w9.cell? ⟨gb526, 1, none⟩ = some (.string a0_1) := (bc_ BK526.out 1).trans rfl; have hcz11_2 : w9.cell? ⟨gb526, 2, none⟩ = some (.string a0_2) := (bc_ BK526.out 2).trans rfl; have hcz11_3 : w9.cell? ⟨gb526, 3, none⟩ = some (.int .u8 a0_3) := (bc_ BK526.out 3).trans rfl; have hcz11_4 : w9.cell? ⟨gb526, 4, none⟩ = some (.int .i64 a0_4) := (bc_ BK526.out 4).trans rfl; have hcz11_5 : w9.cell? ⟨gb526, 5, none⟩ = some (.int .i64 a0_5) := (bc_ BK526.out 5).trans rfl; have hcz11_6 : w9.cell? ⟨gb526, 6, none⟩ = some (.int .i64 a0_6) := (bc_ BK526.out 6).trans rfl; have hcz11_7 : w9.cell? ⟨gb526, 7, none⟩ = some (.int .i64 a0_7) := (bc_ BK526.out 7).trans rfl; have hcz11_8 : w9.cell? ⟨gb526, 8, none⟩ = some (.slice A0_8 l0_8.length c0_8) := (bc_ BK526.out 8).trans rfl; have hfz11_0 := bf_ BK526.out 0; have hfz11_1 := bf_ BK526.out 1; have hfz11_2 := bf_ BK526.out 2; have hfz11_3 := bf_ BK526.out 3; have hfz11_4 := bf_ BK526.out 4; have hfz11_5 := bf_ BK526.out 5; have hfz11_6 := bf_ BK526.out 6; have hfz11_7 := bf_ BK526.out 7; have hfz11_8 := bf_ BK526.out 8; have hcz12_0 : w9.cell? ⟨gb527, 0, none⟩ = some (.string a1_0) := (bc_ BK527.out 0).trans rfl; have hcz12_1 : w9.cell? ⟨gb527, 1, none⟩ = some (.string a1_1) := (bc_ BK527.out 1).trans rfl; have hcz12_2 : w9.cell? ⟨gb527, 2, none⟩ = some (.string a1_2) := (bc_ BK527.out 2).trans rfl; have hcz12_3 : w9.cell? ⟨gb527, 3, none⟩ = some (.int .u8 a1_3) := (bc_ BK527.out 3).trans rfl; have hcz12_4 : w9.cell? ⟨gb527, 4, none⟩ = some (.int .i64 a1_4) := (bc_ BK527.out 4).trans rfl; have hcz12_5 : w9.cell? ⟨gb527, 5, none⟩ = some (.int .i64 a1_5) := (bc_ BK527.out 5).trans rfl; have hcz12_6 : w9.cell? ⟨gb527, 6, none⟩ = some (.int .i64 a1_6) := (bc_ BK527.out 6).trans rfl; have hcz12_7 : w9.cell? ⟨gb527, 7, none⟩ = some (.int .i64 a1_7) := (bc_ BK527.out 7).trans rfl; have hcz12_8 : w9.cell? ⟨gb527, 8, none⟩ = some (.slice A1_8 l1_8.length c1_8) := (bc_ BK527.out 8).trans rfl; have hfz12_0 := bf_ BK527.out 0; have hfz12_1 := bf_ BK527.out 1; have hfz12_2 := bf_ BK527.out 2; have hfz12_3 := bf_ BK527.out 3; have hfz12_4 := bf_ BK527.out 4; have hfz12_5 := bf_ BK527.out 5; have hfz12_6 := bf_ BK527.out 6; have hfz12_7 := bf_ BK527.out 7; have hfz12_8 := bf_ BK527.out 8) | (go_at_call 60; (with_reducible refine (bytes_Equal.calls _ _ l0_8 _ _ l1_8 t528 _ ?side1 ?side2 ?side3 ?side4 A7.out).mono ?_); (case side1 => exact wc_ (Kd.C_below HR0_8.out HB.out)); (case side2 => exact HC0_8.out); (case side3 => exact wc_ (Kd.C_below HR1_8.out HB.out)); (case side4 => exact HC1_8.out); rintro e w' ⟨rfl, ⟨nd, rfl⟩⟩))
 go_ret
 exact ⟨we_, wb2_ HB.out GE526.out GE527.out⟩
end Go.Proofs.YtfljbidecljlcaaDoor.Print

namespace Go.Proofs.YtfljbidecljlcaaDoor
open Go.RowKit Go.Proofs.YtfljbidecljlcaaDoor.Print Go.Proofs.YtfljbidecljlcaaDoorW.PrintWords
theorem equal_chain (a b : Node) {r : Option Bool} (h : r = some ((strOfNums a.f5).toList == (strOfNums b.f5).toList)) : (if a.f0.toList = b.f0.toList then (if a.f3 = b.f3 then (if (a.f4.f0 == b.f4.f0 && (a.f4.f1 == b.f4.f1 && (a.f4.f2 == b.f4.f2 && (a.f4.f3 == b.f4.f3)))) = true then (if a.f1.toList = b.f1.toList then r else (some false)) else (some false)) else (some false)) else (some false)) = some (equalB a b) := by
 subst h
 unfold equalB
 by_cases h0 : a.f0.toList = b.f0.toList
 ·rw [if_pos h0]
  by_cases h1 : a.f3 = b.f3
  ·rw [if_pos h1]
   by_cases h2 : (a.f4.f0 == b.f4.f0 && (a.f4.f1 == b.f4.f1 && (a.f4.f2 == b.f4.f2 && (a.f4.f3 == b.f4.f3)))) = true
   ·rw [if_pos h2]
    simp only [Bool.and_eq_true, beq_iff_eq] at h2
    by_cases h3 : a.f1.toList = b.f1.toList
    ·rw [if_pos h3]
     congr 1
     rw [Bool.eq_iff_iff, beq_iff_eq, decide_eq_true_iff]
     exact ⟨fun h => ⟨h0, h1, h2.1, h2.2.1, h2.2.2.1, h2.2.2.2, h3, h⟩, fun h => h.2.2.2.2.2.2.2⟩
    ·rw [if_neg h3, decide_eq_false]
     exact fun h => h3 h.2.2.2.2.2.2.1
   ·rw [if_neg h2, decide_eq_false]
    intro h
    apply h2
    simp only [Bool.and_eq_true, beq_iff_eq]
    exact ⟨h.2.2.1, h.2.2.2.1, h.2.2.2.2.1, h.2.2.2.2.2.1⟩
  ·rw [if_neg h1, decide_eq_false]
   exact fun h => h1 h.2.1
 ·rw [if_neg h0, decide_eq_false]
  exact fun h => h0 h.1
theorem tequal_f (a b : Node) : tree_Equal.f a.f0 a.f1 a.f2 a.f3 a.f4.f0 a.f4.f1 a.f4.f2 a.f4.f3 a.f5 b.f0 b.f1 b.f2 b.f3 b.f4.f0 b.f4.f1 b.f4.f2 b.f4.f3 b.f5 = some (equalB a b) := by
 unfold tree_Equal.f
 exact equal_chain a b (by unfold bytes_Equal.f; rfl)
end Go.Proofs.YtfljbidecljlcaaDoor

namespace Go.Proofs.YtfljbidecljlcaaDoor
open Go.RowKit Go.Maps Go.Proofs.YtfljbidecljlcaaDoor.Print Go.Proofs.YtfljbidecljlcaaDoorW.PrintWords Go.Proofs.YtfljbidecljlcaaDoorW.PrintLast Go.Proofs.YtfljbidecljlcaaDoorW.PrintMore
set_option linter.unusedVariables false
set_option linter.unusedSimpArgs false
def nodeB (x y : Node) : Bool := decide (x.f2.toList = y.f2.toList) && equalB x y
theorem sameB_len : ∀ (l r : List Node), sameB l r = true → l.length = r.length
 | [], [], _ => rfl
 | [], _ :: _, h => by cases h
 | _ :: _, [], h => by cases h
 | a :: l, b :: r, h => by
  rw [sameB, Bool.and_eq_true] at h
  rw [List.length_cons, List.length_cons, sameB_len l r h.2]
theorem sameB_of : ∀ (l r : List Node) (hl : l.length = r.length), (∀ (i : Nat) (hi : i < l.length), nodeB l[i] (r[i]'(by omega)) = true) → sameB l r = true
 | [], [], _, _ => rfl
 | [], _ :: _, h, _ => by cases h
 | _ :: _, [], h, _ => by cases h
 | a :: l, b :: r, hl, h => by
  rw [sameB]
  have h0 := h 0 (Nat.succ_pos _)
  unfold nodeB at h0
  rw [Bool.and_eq_true]
  exact ⟨h0, sameB_of l r (by simpa using hl) (fun i hi => h (i + 1) (by simpa using hi))⟩
theorem sameB_at : ∀ (l r : List Node) (hl : l.length = r.length), sameB l r = true → ∀ (i : Nat) (hi : i < l.length), nodeB l[i] (r[i]'(by omega)) = true
 | [], _, _, _ => fun i hi => absurd hi (Nat.not_lt_zero _)
 | _ :: _, [], h, _ => by cases h
 | a :: l, b :: r, hl, h => by
  rw [sameB, Bool.and_eq_true] at h
  intro i hi
  cases i with
  | zero => exact h.1
  | succ i => exact sameB_at l r (by simpa using hl) h.2 i (by simpa using hi)
theorem Same1_calls (x y : Node) (A B : Option Addr) (c d : Nat) (W : World) (hx : Kd.C (Kd.int .u8) W A x.f5.length x.f5) (hc : x.f5.length ≤ c) (hy : Kd.C (Kd.int .u8) W B y.f5.length y.f5) (hd : y.f5.length ≤ d) :
  Calls Tryd.prog 62 #[.agg (nodeCells x (.slice A x.f5.length c)), .agg (nodeCells y (.slice B y.f5.length d))] W fun e W' => e = .returned (.bool (nodeB x y)) ∧ Below W.heap.size W W' := by
 have hl := tequal_f x y
 have HX := Aside0.mk (fun o p => Kd.C_alloc (Kd.C_alloc hx o) p)
 have HY := Aside0.mk (fun o p => Kd.C_alloc (Kd.C_alloc hy o) p)
 have HL := Aside0.mk hl
 clear hl hx hy
 have hz : W.heap.size < W.heap.size + 1 := Nat.lt_succ_self _
 have hne : ¬ W.heap.size = W.heap.size + 1 := by omega
 generalize hpost : (fun (e : Ending) (W' : World) => e = .returned (.bool (nodeB x y)) ∧ Below W.heap.size W W') = Q
 have hQ := Aside0.mk hpost
 clear hpost
 unfold nodeCells
 by_cases h2 : x.f2.toList = y.f2.toList
 ·have e2 : (x.f2.toList == y.f2.toList) = true := beq_iff_eq.2 h2
  have H2 := Aside0.mk h2
  clear h2
  go_enter Tryd.func62, Tryd.ntmps62
  go_wp2_with (go_at_call 37; refine (tree_Equal.calls x.f0 x.f1 x.f2 x.f3 x.f4.f0 x.f4.f1 x.f4.f2 x.f4.f3 A c x.f5 y.f0 y.f1 y.f2 y.f3 y.f4.f0 y.f4.f1 y.f4.f2 y.f4.f3 B d y.f5 (equalB x y) _ (HX.out _ _) hc (HY.out _ _) hd HL.out).mono ?_; rintro e w1 ⟨rfl, hb⟩)
  rw [← hQ.out]
  refine ⟨by unfold nodeB; rw [decide_eq_true H2.out]; rfl, ?_⟩
  exact (((Below.refl _ _).alloc (Nat.le_refl _) _).alloc (by simp) _).trans (hb.mono (by simp; omega))
 ·have e2 : (x.f2.toList == y.f2.toList) = false := beq_eq_false_iff_ne.2 h2
  have H2 := Aside0.mk h2
  clear h2
  go_enter Tryd.func62, Tryd.ntmps62
  go_wp2
  rw [← hQ.out]
  refine ⟨by unfold nodeB; rw [decide_eq_false H2.out]; rfl, ?_⟩
  exact ((Below.refl _ _).alloc (Nat.le_refl _) _).alloc (by simp) _
def SameRel (l r : List Node) (W : World) (i : Int) (wr : World) : Prop := 0 ≤ i ∧ i ≤ l.length ∧ (∀ (j : Nat) (hj : j < l.length) (hk : j < r.length), (j : Int) < i → nodeB l[j] r[j] = true) ∧ Below W.heap.size W wr
set_option maxRecDepth 100000 in
set_option maxHeartbeats 4000000 in
theorem EqualFunc_calls (A0 : Option Addr) (c0 : Nat) (l : List Node) (A1 : Option Addr) (c1 : Nat) (r : List Node) (W : World) (hC : Kd.C k40 W A0 l.length l) (hD : Kd.C k40 W A1 r.length r) (hl : l.length ≤ 1000000000000) (hr : r.length ≤ 1000000000000) :
  Calls Tryd.prog 61 #[.slice A0 l.length c0, .slice A1 r.length c1, .func (.func 62) #[] #[]] W fun e W' => e = .returned (.bool (sameB l r)) ∧ Below W.heap.size W W' := by
 have HC := Aside0.mk hC
 have HD := Aside0.mk hD
 clear hC hD
 generalize hpost : (fun (e : Ending) (W' : World) => e = .returned (.bool (sameB l r)) ∧ Below W.heap.size W W') = Q
 have hQ := Aside0.mk hpost
 clear hpost
 by_cases hlr : l.length = r.length
 case neg =>
  have hb : ((l.length : Int) != (r.length : Int)) = true := by rw [bne_iff_ne]; omega
  have HN := Aside0.mk hlr
  clear hlr
  go_enter Tryd.func61, Tryd.ntmps61
  go_wp2
  rw [← hQ.out]
  refine ⟨?_, Below.refl _ _⟩
  cases hs : sameB l r with
  | false => rfl
  | true => exact absurd (sameB_len l r hs) HN.out
 case pos =>
  have hb : ((l.length : Int) != (r.length : Int)) = false := by rw [bne_eq_false_iff_eq]; omega
  have HN := Aside0.mk hlr
  clear hlr
  go_enter Tryd.func61, Tryd.ntmps61
  go_wp2
  go_loopw [17] (fun i wr => ∃ n : Int, i = .int .i64 n ∧ Aside0 (SameRel l r W n wr)) (fun i _ => (l.length - (intOf i)).toNat)
  case atStart => exact ⟨0, rfl, ⟨⟨by omega, by omega, fun j hj hk h => absurd h (by omega), Below.refl _ _⟩⟩⟩
  case round =>
   obtain ⟨n, rfl, HR⟩ := hrel
   have h0 := HR.out.1
   have h1 := HR.out.2.1
   have HB := Aside0.mk HR.out.2.2.2
   by_cases hlt : n < (l.length : Int)
   ·have c1b : decide (n < (l.length : Int)) = true := decide_eq_true hlt
    have hlt2 : n < (r.length : Int) := by have := HN.out; omega
    have hnl : n.toNat < l.length := by omega
    have hnr : n.toNat < r.length := by omega
    obtain ⟨ad, A7, c7, hA, x0, x1, x2, x3, x4, x5, x6, x7, x8, hl7, hC7⟩ := at_T40 (Kd.C_below HC.out HB.out) n h0 hlt
    have hx := rdN_at l n h0 hlt
    generalize rd_T40 l n = x at hx x0 x1 x2 x3 x4 x5 x6 x7 x8 hl7 hC7
    obtain ⟨bd, B7, d7, hB, y0, y1, y2, y3, y4, y5, y6, y7, y8, hl8, hC8⟩ := at_T40 (Kd.C_below HD.out HB.out) n h0 hlt2
    have hy := rdN_at r n h0 hlt2
    generalize rd_T40 r n = y at hy y0 y1 y2 y3 y4 y5 y6 y7 y8 hl8 hC8
    subst hA
    subst hB
    have HX := Aside0.mk hx
    have HY := Aside0.mk hy
    have HC7 := Aside0.mk (fun o p => Kd.C_alloc (Kd.C_alloc hC7 o) p)
    have HC8 := Aside0.mk (fun o p => Kd.C_alloc (Kd.C_alloc hC8 o) p)
    have HNL := Aside0.mk hnl
    have HNR := Aside0.mk hnr
    have hl7' : x.f5.length ≤ c7 := hl7
    have hl8' : y.f5.length ≤ d7 := hl8
    have hz : wr.heap.size < wr.heap.size + 1 := Nat.lt_succ_self _
    have hne : ¬ wr.heap.size = wr.heap.size + 1 := by omega
    have hyb : ∀ (o : Obj) (j : Nat) (v : Value), wr.cell? ⟨(bd.add (n.toNat * 9)).block, (bd.add (n.toNat * 9)).off + j, none⟩ = some v → (wr.alloc o).cell? ⟨(bd.add (n.toNat * 9)).block, (bd.add (n.toNat * 9)).off + j, none⟩ = some v := fun o j v h => ((below_alloc (Below.refl _ _) o).cell (World.block_lt_of_cell? wr _ h)).trans h
    have hy0' : ∀ o : Obj, (wr.alloc o).cell? (bd.add (n.toNat * 9)) = some (.string y.f0) := fun o => ((below_alloc (Below.refl _ _) o).cell (World.block_lt_of_cell? wr _ y0)).trans y0
    have hy1' := fun o => hyb o _ _ y1
    have hy2' := fun o => hyb o _ _ y2
    have hy3' := fun o => hyb o _ _ y3
    have hy4' := fun o => hyb o _ _ y4
    have hy5' := fun o => hyb o _ _ y5
    have hy6' := fun o => hyb o _ _ y6
    have hy7' := fun o => hyb o _ _ y7
    have hy8' := fun o => hyb o _ _ y8
    clear hx hy hC7 hC8 hl7 hl8 hnl hnr hyb y0 y1 y2 y3 y4 y5 y6 y7 y8
    have hcl := fun W2 hx2 hy2 => Same1_calls x y A7 B7 c7 d7 W2 hx2 hl7' hy2 hl8'
    unfold nodeCells at hcl
    cases hb1 : nodeB x y with
    | true =>
     rw [hb1] at hcl
     have HCL := Aside0.mk hcl
     have HNB := Aside0.mk hb1
     clear hcl hb1
     go_wp2_with (go_at_call 62; refine (HCL.out _ (HC7.out _ _) (HC8.out _ _)).mono ?_; rintro e w1 ⟨rfl, hb1⟩)
     have hfin : SameRel l r W (n + 1) w1 := by
      refine ⟨by omega, by omega, fun j hj hk hjn => ?_, ((HB.out.alloc HB.out.size _).alloc (by have := HB.out.size; simp; omega) _).trans (hb1.mono (by have := HB.out.size; simp; omega))⟩
      rcases Nat.lt_or_ge j n.toNat with h | h
      ·exact HR.out.2.2.1 j hj hk (by omega)
      ·obtain rfl : j = n.toNat := by omega
       rw [← HX.out, ← HY.out]; exact HNB.out
     clear hb1
     go_roundw
     case rel => exact ⟨n + 1, by go_num, ⟨hfin⟩⟩
     case measure => simp [intOf]; omega
    | false =>
     rw [hb1] at hcl
     have HCL := Aside0.mk hcl
     have HNB := Aside0.mk hb1
     clear hcl hb1
     go_wp2_with (go_at_call 62; refine (HCL.out _ (HC7.out _ _) (HC8.out _ _)).mono ?_; rintro e w1 ⟨rfl, hb1⟩)
     rw [← hQ.out]
     refine ⟨?_, ((HB.out.alloc HB.out.size _).alloc (by have := HB.out.size; simp; omega) _).trans (hb1.mono (by have := HB.out.size; simp; omega))⟩
     cases hs : sameB l r with
     | false => rfl
     | true =>
      have := sameB_at l r HN.out hs n.toNat HNL.out
      rw [← HX.out, ← HY.out, HNB.out] at this
      cases this
   ·have c1b : decide (n < (l.length : Int)) = false := decide_eq_false hlt
    go_wp2
    rw [← hQ.out]
    refine ⟨?_, HB.out⟩
    rw [sameB_of l r HN.out (fun i hi => HR.out.2.2.1 i hi (by have := HN.out; omega) (by omega))]
theorem Same_calls (A0 : Option Addr) (c0 : Nat) (l : List Node) (A1 : Option Addr) (c1 : Nat) (r : List Node) (W : World) (hC : Kd.C k40 W A0 l.length l) (hD : Kd.C k40 W A1 r.length r) (hl : l.length ≤ 1000000000000) (hr : r.length ≤ 1000000000000) :
  Calls Tryd.prog 38 #[.slice A0 l.length c0, .slice A1 r.length c1] W fun e W' => e = .returned (.bool (sameB l r)) ∧ Below W.heap.size W W' := by
 have HE := Aside0.mk (EqualFunc_calls A0 c0 l A1 c1 r W hC hD hl hr)
 clear hC hD
 go_enter Tryd.func38, Tryd.ntmps38
 go_wp2_with (go_at_call 61; refine HE.out.mono ?_; rintro e w1 ⟨rfl, hb⟩)
 go_ret
 exact ⟨rfl, hb⟩
end Go.Proofs.YtfljbidecljlcaaDoor

namespace Go.Proofs.YtfljbidecljlcaaDoor.Print
open Go.RowKit Go.Proofs.YtfljbidecljlcaaDoor Go.Proofs.YtfljbidecljlcaaDoorW.PrintWords Go.Proofs.YtfljbidecljlcaaDoorW.PrintLast Go.Proofs.YtfljbidecljlcaaDoorW.PrintMore
set_option linter.unusedVariables false
def tree_Good.f (l : List S40) : Option Bool := if nodesG l = true then some (goodTree l) else none
theorem tree_Good.calls (A0 : Option Addr) (c0 : Nat) (l0 : List S40) (r : Bool) (w : World) (hT : Aside0 (Tabs w)) (hr0 : Kd.C k40 w A0 l0.length l0) (hc0 : l0.length ≤ c0) (h : tree_Good.f l0 = some r) :
  Calls Tryd.prog 31 #[.slice A0 l0.length c0] w fun e w' => e = .returned (.bool r) ∧ Below w.heap.size w w' := by
 unfold tree_Good.f at h
 split at h
 ·rename_i hc
  simp only [Option.some.injEq] at h
  subst h
  exact Good_calls A0 c0 l0 w hT.out hr0 hc0 ((nodesG_iff l0).1 hc)
 ·cases h
def tree_Same.f (l r : List S40) : Option Bool := if l.length ≤ 1000000000000 ∧ r.length ≤ 1000000000000 then some (sameB l r) else none
theorem tree_Same.calls (A0 : Option Addr) (c0 : Nat) (l0 : List S40) (A1 : Option Addr) (c1 : Nat) (l1 : List S40) (r : Bool) (w : World) (hr0 : Kd.C k40 w A0 l0.length l0) (hc0 : l0.length ≤ c0) (hr1 : Kd.C k40 w A1 l1.length l1) (hc1 : l1.length ≤ c1) (h : tree_Same.f l0 l1 = some r) :
  Calls Tryd.prog 38 #[.slice A0 l0.length c0, .slice A1 l1.length c1] w fun e w' => e = .returned (.bool r) ∧ Below w.heap.size w w' := by
 unfold tree_Same.f at h
 split at h
 ·rename_i hc
  simp only [Option.some.injEq] at h
  subst h
  exact Same_calls A0 c0 l0 A1 c1 l1 w hr0 hr1 hc.1 hc.2
 ·cases h
end Go.Proofs.YtfljbidecljlcaaDoor.Print

namespace Go.Proofs.YtfljbidecljlcaaDoor.Print
open Go.RowKit Go.Proofs.YtfljbidecljlcaaDoorW.PrintWords Go.Proofs.YtfljbidecljlcaaDoorW.PrintLast Go.Proofs.YtfljbidecljlcaaDoorW.PrintMore
attribute [local go_sem] max2_int min2_int max_two min_two max_three min_three max_four min_four   -- for this text's walks alone
set_option linter.unusedVariables false
set_option linter.unusedSimpArgs false
def bindleref08_Find.l0 : Nat → List (S40) → ByteArray → Int → Option (ByteArray × ByteArray × ByteArray × Int × Int × Int × Int × Int × List Int × Bool)
 | 0, _, _, _ => none
 | k + 1, x0, x1, x6 => if x6 < (x0.length : Int) then (if 0 ≤ x6 then (if ((rd_T40 x0 x6).f0).toList = x1.toList then (some ((rd_T40 x0 x6).f0, (rd_T40 x0 x6).f1, (rd_T40 x0 x6).f2, (rd_T40 x0 x6).f3, (rd_T40 x0 x6).f4.f0, (rd_T40 x0 x6).f4.f1, (rd_T40 x0 x6).f4.f2, (rd_T40 x0 x6).f4.f3, (rd_T40 x0 x6).f5, true)) else (bindleref08_Find.l0 k x0 x1 (wrap64 (x6 + 1)))) else (none)) else (some ((⟨#[]⟩ : ByteArray), (⟨#[]⟩ : ByteArray), (⟨#[]⟩ : ByteArray), 0, 0, 0, 0, 0, ([] : List Int), false))
def bindleref08_Find.f (k : Nat) (l0 : List (S40)) (a1 : ByteArray) : Option (ByteArray × ByteArray × ByteArray × Int × Int × Int × Int × Int × List Int × Bool) := bindleref08_Find.l0 k l0 a1 0
set_option maxHeartbeats 8000000 in
set_option maxRecDepth 100000 in
theorem bindleref08_Find.calls (k : Nat) (P0_ : Nat → Prop) (A0 : Option Addr) (c0 : Nat) (l0 : List (S40)) (a1 : ByteArray) (r1 : ByteArray) (r2 : ByteArray) (r3 : ByteArray) (r4 : Int) (r5 : Int) (r6 : Int) (r7 : Int) (r8 : Int) (r9 : List Int) (r10 : Bool) (w : World) (hs0 : Kd.V k40 40 w w.heap.size (fun k_ => P0_ k_) (.slice A0 l0.length c0) l0) (h : bindleref08_Find.f k l0 a1 = some (r1, r2, r3, r4, r5, r6, r7, r8, r9, r10)) :
  Calls Tryd.prog 23 #[.slice A0 l0.length c0, .string a1] w fun e w' => ∃ v8_ : Value, e = .returned (.tuple #[.agg #[.string r1, .string r2, .string r3, .int .u8 r4, .int .i64 r5, .int .i64 r6, .int .i64 r7, .int .i64 r8, v8_], .bool r10]) ∧ Kd.V (Kd.int .u8) 5 w' w.heap.size (fun k_ => (P0_ k_ ∨ w.heap.size ≤ k_)) v8_ r9 ∧ Below w.heap.size w w' := by
 have hu40 := Tryd.underlying40
 have HO0 := A0_ (show Kd.V k40 40 w w.heap.size (fun k_ => (P0_ k_ ∨ w.heap.size ≤ k_)) (.slice A0 l0.length c0) l0 from Kd.V_mono hs0 (fun k_ hk => .inl hk))
 have HB := A0_ (Below.refl w.heap.size w)
 have H : (bindleref08_Find.l0 k l0 a1 0) = some (r1, r2, r3, r4, r5, r6, r7, r8, r9, r10) := h
 clear h
 have H' := A0_ H
 clear H
 go_enter Tryd.func23, Tryd.ntmps23
 go_wp2_with (first | ((with_reducible refine gate_dst (N := 4) rfl ?_); refine box_event ?hg (N := 4) ?hd (cs := #[.string (⟨#[]⟩ : ByteArray), .string (⟨#[]⟩ : ByteArray), .string (⟨#[]⟩ : ByteArray), .int .u8 0, .int .i64 0, .int .i64 0, .int .i64 0, .int .i64 0, .slice none 0 0]) (t := 40) ?hr ?_; (case hd => rfl); (case hg => rfl); (case hr => first | (go_simp; done) | (go_simp; rfl)); intro gb169 hg w3 hbox hb; have n0_ := A0_ (Vb_ (Kd.V_elderB (wV_ HO0.out) gb169 (Nat.le_of_eq hg.symm)) hb); have n1_ := A0_ (below_step (wb_ HB.out) hb); have n2_ := A0_ (hbox); have n3_ := A0_ ((by rw [hg]; exact (below_size (wb_ HB.out)) : w.heap.size ≤ gb169)); have n4_ := A0_ ((by rw [hg]; exact (below_size (wb_ HB.out)) : w.heap.size ≤ gb169)); clear HO0; clear HB; have HO0 := n0_; have HB := n1_; have BK169 := n2_; have GW169 := n3_; have GE169 := n4_; clear n0_ n1_ n2_ n3_ n4_; clear hb hbox hg))
 go_loopg [6] k (fun kq v6 w' => ∃ (x6_1 : Int) (x170000_1 : ByteArray) (x170001_1 : ByteArray) (x170002_1 : ByteArray) (x170003_1 : Int) (x170004_1 : Int) (x170005_1 : Int) (x170006_1 : Int) (x170007_1 : Int), v6 = .int .i64 x6_1 ∧ Aside0 (bindleref08_Find.l0 kq l0 a1 x6_1 = some (r1, r2, r3, r4, r5, r6, r7, r8, r9, r10)) ∧ Aside0 (kq ≤ k) ∧ Aside0 (Kd.V k40 40 w' w.heap.size (fun k_ => (P0_ k_ ∨ w.heap.size ≤ k_) ∧ k_ ≠ gb169) (.slice A0 l0.length c0) l0) ∧ Aside0 (w'.heap[gb169]? = some (.cells #[.string x170000_1, .string x170001_1, .string x170002_1, .int .u8 x170003_1, .int .i64 x170004_1, .int .i64 x170005_1, .int .i64 x170006_1, .int .i64 x170007_1, (.slice none 0 0)] 40 (0, 0))) ∧ Aside0 (Below w.heap.size w w'))
 case atStart => exact ⟨(0), ((⟨#[]⟩ : ByteArray)), ((⟨#[]⟩ : ByteArray)), ((⟨#[]⟩ : ByteArray)), (0), (0), (0), (0), (0), wr_, H', ⟨Nat.le_refl _⟩, ⟨wV_ HO0.out⟩, ⟨wB_ BK169.out⟩, ⟨wb1_ HB.out GE169.out⟩⟩
 case round =>
  clear H'
  try clear c2
  try clear p2
  obtain ⟨x6_1, x170000_1, x170001_1, x170002_1, x170003_1, x170004_1, x170005_1, x170006_1, x170007_1, rfl, HA, HK1, HO_0, BK169, HB⟩ := hrel
  cases gk with
  | zero => exact absurd HA.out (by simp [bindleref08_Find.l0])
  | succ k1 =>
   have H := HA.out
   clear HA
   simp only [bindleref08_Find.l0] at H
   by_cases c4 : x6_1 < (l0.length : Int)
   rotate_left
   ·rw [if_neg c4] at H
    have c4b0 : decide (x6_1 < (l0.length : Int)) = false := decide_eq_false c4
    clear c4
    simp only [Option.some.injEq, Prod.mk.injEq] at H
    obtain ⟨rfl, rfl, rfl, rfl, rfl, rfl, rfl, rfl, rfl, rfl⟩ := H
    have hcz8_0 : wr.cell? ⟨gb169, 0, none⟩ = some (.string x170000_1) := (bc_ BK169.out 0).trans rfl
    have hcz8_1 : wr.cell? ⟨gb169, 1, none⟩ = some (.string x170001_1) := (bc_ BK169.out 1).trans rfl
    have hcz8_2 : wr.cell? ⟨gb169, 2, none⟩ = some (.string x170002_1) := (bc_ BK169.out 2).trans rfl
    have hcz8_3 : wr.cell? ⟨gb169, 3, none⟩ = some (.int .u8 x170003_1) := (bc_ BK169.out 3).trans rfl
    have hcz8_4 : wr.cell? ⟨gb169, 4, none⟩ = some (.int .i64 x170004_1) := (bc_ BK169.out 4).trans rfl
    have hcz8_5 : wr.cell? ⟨gb169, 5, none⟩ = some (.int .i64 x170005_1) := (bc_ BK169.out 5).trans rfl
    have hcz8_6 : wr.cell? ⟨gb169, 6, none⟩ = some (.int .i64 x170006_1) := (bc_ BK169.out 6).trans rfl
    have hcz8_7 : wr.cell? ⟨gb169, 7, none⟩ = some (.int .i64 x170007_1) := (bc_ BK169.out 7).trans rfl
    have hcz8_8 : wr.cell? ⟨gb169, 8, none⟩ = some (.slice none 0 0) := (bc_ BK169.out 8).trans rfl
    have hfz8_0 := bf_ BK169.out 0
    have hfz8_1 := bf_ BK169.out 1
    have hfz8_2 := bf_ BK169.out 2
    have hfz8_3 := bf_ BK169.out 3
    have hfz8_4 := bf_ BK169.out 4
    have hfz8_5 := bf_ BK169.out 5
    have hfz8_6 := bf_ BK169.out 6
    have hfz8_7 := bf_ BK169.out 7
    have hfz8_8 := bf_ BK169.out 8
    go_wp2
    refine bodyPost_ret (results_ct rfl _ _ gb169 40 #[.string (⟨#[]⟩ : ByteArray), .string (⟨#[]⟩ : ByteArray), .string (⟨#[]⟩ : ByteArray), .int .u8 0, .int .i64 0, .int .i64 0, .int .i64 0, .int .i64 0, .slice none 0 0] (0, 0) _ rfl (by (with_reducible repeat (first | refine blk_drewN ?_ _ | refine blk_drew ?_ | refine blk_alloc ?_ _)); refine blk_put (cs := #[.string (⟨#[]⟩ : ByteArray), .string (⟨#[]⟩ : ByteArray), .string (⟨#[]⟩ : ByteArray), .int .u8 0, .int .i64 0, .int .i64 0, .int .i64 0, .int .i64 0, .slice none 0 0]) ?_ 8 _ rfl; (with_reducible repeat (first | refine blk_drewN ?_ _ | refine blk_drew ?_ | refine blk_alloc ?_ _)); refine blk_put (cs := #[.string (⟨#[]⟩ : ByteArray), .string (⟨#[]⟩ : ByteArray), .string (⟨#[]⟩ : ByteArray), .int .u8 0, .int .i64 0, .int .i64 0, .int .i64 0, .int .i64 x170007_1, .slice none 0 0]) ?_ 7 _ rfl; (with_reducible repeat (first | refine blk_drewN ?_ _ | refine blk_drew ?_ | refine blk_alloc ?_ _)); refine blk_put (cs := #[.string (⟨#[]⟩ : ByteArray), .string (⟨#[]⟩ : ByteArray), .string (⟨#[]⟩ : ByteArray), .int .u8 0, .int .i64 0, .int .i64 0, .int .i64 x170006_1, .int .i64 x170007_1, .slice none 0 0]) ?_ 6 _ rfl; (with_reducible repeat (first | refine blk_drewN ?_ _ | refine blk_drew ?_ | refine blk_alloc ?_ _)); refine blk_put (cs := #[.string (⟨#[]⟩ : ByteArray), .string (⟨#[]⟩ : ByteArray), .string (⟨#[]⟩ : ByteArray), .int .u8 0, .int .i64 0, .int .i64 x170005_1, .int .i64 x170006_1, .int .i64 x170007_1, .slice none 0 0]) ?_ 5 _ rfl; (with_reducible repeat (first | refine blk_drewN ?_ _ | refine blk_drew ?_ | refine blk_alloc ?_ _)); refine blk_put (cs := #[.string (⟨#[]⟩ : ByteArray), .string (⟨#[]⟩ : ByteArray), .string (⟨#[]⟩ : ByteArray), .int .u8 0, .int .i64 x170004_1, .int .i64 x170005_1, .int .i64 x170006_1, .int .i64 x170007_1, .slice none 0 0]) ?_ 4 _ rfl; (with_reducible repeat (first | refine blk_drewN ?_ _ | refine blk_drew ?_ | refine blk_alloc ?_ _)); refine blk_put (cs := #[.string (⟨#[]⟩ : ByteArray), .string (⟨#[]⟩ : ByteArray), .string (⟨#[]⟩ : ByteArray), .int .u8 x170003_1, .int .i64 x170004_1, .int .i64 x170005_1, .int .i64 x170006_1, .int .i64 x170007_1, .slice none 0 0]) ?_ 3 _ rfl; (with_reducible repeat (first | refine blk_drewN ?_ _ | refine blk_drew ?_ | refine blk_alloc ?_ _)); refine blk_put (cs := #[.string (⟨#[]⟩ : ByteArray), .string (⟨#[]⟩ : ByteArray), .string x170002_1, .int .u8 x170003_1, .int .i64 x170004_1, .int .i64 x170005_1, .int .i64 x170006_1, .int .i64 x170007_1, .slice none 0 0]) ?_ 2 _ rfl; (with_reducible repeat (first | refine blk_drewN ?_ _ | refine blk_drew ?_ | refine blk_alloc ?_ _)); refine blk_put (cs := #[.string (⟨#[]⟩ : ByteArray), .string x170001_1, .string x170002_1, .int .u8 x170003_1, .int .i64 x170004_1, .int .i64 x170005_1, .int .i64 x170006_1, .int .i64 x170007_1, .slice none 0 0]) ?_ 1 _ rfl; (with_reducible repeat (first | refine blk_drewN ?_ _ | refine blk_drew ?_ | refine blk_alloc ?_ _)); refine blk_put (cs := #[.string x170000_1, .string x170001_1, .string x170002_1, .int .u8 x170003_1, .int .i64 x170004_1, .int .i64 x170005_1, .int .i64 x170006_1, .int .i64 x170007_1, .slice none 0 0]) ?_ 0 _ rfl; (with_reducible repeat (first | refine blk_drewN ?_ _ | refine blk_drew ?_ | refine blk_alloc ?_ _)); exact BK169.out) Tryd.underlying40 rfl (by kernel_rfl)) rfl ?_
    exact ⟨_, we_, (Kd.V_nil _ _ _ _ _), wb1_ HB.out GE169.out⟩
   rw [if_pos c4] at H
   have c4b0 : decide (x6_1 < (l0.length : Int)) = true := decide_eq_true c4
   clear c4
   by_cases c5 : 0 ≤ x6_1
   rotate_left
   ·rw [if_neg c5] at H
    exact absurd H (by simp)
   rw [if_pos c5] at H
   have c5b0 : decide (0 ≤ x6_1) = true := decide_eq_true c5
   clear c5
   by_cases c6 : ((rd_T40 l0 x6_1).f0).toList = a1.toList
   rotate_left
   ·rw [if_neg c6] at H
    have c6b0 : (((rd_T40 l0 x6_1).f0).toList == a1.toList) = false := beq_eq_false_iff_ne.mpr c6
    have c6b1 : (((rd_T40 l0 x6_1).f0).toList != a1.toList) = true := bne_iff_ne.mpr c6
    have H' := A0_ H
    clear H
    have p170 : 0 ≤ (x6_1 : Int) := wd_
    have q170 : x6_1 < (l0.length : Int) := wd_
    obtain ⟨ad170, A170_8, c170_8, e170, hx170_0, hx170_1, hx170_2, hx170_3, hx170_4, hx170_5, hx170_6, hx170_7, hx170_8, hl170_8, hi170_8⟩ := at_T40 (Kd.V_reads' HO_0.out).2.2 x6_1 p170 q170
    cases e170
    obtain ⟨ce170, hce170, hMe170, hcc170⟩ := Kd.V_get HO_0.out z40 x6_1 p170 (by first | exact q170 | exact wd_ | (have e_ := (Kd.V_reads' HO_0.out).1; omega))
    obtain ⟨ua170_8, uc170_8, rfl, ul170_8, ge170_8⟩ := k40_openF hMe170
    have hv170_8 := hcc170 8 _ rfl
    rw [add_field _ _ 8 (by omega)] at hv170_8
    replace hv170_8 := Option.some.inj (hv170_8.symm.trans hx170_8)
    injection hv170_8 with hva_ hvn_ hvc_
    rw [hva_] at ge170_8
    rw [hvc_] at ul170_8
    have HL170_8 := A0_ (show Kd.V (Kd.int .u8) 5 _ w.heap.size _ _ ((rd_T40 l0 x6_1).f5) from Kd.V_mk ul170_8 ge170_8)
    clear hva_ hvn_ hvc_ ge170_8 ul170_8
    clear hcc170 hce170
    have HR170_8 := A0_ hi170_8
    have HC170_8 := A0_ hl170_8
    clear hi170_8 hl170_8
    replace p170 := eq_true p170
    replace q170 := eq_true q170
    go_wp2
    go_roundg k1
    case measure => have := HK1.out; omega
    case rel => exact ⟨(wrap64 (x6_1 + 1)), (x170000_1), (x170001_1), (x170002_1), (x170003_1), (x170004_1), (x170005_1), (x170006_1), (x170007_1), wr_, H', ⟨by have := HK1.out; omega⟩, ⟨wV_ HO_0.out⟩, ⟨wB_ BK169.out⟩, ⟨wb1_ HB.out GE169.out⟩⟩
   rw [if_pos c6] at H
   have c6b0 : (((rd_T40 l0 x6_1).f0).toList == a1.toList) = true := beq_iff_eq.mpr c6
   have c6b1 : (((rd_T40 l0 x6_1).f0).toList != a1.toList) = false := bne_eq_false_iff_eq.mpr c6
   clear c6
   simp only [Option.some.injEq, Prod.mk.injEq] at H
   obtain ⟨rfl, rfl, rfl, rfl, rfl, rfl, rfl, rfl, rfl, rfl⟩ := H
   have p170 : 0 ≤ (x6_1 : Int) := wd_
   have q170 : x6_1 < (l0.length : Int) := wd_
   obtain ⟨ad170, A170_8, c170_8, e170, hx170_0, hx170_1, hx170_2, hx170_3, hx170_4, hx170_5, hx170_6, hx170_7, hx170_8, hl170_8, hi170_8⟩ := at_T40 (Kd.V_reads' HO_0.out).2.2 x6_1 p170 q170
   cases e170
   obtain ⟨ce170, hce170, hMe170, hcc170⟩ := Kd.V_get HO_0.out z40 x6_1 p170 (by first | exact q170 | exact wd_ | (have e_ := (Kd.V_reads' HO_0.out).1; omega))
   obtain ⟨ua170_8, uc170_8, rfl, ul170_8, ge170_8⟩ := k40_openF hMe170
   have hv170_8 := hcc170 8 _ rfl
   rw [add_field _ _ 8 (by omega)] at hv170_8
   replace hv170_8 := Option.some.inj (hv170_8.symm.trans hx170_8)
   injection hv170_8 with hva_ hvn_ hvc_
   rw [hva_] at ge170_8
   rw [hvc_] at ul170_8
   have HL170_8 := A0_ (show Kd.V (Kd.int .u8) 5 _ w.heap.size _ _ ((rd_T40 l0 x6_1).f5) from Kd.V_mk ul170_8 ge170_8)
   clear hva_ hvn_ hvc_ ge170_8 ul170_8
   clear hcc170 hce170
   have HR170_8 := A0_ hi170_8
   have HC170_8 := A0_ hl170_8
   clear hi170_8 hl170_8
   replace p170 := eq_true p170
   replace q170 := eq_true q170
   have p171 : 0 ≤ (x6_1 : Int) := wd_
   have q171 : x6_1 < (l0.length : Int) := wd_
   obtain ⟨ad171, A171_8, c171_8, e171, hx171_0, hx171_1, hx171_2, hx171_3, hx171_4, hx171_5, hx171_6, hx171_7, hx171_8, hl171_8, hi171_8⟩ := at_T40 (Kd.V_reads' HO_0.out).2.2 x6_1 p171 q171
   obtain rfl : ad170 = ad171 := (by injection e171)
   obtain ⟨ce171, hce171, hMe171, hcc171⟩ := Kd.V_get HO_0.out z40 x6_1 p171 (by first | exact q171 | exact wd_ | (have e_ := (Kd.V_reads' HO_0.out).1; omega))
   obtain ⟨ua171_8, uc171_8, rfl, ul171_8, ge171_8⟩ := k40_openF hMe171
   have hv171_8 := hcc171 8 _ rfl
   rw [add_field _ _ 8 (by omega)] at hv171_8
   replace hv171_8 := Option.some.inj (hv171_8.symm.trans hx171_8)
   injection hv171_8 with hva_ hvn_ hvc_
   rw [hva_] at ge171_8
   rw [hvc_] at ul171_8
   have HL171_8 := A0_ (show Kd.V (Kd.int .u8) 5 _ w.heap.size _ _ ((rd_T40 l0 x6_1).f5) from Kd.V_mk ul171_8 ge171_8)
   clear hva_ hvn_ hvc_ ge171_8 ul171_8
   clear hcc171 hce171
   have HR171_8 := A0_ hi171_8
   have HC171_8 := A0_ hl171_8
   clear hi171_8 hl171_8
   replace p171 := eq_true p171
   replace q171 := eq_true q171
   have ea_ := Option.some.inj (hx170_8.symm.trans hx171_8)
   injection ea_ with ea_ en_ ec_
   subst ea_
   subst ec_
   clear en_
   have hcz7_0 : wr.cell? ⟨gb169, 0, none⟩ = some (.string x170000_1) := (bc_ BK169.out 0).trans rfl
   have hcz7_1 : wr.cell? ⟨gb169, 1, none⟩ = some (.string x170001_1) := (bc_ BK169.out 1).trans rfl
   have hcz7_2 : wr.cell? ⟨gb169, 2, none⟩ = some (.string x170002_1) := (bc_ BK169.out 2).trans rfl
   have hcz7_3 : wr.cell? ⟨gb169, 3, none⟩ = some (.int .u8 x170003_1) := (bc_ BK169.out 3).trans rfl
   have hcz7_4 : wr.cell? ⟨gb169, 4, none⟩ = some (.int .i64 x170004_1) := (bc_ BK169.out 4).trans rfl
   have hcz7_5 : wr.cell? ⟨gb169, 5, none⟩ = some (.int .i64 x170005_1) := (bc_ BK169.out 5).trans rfl
   have hcz7_6 : wr.cell? ⟨gb169, 6, none⟩ = some (.int .i64 x170006_1) := (bc_ BK169.out 6).trans rfl
   have hcz7_7 : wr.cell? ⟨gb169, 7, none⟩ = some (.int .i64 x170007_1) := (bc_ BK169.out 7).trans rfl
   have hcz7_8 : wr.cell? ⟨gb169, 8, none⟩ = some (.slice none 0 0) := (bc_ BK169.out 8).trans rfl
   have hfz7_0 := bf_ BK169.out 0
   have hfz7_1 := bf_ BK169.out 1
   have hfz7_2 := bf_ BK169.out 2
   have hfz7_3 := bf_ BK169.out 3
   have hfz7_4 := bf_ BK169.out 4
   have hfz7_5 := bf_ BK169.out 5
   have hfz7_6 := bf_ BK169.out 6
   have hfz7_7 := bf_ BK169.out 7
   have hfz7_8 := bf_ BK169.out 8
   go_wp2
   refine bodyPost_ret (results_ct rfl _ _ gb169 40 #[.string ((rd_T40 l0 x6_1).f0), .string ((rd_T40 l0 x6_1).f1), .string ((rd_T40 l0 x6_1).f2), .int .u8 ((rd_T40 l0 x6_1).f3), .int .i64 ((rd_T40 l0 x6_1).f4.f0), .int .i64 ((rd_T40 l0 x6_1).f4.f1), .int .i64 ((rd_T40 l0 x6_1).f4.f2), .int .i64 ((rd_T40 l0 x6_1).f4.f3), .slice A170_8 ((rd_T40 l0 x6_1).f5).length c170_8] (0, 0) _ rfl (by (with_reducible repeat (first | refine blk_drewN ?_ _ | refine blk_drew ?_ | refine blk_alloc ?_ _)); refine blk_put (cs := #[.string ((rd_T40 l0 x6_1).f0), .string ((rd_T40 l0 x6_1).f1), .string ((rd_T40 l0 x6_1).f2), .int .u8 ((rd_T40 l0 x6_1).f3), .int .i64 ((rd_T40 l0 x6_1).f4.f0), .int .i64 ((rd_T40 l0 x6_1).f4.f1), .int .i64 ((rd_T40 l0 x6_1).f4.f2), .int .i64 ((rd_T40 l0 x6_1).f4.f3), .slice none 0 0]) ?_ 8 _ rfl; (with_reducible repeat (first | refine blk_drewN ?_ _ | refine blk_drew ?_ | refine blk_alloc ?_ _)); refine blk_put (cs := #[.string ((rd_T40 l0 x6_1).f0), .string ((rd_T40 l0 x6_1).f1), .string ((rd_T40 l0 x6_1).f2), .int .u8 ((rd_T40 l0 x6_1).f3), .int .i64 ((rd_T40 l0 x6_1).f4.f0), .int .i64 ((rd_T40 l0 x6_1).f4.f1), .int .i64 ((rd_T40 l0 x6_1).f4.f2), .int .i64 x170007_1, .slice none 0 0]) ?_ 7 _ rfl; (with_reducible repeat (first | refine blk_drewN ?_ _ | refine blk_drew ?_ | refine blk_alloc ?_ _)); refine blk_put (cs := #[.string ((rd_T40 l0 x6_1).f0), .string ((rd_T40 l0 x6_1).f1), .string ((rd_T40 l0 x6_1).f2), .int .u8 ((rd_T40 l0 x6_1).f3), .int .i64 ((rd_T40 l0 x6_1).f4.f0), .int .i64 ((rd_T40 l0 x6_1).f4.f1), .int .i64 x170006_1, .int .i64 x170007_1, .slice none 0 0]) ?_ 6 _ rfl; (with_reducible repeat (first | refine blk_drewN ?_ _ | refine blk_drew ?_ | refine blk_alloc ?_ _)); refine blk_put (cs := #[.string ((rd_T40 l0 x6_1).f0), .string ((rd_T40 l0 x6_1).f1), .string ((rd_T40 l0 x6_1).f2), .int .u8 ((rd_T40 l0 x6_1).f3), .int .i64 ((rd_T40 l0 x6_1).f4.f0), .int .i64 x170005_1, .int .i64 x170006_1, .int .i64 x170007_1, .slice none 0 0]) ?_ 5 _ rfl; (with_reducible repeat (first | refine blk_drewN ?_ _ | refine blk_drew ?_ | refine blk_alloc ?_ _)); refine blk_put (cs := #[.string ((rd_T40 l0 x6_1).f0), .string ((rd_T40 l0 x6_1).f1), .string ((rd_T40 l0 x6_1).f2), .int .u8 ((rd_T40 l0 x6_1).f3), .int .i64 x170004_1, .int .i64 x170005_1, .int .i64 x170006_1, .int .i64 x170007_1, .slice none 0 0]) ?_ 4 _ rfl; (with_reducible repeat (first | refine blk_drewN ?_ _ | refine blk_drew ?_ | refine blk_alloc ?_ _)); refine blk_put (cs := #[.string ((rd_T40 l0 x6_1).f0), .string ((rd_T40 l0 x6_1).f1), .string ((rd_T40 l0 x6_1).f2), .int .u8 x170003_1, .int .i64 x170004_1, .int .i64 x170005_1, .int .i64 x170006_1, .int .i64 x170007_1, .slice none 0 0]) ?_ 3 _ rfl; (with_reducible repeat (first | refine blk_drewN ?_ _ | refine blk_drew ?_ | refine blk_alloc ?_ _)); refine blk_put (cs := #[.string ((rd_T40 l0 x6_1).f0), .string ((rd_T40 l0 x6_1).f1), .string x170002_1, .int .u8 x170003_1, .int .i64 x170004_1, .int .i64 x170005_1, .int .i64 x170006_1, .int .i64 x170007_1, .slice none 0 0]) ?_ 2 _ rfl; (with_reducible repeat (first | refine blk_drewN ?_ _ | refine blk_drew ?_ | refine blk_alloc ?_ _)); refine blk_put (cs := #[.string ((rd_T40 l0 x6_1).f0), .string x170001_1, .string x170002_1, .int .u8 x170003_1, .int .i64 x170004_1, .int .i64 x170005_1, .int .i64 x170006_1, .int .i64 x170007_1, .slice none 0 0]) ?_ 1 _ rfl; (with_reducible repeat (first | refine blk_drewN ?_ _ | refine blk_drew ?_ | refine blk_alloc ?_ _)); refine blk_put (cs := #[.string x170000_1, .string x170001_1, .string x170002_1, .int .u8 x170003_1, .int .i64 x170004_1, .int .i64 x170005_1, .int .i64 x170006_1, .int .i64 x170007_1, .slice none 0 0]) ?_ 0 _ rfl; (with_reducible repeat (first | refine blk_drewN ?_ _ | refine blk_drew ?_ | refine blk_alloc ?_ _)); exact BK169.out) Tryd.underlying40 rfl (by kernel_rfl)) rfl ?_
   exact ⟨_, we_, by (with_reducible repeat (first | apply Va_ | apply VN_ | apply V1_)); exact Kd.V_mono (Kd.V_far (p := ⟨gb169, 8, none⟩) (Kd.V_far (p := ⟨gb169, 7, none⟩) (Kd.V_far (p := ⟨gb169, 6, none⟩) (Kd.V_far (p := ⟨gb169, 5, none⟩) (Kd.V_far (p := ⟨gb169, 4, none⟩) (Kd.V_far (p := ⟨gb169, 3, none⟩) (Kd.V_far (p := ⟨gb169, 2, none⟩) (Kd.V_far (p := ⟨gb169, 1, none⟩) (Kd.V_far (p := ⟨gb169, 0, none⟩) (Kd.V_mono HL171_8.out (fun k_ hk => (⟨hk, hk.2⟩ : _ ∧ k_ ≠ gb169))) (fun _ hk => hk.2) (.string ((rd_T40 l0 x6_1).f0))) (fun _ hk => hk.2) (.string ((rd_T40 l0 x6_1).f1))) (fun _ hk => hk.2) (.string ((rd_T40 l0 x6_1).f2))) (fun _ hk => hk.2) (.int .u8 ((rd_T40 l0 x6_1).f3))) (fun _ hk => hk.2) (.int .i64 ((rd_T40 l0 x6_1).f4.f0))) (fun _ hk => hk.2) (.int .i64 ((rd_T40 l0 x6_1).f4.f1))) (fun _ hk => hk.2) (.int .i64 ((rd_T40 l0 x6_1).f4.f2))) (fun _ hk => hk.2) (.int .i64 ((rd_T40 l0 x6_1).f4.f3))) (fun _ hk => hk.2) (.slice A170_8 ((rd_T40 l0 x6_1).f5).length c170_8)) (fun _ hk => hk.1.1), wb1_ HB.out GE169.out⟩
end Go.Proofs.YtfljbidecljlcaaDoor.Print

namespace Go.Proofs.YtfljbidecljlcaaDoor
open Go.RowKit Go.Proofs.YtfljbidecljlcaaDoor.Print Go.Proofs.YtfljbidecljlcaaDoorW.PrintWords Go.Proofs.YtfljbidecljlcaaDoorW.PrintLast Go.Proofs.YtfljbidecljlcaaDoorW.PrintMore
set_option linter.unusedVariables false
theorem rfind_l (l : List Node) (p : ByteArray) (hlen : l.length ≤ 1000000000000) : ∀ (d i : Nat), i + d = l.length → Ev (fun k => bindleref08_Find.l0 k l p (i : Int)) (tupN (findF (l.drop i) p)) := by
 intro d
 induction d with
 | zero =>
  intro i hi
  rw [List.drop_of_length_le (by omega)]
  exact Ev.step (f := fun _ => some (tupN none)) (fun k => by rw [bindleref08_Find.l0, if_neg (by omega)]; rfl) (Ev.now _)
 | succ d ih =>
  intro i hi
  have hil : i < l.length := by omega
  have hx : rd_T40 l (i : Int) = l[i] := by rw [rdN_at l (i : Int) (by omega) (by omega)]; simp
  rw [List.drop_eq_getElem_cons hil]
  unfold findF
  rw [List.find?_cons]
  by_cases he : l[i].f0.toList = p.toList
  ·rw [decide_eq_true he]
   exact Ev.step (f := fun _ => some (tupN (some l[i]))) (fun k => by rw [bindleref08_Find.l0, if_pos (by omega), if_pos (by omega), hx, if_pos he]; rfl) (Ev.now _)
  ·rw [decide_eq_false he]
   refine Ev.step (fun k => ?_) (ih (i + 1) (by omega))
   rw [bindleref08_Find.l0, if_pos (by omega), if_pos (by omega), hx, if_neg he]
   rw [show wrap64 ((i : Int) + 1) = ((i + 1 : Nat) : Int) by unfold wrap64; omega]
theorem rfind_eq (l : List Node) (p : ByteArray) (hlen : l.length ≤ 1000000000000) : Ev (fun k => bindleref08_Find.f k l p) (tupN (findF l p)) := rfind_l l p hlen l.length 0 (by omega)
theorem RefFind_F (ok : Nat → Prop) (A0 : Option Addr) (c0 : Nat) (l : List Node) (p : ByteArray) (W : World) (hF : Kd.F k40 W ok A0 l.length l) (hc : l.length ≤ c0) (hlen : l.length ≤ 1000000000000) :
  Calls Tryd.prog 23 #[.slice A0 l.length c0, .string p] W fun e W' => ∃ x b A c, (match findF l p with | some y => x = y ∧ b = true | none => x = z40 ∧ b = false) ∧ e = .returned (.tuple #[.agg (nodeCells x (.slice A x.f5.length c)), .bool b]) ∧ x.f5.length ≤ c ∧ Kd.F (Kd.int .u8) W' (fun k => ok k ∨ W.heap.size ≤ k) A x.f5.length x.f5 ∧ Below W.heap.size W W' := by
 obtain ⟨k, hk⟩ := Ev.rounds (rfind_eq l p hlen)
 have hV : Kd.V k40 40 W W.heap.size ok (.slice A0 l.length c0) l := Kd.V_mk hc hF
 cases hf : findF l p with
 | none =>
  rw [hf] at hk
  refine (bindleref08_Find.calls k _ A0 c0 l p _ _ _ _ _ _ _ _ _ _ W hV hk).mono ?_
  rintro e w' ⟨v, rfl, hv, hb⟩
  obtain ⟨A, c, rfl⟩ := Kd.V_slice hv
  exact ⟨z40, false, A, c, ⟨rfl, rfl⟩, rfl, (Kd.V_reads' hv).2.1, Kd.V_F hv, hb⟩
 | some y =>
  rw [hf] at hk
  refine (bindleref08_Find.calls k _ A0 c0 l p _ _ _ _ _ _ _ _ _ _ W hV hk).mono ?_
  rintro e w' ⟨v, rfl, hv, hb⟩
  obtain ⟨A, c, rfl⟩ := Kd.V_slice hv
  exact ⟨y, true, A, c, ⟨rfl, rfl⟩, rfl, (Kd.V_reads' hv).2.1, Kd.V_F hv, hb⟩
end Go.Proofs.YtfljbidecljlcaaDoor

namespace Go.Proofs.YtfljbidecljlcaaDoor
open Go.RowKit Go.Maps Go.Proofs.YtfljbidecljlcaaDoor.Print Go.Proofs.YtfljbidecljlcaaDoorW.PrintWords Go.Proofs.YtfljbidecljlcaaDoorW.PrintLast Go.Proofs.YtfljbidecljlcaaDoorW.PrintMore
set_option linter.unusedVariables false
set_option linter.unusedSimpArgs false
abbrev gq_0 : Array Bool := #[false, false, false, false, false, false, false, false, false, false, false, false, false, false, false, false, false, false, false, false, false, false, false, false, false, false, false, false, false, false, false, false, false]
abbrev gq_1 : Array Bool := #[true, false, false, false, false, false, false, false, false, false, false, false, false, false, false, false, false, false, false, false, false, false, false, false, false, false, false, false, false, false, false, false, false]
abbrev gq_2 : Array Bool := #[true, true, false, false, false, false, false, false, false, false, false, false, false, false, false, false, false, false, false, false, false, false, false, false, false, false, false, false, false, false, false, false, false]
abbrev gq_3 : Array Bool := #[true, true, true, false, false, false, false, false, false, false, false, false, false, false, false, false, false, false, false, false, false, false, false, false, false, false, false, false, false, false, false, false, false]
abbrev gq_4 : Array Bool := #[true, true, true, true, false, false, false, false, false, false, false, false, false, false, false, false, false, false, false, false, false, false, false, false, false, false, false, false, false, false, false, false, false]
abbrev gq_5 : Array Bool := #[true, true, true, true, true, false, false, false, false, false, false, false, false, false, false, false, false, false, false, false, false, false, false, false, false, false, false, false, false, false, false, false, false]
abbrev gq_6 : Array Bool := #[true, true, true, true, true, true, false, false, false, false, false, false, false, false, false, false, false, false, false, false, false, false, false, false, false, false, false, false, false, false, false, false, false]
abbrev gq_7 : Array Bool := #[true, true, true, true, true, true, true, false, false, false, false, false, false, false, false, false, false, false, false, false, false, false, false, false, false, false, false, false, false, false, false, false, false]
abbrev gq_8 : Array Bool := #[true, true, true, true, true, true, true, true, false, false, false, false, false, false, false, false, false, false, false, false, false, false, false, false, false, false, false, false, false, false, false, false, false]
abbrev gq_9 : Array Bool := #[true, true, true, true, true, true, true, true, true, false, false, false, false, false, false, false, false, false, false, false, false, false, false, false, false, false, false, false, false, false, false, false, false]
abbrev gq_10 : Array Bool := #[true, true, true, true, true, true, true, true, true, true, false, false, false, false, false, false, false, false, false, false, false, false, false, false, false, false, false, false, false, false, false, false, false]
abbrev gq_11 : Array Bool := #[true, true, true, true, true, true, true, true, true, true, true, false, false, false, false, false, false, false, false, false, false, false, false, false, false, false, false, false, false, false, false, false, false]
abbrev gq_12 : Array Bool := #[true, true, true, true, true, true, true, true, true, true, true, true, false, false, false, false, false, false, false, false, false, false, false, false, false, false, false, false, false, false, false, false, false]
abbrev gq_13 : Array Bool := #[true, true, true, true, true, true, true, true, true, true, true, true, true, false, false, false, false, false, false, false, false, false, false, false, false, false, false, false, false, false, false, false, false]
abbrev gq_14 : Array Bool := #[true, true, true, true, true, true, true, true, true, true, true, true, true, true, false, false, false, false, false, false, false, false, false, false, false, false, false, false, false, false, false, false, false]
abbrev gq_15 : Array Bool := #[true, true, true, true, true, true, true, true, true, true, true, true, true, true, true, false, false, false, false, false, false, false, false, false, false, false, false, false, false, false, false, false, false]
abbrev gq_16 : Array Bool := #[true, true, true, true, true, true, true, true, true, true, true, true, true, true, true, true, false, false, false, false, false, false, false, false, false, false, false, false, false, false, false, false, false]
abbrev gq_17 : Array Bool := #[true, true, true, true, true, true, true, true, true, true, true, true, true, true, true, true, true, false, false, false, false, false, false, false, false, false, false, false, false, false, false, false, false]
abbrev gq_18 : Array Bool := #[true, true, true, true, true, true, true, true, true, true, true, true, true, true, true, true, true, true, false, false, false, false, false, false, false, false, false, false, false, false, false, false, false]
abbrev gq_19 : Array Bool := #[true, true, true, true, true, true, true, true, true, true, true, true, true, true, true, true, true, true, true, false, false, false, false, false, false, false, false, false, false, false, false, false, false]
abbrev gq_20 : Array Bool := #[true, true, true, true, true, true, true, true, true, true, true, true, true, true, true, true, true, true, true, true, false, false, false, false, false, false, false, false, false, false, false, false, false]
abbrev gq_21 : Array Bool := #[true, true, true, true, true, true, true, true, true, true, true, true, true, true, true, true, true, true, true, true, true, false, false, false, false, false, false, false, false, false, false, false, false]
abbrev gq_22 : Array Bool := #[true, true, true, true, true, true, true, true, true, true, true, true, true, true, true, true, true, true, true, true, true, true, false, false, false, false, false, false, false, false, false, false, false]
abbrev gq_23 : Array Bool := #[true, true, true, true, true, true, true, true, true, true, true, true, true, true, true, true, true, true, true, true, true, true, true, false, false, false, false, false, false, false, false, false, false]
abbrev gq_24 : Array Bool := #[true, true, true, true, true, true, true, true, true, true, true, true, true, true, true, true, true, true, true, true, true, true, true, true, false, false, false, false, false, false, false, false, false]
abbrev gq_25 : Array Bool := #[true, true, true, true, true, true, true, true, true, true, true, true, true, true, true, true, true, true, true, true, true, true, true, true, true, false, false, false, false, false, false, false, false]
abbrev gq_26 : Array Bool := #[true, true, true, true, true, true, true, true, true, true, true, true, true, true, true, true, true, true, true, true, true, true, true, true, true, true, false, false, false, false, false, false, false]
abbrev gq_27 : Array Bool := #[true, true, true, true, true, true, true, true, true, true, true, true, true, true, true, true, true, true, true, true, true, true, true, true, true, true, true, false, false, false, false, false, false]
abbrev gq_28 : Array Bool := #[true, true, true, true, true, true, true, true, true, true, true, true, true, true, true, true, true, true, true, true, true, true, true, true, true, true, true, true, false, false, false, false, false]
abbrev gq_29 : Array Bool := #[true, true, true, true, true, true, true, true, true, true, true, true, true, true, true, true, true, true, true, true, true, true, true, true, true, true, true, true, true, false, false, false, false]
abbrev gq_30 : Array Bool := #[true, true, true, true, true, true, true, true, true, true, true, true, true, true, true, true, true, true, true, true, true, true, true, true, true, true, true, true, true, true, false, false, false]
abbrev gq_31 : Array Bool := #[true, true, true, true, true, true, true, true, true, true, true, true, true, true, true, true, true, true, true, true, true, true, true, true, true, true, true, true, true, true, true, false, false]
abbrev gq_32 : Array Bool := #[true, true, true, true, true, true, true, true, true, true, true, true, true, true, true, true, true, true, true, true, true, true, true, true, true, true, true, true, true, true, true, true, false]
abbrev gq_33 : Array Bool := #[true, true, true, true, true, true, true, true, true, true, true, true, true, true, true, true, true, true, true, true, true, true, true, true, true, true, true, true, true, true, true, true, true]
theorem lt_of_alloc {w w1 : World} {o : Obj} (hb : Below (w.alloc o).heap.size (w.alloc o) w1) : w.heap.size < w1.heap.size := Nat.lt_of_lt_of_le (by rw [World.size_alloc]; exact Nat.lt_succ_self _) hb.size
def RefRel (l : List Node) (W : World) (i : Int) (wr : World) : Prop := 0 ≤ i ∧ i ≤ l.length ∧ (∀ (j : Nat) (hj : j < l.length), (j : Int) < i → nodeOk l j hj = true) ∧ Below W.heap.size W wr
def headOk (l : List Node) (i : Nat) (h : i < l.length) : Bool := (decide (i = 0) || lt (l[i - 1]'(by omega)).f0 l[i].f0) && !decide (l[i].f3 = 49) && goodM (memOf l[i])
theorem nodeOk_head (l : List Node) (i : Nat) (h : i < l.length) : nodeOk l i h = (headOk l i h && ledB (l.take (i + 1)) l[i]) := rfl
def nodeObj (x : Node) (v : Value) : Obj := .cells #[.string x.f0, .string x.f1, .string x.f2, .int .u8 x.f3, .int .i64 x.f4.f0, .int .i64 x.f4.f1, .int .i64 x.f4.f2, .int .i64 x.f4.f3, v] 40
def boxed (w : World) (g : Nat) (x : Node) (v : Value) : Prop := (w.cell? ⟨g, 0, none⟩ = some (.string x.f0) ∧ w.cell? ⟨g, 1, none⟩ = some (.string x.f1) ∧ w.cell? ⟨g, 2, none⟩ = some (.string x.f2) ∧ w.cell? ⟨g, 3, none⟩ = some (.int .u8 x.f3)) ∧ (w.cell? ⟨g, 4, none⟩ = some (.int .i64 x.f4.f0) ∧ w.cell? ⟨g, 5, none⟩ = some (.int .i64 x.f4.f1) ∧ w.cell? ⟨g, 6, none⟩ = some (.int .i64 x.f4.f2) ∧ w.cell? ⟨g, 7, none⟩ = some (.int .i64 x.f4.f3)) ∧ w.cell? ⟨g, 8, none⟩ = some v
theorem boxed.below {w w1 : World} {g : Nat} {x : Node} {v : Value} (h : boxed w g x v) (hb : Below w.heap.size w w1) : boxed w1 g x v :=
 ⟨⟨bkeep hb h.1.1, bkeep hb h.1.2.1, bkeep hb h.1.2.2.1, bkeep hb h.1.2.2.2⟩, ⟨bkeep hb h.2.1.1, bkeep hb h.2.1.2.1, bkeep hb h.2.1.2.2.1, bkeep hb h.2.1.2.2.2⟩, bkeep hb h.2.2⟩
def Mid5 (l : List Node) (n : Nat) (h : n < l.length) (g : Nat) (x : Node) (v : Value) (b : Bool) (wr wx : World) : Prop := b = !(headOk l n h) ∧ Below wr.heap.size wr wx ∧ boxed wx g x v
theorem mid5_1 {l : List Node} {W w1 : World} {n : Nat} {h : n < l.length} {g : Nat} {x : Node} {v : Value} {b : Bool} (hb : b = !(headOk l n h)) (hB : Below W.heap.size W w1)
  (hh : w1.cell? ⟨g, 0, none⟩ = some (.string x.f0) ∧ w1.cell? ⟨g, 1, none⟩ = some (.string x.f1) ∧ w1.cell? ⟨g, 2, none⟩ = some (.string x.f2) ∧ w1.cell? ⟨g, 3, none⟩ = some (.int .u8 x.f3) ∧ w1.cell? ⟨g, 4, none⟩ = some (.int .i64 x.f4.f0) ∧ w1.cell? ⟨g, 5, none⟩ = some (.int .i64 x.f4.f1) ∧ w1.cell? ⟨g, 6, none⟩ = some (.int .i64 x.f4.f2) ∧ w1.cell? ⟨g, 7, none⟩ = some (.int .i64 x.f4.f3) ∧ w1.cell? ⟨g, 8, none⟩ = some v) : Mid5 l n h g x v b W w1 :=
 ⟨hb, hB, ⟨hh.1, hh.2.1, hh.2.2.1, hh.2.2.2.1⟩, ⟨hh.2.2.2.2.1, hh.2.2.2.2.2.1, hh.2.2.2.2.2.2.1, hh.2.2.2.2.2.2.2.1⟩, hh.2.2.2.2.2.2.2.2⟩
theorem mid5_2 {l : List Node} {W w1 : World} {n : Nat} {h : n < l.length} {g : Nat} {x : Node} {v : Value} {b : Bool} {p : Prop} (hb : b = !(headOk l n h)) (hB : Below W.heap.size W w1)
  (hh : w1.cell? ⟨g, 0, none⟩ = some (.string x.f0) ∧ w1.cell? ⟨g, 1, none⟩ = some (.string x.f1) ∧ w1.cell? ⟨g, 2, none⟩ = some (.string x.f2) ∧ w1.cell? ⟨g, 3, none⟩ = some (.int .u8 x.f3) ∧ w1.cell? ⟨g, 4, none⟩ = some (.int .i64 x.f4.f0) ∧ w1.cell? ⟨g, 5, none⟩ = some (.int .i64 x.f4.f1) ∧ w1.cell? ⟨g, 6, none⟩ = some (.int .i64 x.f4.f2) ∧ w1.cell? ⟨g, 7, none⟩ = some (.int .i64 x.f4.f3) ∧ w1.cell? ⟨g, 8, none⟩ = some v ∧ p) : Mid5 l n h g x v b W w1 :=
 ⟨hb, hB, ⟨hh.1, hh.2.1, hh.2.2.1, hh.2.2.2.1⟩, ⟨hh.2.2.2.2.1, hh.2.2.2.2.2.1, hh.2.2.2.2.2.2.1, hh.2.2.2.2.2.2.2.1⟩, hh.2.2.2.2.2.2.2.2.1⟩
theorem prev_lt {l : List Node} {n j : Int} {h : j.toNat < l.length} {h' : n.toNat - 1 < l.length} {y0 x0 : ByteArray} {b : Bool} (hy : l[j.toNat].f0 = y0) (hj : j = n - 1) (hl : Op.bytesLess y0.toList x0.toList = b) : lt (l[n.toNat - 1]).f0 x0 = b := by
 subst hj
 unfold lt
 rw [← hl, ← hy]
 congr 4
 omega
theorem refRel_next {l : List Node} {W wr w1 : World} {n : Int} (h : RefRel l W n wr) (hn : n.toNat < l.length) (h1 : headOk l n.toNat hn = true) (h2 : ledB (l.take (n.toNat + 1)) l[n.toNat] = true) (hB : Below W.heap.size W w1) : RefRel l W (n + 1) w1 := by
 have h0 := h.1
 refine ⟨by omega, by omega, fun q hq hqn => ?_, hB⟩
 rcases Nat.lt_or_ge q n.toNat with hh | hh
 ·exact h.2.2.1 q hq (by omega)
 ·obtain rfl : q = n.toNat := by omega
  rw [nodeOk_head, h1, h2]; rfl
def leadB (y x : Node) : Bool := decide (y.f3 = 48 ∧ y.f2.toList = y.f0.toList ∧ y.f4.f0 = x.f4.f0 ∧ y.f4.f1 = x.f4.f1 ∧ y.f4.f2 = x.f4.f2 ∧ y.f4.f3 = x.f4.f3 ∧ (strOfNums y.f5).toList = (strOfNums x.f5).toList)
theorem leadB_4 {y x : Node} (h : (y.f4.f0 == x.f4.f0 && (y.f4.f1 == x.f4.f1 && (y.f4.f2 == x.f4.f2 && (y.f4.f3 == x.f4.f3)))) = false) : (true && leadB y x) = false := by
 rw [Bool.true_and]
 unfold leadB
 rw [decide_eq_false]
 rintro ⟨_, _, h0, h1, h2, h3, _⟩
 rw [h0, h1, h2, h3] at h
 simp at h
theorem leadB_ok {y x : Node} (h3 : y.f3 = 48) (h2 : y.f2.toList = y.f0.toList) (h : (y.f4.f0 == x.f4.f0 && (y.f4.f1 == x.f4.f1 && (y.f4.f2 == x.f4.f2 && (y.f4.f3 == x.f4.f3)))) = true) (h5 : (strOfNums y.f5).toList = (strOfNums x.f5).toList) : (true && leadB y x) = true := by
 rw [Bool.true_and]
 unfold leadB
 simp only [Bool.and_eq_true, beq_iff_eq] at h
 rw [decide_eq_true_iff]
 exact ⟨h3, h2, h.1, h.2.1, h.2.2.1, h.2.2.2, h5⟩
theorem nodeOk_lead {l : List Node} {n : Nat} {x y : Node} {b : Bool} (hn : n < l.length) (hx : x = l[n]) (hR : ∀ (j : Nat) (hj : j < l.length), j < n → nodeOk l j hj = true) (hh : headOk l n hn = true) (h48 : x.f3 = 48)
  (hm : match findF (l.take (n + 1)) x.f2 with | some z => y = z ∧ b = true | none => y = z40 ∧ b = false) : nodeOk l n hn = (b && leadB y x) := by
 rw [nodeOk_head, hh, Bool.true_and]
 rw [← hx]
 unfold ledB
 rw [if_pos h48]
 cases hf : findF (l.take (n + 1)) x.f2 with
 | none =>
  rw [hf] at hm
  rw [hm.2]; rfl
 | some z =>
  rw [hf] at hm
  obtain ⟨rfl, rfl⟩ := hm
  rw [Bool.true_and]
  unfold leadB
  dsimp only
  have hlt : lt x.f0 y.f0 = false := by
   have hmem : y ∈ l.take (n + 1) := List.mem_of_find?_eq_some hf
   obtain ⟨t, ht, he⟩ := List.getElem_of_mem hmem
   rw [List.length_take] at ht
   rw [List.getElem_take] at he
   rcases Nat.lt_or_ge t n with h | h
   ·have hr : ∀ (d s : Nat) (hs : s + d + 1 ≤ n), lt (l[s]'(by omega)).f0 (l[s + d + 1]'(by omega)).f0 = true := by
     have h1 : ∀ (s : Nat) (hs : s + 1 ≤ n), lt (l[s]'(by omega)).f0 (l[s + 1]'(by omega)).f0 = true := by
      intro s hs
      have hd : headOk l (s + 1) (by omega) = true := by
       rcases Nat.lt_or_ge (s + 1) n with h2 | h2
       ·have := hR (s + 1) (by omega) h2
        rw [nodeOk_head, Bool.and_eq_true] at this
        exact this.1
       ·obtain rfl : s + 1 = n := by omega
        exact hh
      unfold headOk at hd
      simp only [Bool.and_eq_true, Bool.or_eq_true, decide_eq_true_iff] at hd
      rcases hd.1.1 with h3 | h3
      ·omega
      ·exact h3
     intro d
     induction d with
     | zero => intro s hs; exact h1 s hs
     | succ d ih => intro s hs; exact lt_trans (ih s (by omega)) (h1 (s + d + 1) (by omega))
    have h2 := hr (n - t - 1) t (by omega)
    have h3 : t + (n - t - 1) + 1 = n := by omega
    simp only [h3] at h2
    rw [he, ← hx] at h2
    exact lt_asym h2
   ·obtain rfl : t = n := by omega
    rw [← he, hx, lt_irr]
  refine decide_eq_decide.2 ⟨fun h => ⟨h.1, h.2.1, h.2.2.2⟩, fun h => ⟨h.1, h.2.1, hlt, h.2.2⟩⟩
def Mid10 (l : List Node) (n g : Nat) (x : Node) (v : Value) (g' : Nat) (y : Node) (b : Bool) (A : Option Addr) (c : Nat) (wc wx : World) : Prop :=
 (match findF (l.take (n + 1)) x.f2 with | some z => y = z ∧ b = true | none => y = z40 ∧ b = false) ∧ Below wc.heap.size wc wx ∧ boxed wx g x v ∧ boxed wx g' y (.slice A y.f5.length c) ∧ Kd.C (Kd.int .u8) wx A y.f5.length y.f5
def putNode (w : World) (g : Nat) (x : Node) (v : Value) : World := ((((((((w.setCell ⟨g, 0, none⟩ (.string x.f0)).setCell ⟨g, 1, none⟩ (.string x.f1)).setCell ⟨g, 2, none⟩ (.string x.f2)).setCell ⟨g, 3, none⟩ (.int .u8 x.f3)).setCell ⟨g, 4, none⟩ (.int .i64 x.f4.f0)).setCell ⟨g, 5, none⟩ (.int .i64 x.f4.f1)).setCell ⟨g, 6, none⟩ (.int .i64 x.f4.f2)).setCell ⟨g, 7, none⟩ (.int .i64 x.f4.f3)).setCell ⟨g, 8, none⟩ v
theorem boxed.put {w : World} {g g' : Nat} {x y : Node} {v u : Value} (h : boxed w g x v) (hne : g ≠ g') : boxed (putNode w g' y u) g x v := by
 have e : ∀ j, (putNode w g' y u).cell? ⟨g, j, none⟩ = w.cell? ⟨g, j, none⟩ := fun j => by
  have hh : ∀ i, (⟨g', i, none⟩ : Addr) ≠ ⟨g, j, none⟩ := fun i h => by injection h with h; exact hne h.symm
  unfold putNode
  rw [World.cell?_setCell_other _ _ _ _ (hh _), World.cell?_setCell_other _ _ _ _ (hh _), World.cell?_setCell_other _ _ _ _ (hh _), World.cell?_setCell_other _ _ _ _ (hh _), World.cell?_setCell_other _ _ _ _ (hh _), World.cell?_setCell_other _ _ _ _ (hh _), World.cell?_setCell_other _ _ _ _ (hh _), World.cell?_setCell_other _ _ _ _ (hh _), World.cell?_setCell_other _ _ _ _ (hh _)]
 unfold boxed
 simp only [e]
 exact h
theorem boxed.puts {w : World} {g : Nat} {x : Node} {v : Value} (h : ∀ j, j < 9 → (w.cell? ⟨g, j, none⟩).isSome = true) : boxed (putNode w g x v) g x v := by
 obtain ⟨u0, h0⟩ := Option.isSome_iff_exists.1 (h 0 (by omega))
 obtain ⟨u1, h1⟩ := Option.isSome_iff_exists.1 (h 1 (by omega))
 obtain ⟨u2, h2⟩ := Option.isSome_iff_exists.1 (h 2 (by omega))
 obtain ⟨u3, h3⟩ := Option.isSome_iff_exists.1 (h 3 (by omega))
 obtain ⟨u4, h4⟩ := Option.isSome_iff_exists.1 (h 4 (by omega))
 obtain ⟨u5, h5⟩ := Option.isSome_iff_exists.1 (h 5 (by omega))
 obtain ⟨u6, h6⟩ := Option.isSome_iff_exists.1 (h 6 (by omega))
 obtain ⟨u7, h7⟩ := Option.isSome_iff_exists.1 (h 7 (by omega))
 obtain ⟨u8, h8⟩ := Option.isSome_iff_exists.1 (h 8 (by omega))
 clear h
 unfold boxed putNode
 simp [go_sem, h0, h1, h2, h3, h4, h5, h6, h7, h8]
theorem below_putNode {B : Nat} {a w : World} (h : Below B a w) (g : Nat) (hg : B ≤ g) (x : Node) (v : Value) : Below B a (putNode w g x v) := by
 unfold putNode
 repeat (refine below_put ?_ _ _ hg _)
 exact h
theorem mid10_a {l : List Node} {wc w1 : World} {n : Int} {g c : Nat} {x y : Node} {v : Value} {b : Bool} {A : Option Addr} (hm : match findF (l.take (n + 1).toNat) x.f2 with | some z => y = z ∧ b = true | none => y = z40 ∧ b = false) (hx : boxed wc g x v) (hb : Below wc.drew.heap.size wc.drew w1)
  (hC : Kd.F (Kd.int .u8) w1 (fun k => k < wc.heap.size ∨ wc.drew.heap.size ≤ k) A y.f5.length y.f5) (hn : 0 ≤ n) : Mid10 l n.toNat g x v w1.heap.size y b A c wc (w1.alloc (nodeObj y (.slice A y.f5.length c))) := by
 have hb' : Below wc.heap.size wc w1 := (below_drew (Below.refl _ _)).trans hb
 refine ⟨by rw [show n.toNat + 1 = (n + 1).toNat by omega]; exact hm, hb'.alloc hb'.size _, (hx.below hb').below (below_alloc (Below.refl _ _) _), ?_, Kd.F_now (Kd.F_alloc hC _)⟩
 unfold boxed nodeObj
 simp [go_sem]
theorem mid10_b {cs : Array Value} {l : List Node} {wc w1 : World} {n : Int} {g c : Nat} {x y : Node} {v : Value} {b : Bool} {A : Option Addr} (hm : match findF (l.take (n + 1).toNat) x.f2 with | some z => y = z ∧ b = true | none => y = z40 ∧ b = false) (hx : boxed wc g x v) (hb : Below (wc.drew.alloc (.cells cs 40)).heap.size (wc.drew.alloc (.cells cs 40)) w1)
  (hC : Kd.F (Kd.int .u8) w1 (fun k => k < wc.heap.size ∨ (wc.drew.alloc (.cells cs 40)).heap.size ≤ k) A y.f5.length y.f5) (hn : 0 ≤ n) (hcs : cs.size = 9) : Mid10 l n.toNat g x v wc.heap.size y b A c wc (putNode w1 wc.heap.size y (.slice A y.f5.length c)) := by
 have hs : (wc.drew.alloc (.cells cs 40)).heap.size = wc.heap.size + 1 := by rw [World.size_alloc]; rfl
 have hb' : Below wc.heap.size wc w1 := (below_alloc (below_drew (Below.refl _ _)) _).trans (hb.mono (by omega))
 have hlt : g < wc.heap.size := World.block_lt_of_cell? wc ⟨g, 2, none⟩ hx.1.2.2.1
 refine ⟨by rw [show n.toNat + 1 = (n + 1).toNat by omega]; exact hm, below_putNode hb' _ (Nat.le_refl _) _ _, (hx.below hb').put (by omega), boxed.puts (fun j hj => ?_), ?_⟩
 ·have h1 : w1.cell? ⟨wc.heap.size, j, none⟩ = (wc.drew.alloc (.cells cs 40)).cell? ⟨wc.heap.size, j, none⟩ := hb.cell (p := ⟨wc.heap.size, j, none⟩) (by rw [hs]; exact Nat.lt_succ_self _)
  rw [h1]
  have h2 : (wc.drew.alloc (.cells cs 40)).cell? ⟨wc.heap.size, j, none⟩ = cs[j]? := World.cell?_alloc_new wc.drew _ _ _
  rw [h2, Array.getElem?_eq_getElem (by omega)]
  rfl
 ·unfold putNode
  refine Kd.F_now (ok := fun k => k < wc.heap.size ∨ (wc.drew.alloc (.cells cs 40)).heap.size ≤ k) ?_
  repeat (refine Kd.F_far ?_ (p := ⟨wc.heap.size, _, none⟩) (fun k hk => by show k ≠ wc.heap.size; omega) _)
  exact hC
attribute [local go_sem high] eqA38
set_option maxRecDepth 100000 in
set_option maxHeartbeats 8000000 in
theorem RefTree_calls (A0 : Option Addr) (c0 : Nat) (l : List Node) (W : World) (hC : Kd.C k40 W A0 l.length l) (hc0 : l.length ≤ c0) (hz : NodesZ l) :
  Calls Tryd.prog 33 #[.slice A0 l.length c0] W fun e W' => e = .returned (.bool (goodTree l)) ∧ Below W.heap.size W W' := by
 have HC := Aside0.mk hC
 have HZ := Aside0.mk hz
 have HC0 := Aside0.mk hc0
 have hlen : (l.length : Int) ≤ 1000000000000 := by have := hz.1; omega
 clear hC hz hc0
 generalize hpost : (fun (e : Ending) (W' : World) => e = .returned (.bool (goodTree l)) ∧ Below W.heap.size W W') = Q
 have hQ := Aside0.mk hpost
 clear hpost
 go_enter Tryd.func33, Tryd.ntmps33
 go_wp2
 go_loopg [3] (l.length) (fun g i wr => ∃ n : Int, i = .int .i64 n ∧ Aside0 (RefRel l W n wr) ∧ Aside0 ((g : Int) + n = l.length))
 case atStart => exact ⟨0, rfl, ⟨⟨by omega, by omega, fun j hj h => absurd h (by omega), Below.refl _ _⟩⟩, ⟨by omega⟩⟩
 case round =>
  obtain ⟨n, rfl, HR, HG⟩ := hrel
  have h0 := HR.out.1
  have h1 := HR.out.2.1
  have hB := HR.out.2.2.2
  have HB := Aside0.mk hB
  by_cases hlt : n < (l.length : Int)
  ·have hnl : n.toNat < l.length := by omega
   obtain ⟨ad, A7, c7, rfl, x0, x1, x2, x3, x4, x5, x6, x7, x8, hl7, hC7⟩ := at_T40 (Kd.C_below HC.out hB) n h0 hlt
   have hx := rdN_at l n h0 hlt
   have hxz : NodeZ (rd_T40 l n) := by rw [hx]; exact HZ.out.2 _ (List.getElem_mem _)
   generalize rd_T40 l n = x at hx hxz x0 x1 x2 x3 x4 x5 x6 x7 x8 hl7 hC7
   have HX := Aside0.mk hx
   have HXZ := Aside0.mk hxz
   have HC7 := Aside0.mk hC7
   have c1b : decide (n < (l.length : Int)) = true := decide_eq_true hlt
   clear hx hxz hC7
   have hmr : MemR (memOf x) := ⟨HXZ.out.1, HXZ.out.2.1, HXZ.out.2.2.2⟩
   obtain ⟨kg, hkg⟩ := Ev.rounds (refGood_eq (memOf x) hmr)
   generalize hgd : goodM (memOf x) = gd at hkg
   have HGD := Aside0.mk hgd
   have HKG : Aside0 (bindleref08_Good.f kg x.f0 x.f1 x.f3 x.f4.f0 x.f4.f1 x.f4.f2 x.f4.f3 x.f5 = some gd) := ⟨hkg⟩
   have HCA := Aside0.mk (fun o => Kd.C_alloc HC7.out o)
   have hl7' : x.f5.length ≤ c7 := hl7
   have HNL := Aside0.mk hnl
   clear hkg hmr hl7 hgd hnl
   go_upto_region 5 with (fail)
   go_cut [49] (fun v wx => ∃ b, v = .bool b ∧ Aside0 (Mid5 l n.toNat HNL.out wr.heap.size x (.slice A7 x.f5.length c7) b wr wx))
   case first =>
    by_cases hn0 : n = 0
    ·have g1 : decide (0 < n) = false := decide_eq_false (by omega)
     have g2 : decide (n > 0) = false := decide_eq_false (by omega)
     have HN0 := Aside0.mk hn0
     clear hn0
     by_cases h49 : x.f3 = 49
     ·have e49 : (x.f3 == 49) = true := beq_iff_eq.2 h49
      have H49 := Aside0.mk h49
      clear h49
      refine start_ (n := 33) (S := fun w' => w'.cell? ⟨wr.heap.size, 0, none⟩ = some (.string x.f0) ∧ w'.cell? ⟨wr.heap.size, 1, none⟩ = some (.string x.f1) ∧ w'.cell? ⟨wr.heap.size, 2, none⟩ = some (.string x.f2) ∧ w'.cell? ⟨wr.heap.size, 3, none⟩ = some (.int .u8 x.f3) ∧ w'.cell? ⟨wr.heap.size, 4, none⟩ = some (.int .i64 x.f4.f0) ∧ w'.cell? ⟨wr.heap.size, 5, none⟩ = some (.int .i64 x.f4.f1) ∧ w'.cell? ⟨wr.heap.size, 6, none⟩ = some (.int .i64 x.f4.f2) ∧ w'.cell? ⟨wr.heap.size, 7, none⟩ = some (.int .i64 x.f4.f3) ∧ w'.cell? ⟨wr.heap.size, 8, none⟩ = some (.slice A7 x.f5.length c7)) (ds := []) gq_0 (by kernel_rfl) rfl rfl ⟨by simp, by simp, by simp, by simp, by simp, by simp, by simp, by simp, by simp⟩ (fun hHeld => ?_)
      generalize hwq : (wr.alloc (.cells #[.string x.f0, .string x.f1, .string x.f2, .int .u8 x.f3, .int .i64 x.f4.f0, .int .i64 x.f4.f1, .int .i64 x.f4.f2, .int .i64 x.f4.f3, .slice A7 x.f5.length c7] 40)).drew = wq at hHeld ⊢
      refine pur_ (i := 0) (N := some 17) gq_1 (by kernel_rfl) ?_
      refine pur_ (i := 1) (N := some 18) gq_2 (by kernel_rfl) ?_
      refine pur_ (i := 2) (N := some 19) gq_3 (by kernel_rfl) ?_
      refine pure_ (i := 3) (N := some 20) (v := undef) (a' := ?_) gq_4 rfl rfl (by kernel_rfl) (fun _ _ _ h => h) (Or.inr ⟨by rfl, rfl⟩) ?_ ?_
      rotate_left
      ·simp only [Act.put, List.setIfInBounds_toArray, List.set_cons_zero, List.set_cons_succ, i64_w, i32_w]
       rfl
      refine pure_ (i := 4) (N := some 21) (v := undef) (a' := ?_) gq_5 rfl rfl (by kernel_rfl) (fun _ _ _ h => h) (Or.inr ⟨by rfl, rfl⟩) ?_ ?_
      rotate_left
      ·simp only [Act.put, List.setIfInBounds_toArray, List.set_cons_zero, List.set_cons_succ, i64_w, i32_w]
       rfl
      refine pure_ (i := 5) (N := some 22) (v := undef) (a' := ?_) gq_6 rfl rfl (by kernel_rfl) (fun _ _ _ h => h) (Or.inr ⟨by rfl, rfl⟩) ?_ ?_
      rotate_left
      ·simp only [Act.put, List.setIfInBounds_toArray, List.set_cons_zero, List.set_cons_succ, i64_w, i32_w]
       rfl
      refine pure_ (i := 6) (N := some 23) (v := undef) (a' := ?_) gq_7 rfl rfl (by kernel_rfl) (fun _ _ _ h => h) (Or.inr ⟨by rfl, rfl⟩) ?_ ?_
      rotate_left
      ·simp only [Act.put, List.setIfInBounds_toArray, List.set_cons_zero, List.set_cons_succ, i64_w, i32_w]
       rfl
      refine pure_ (i := 7) (N := some 24) (v := undef) (a' := ?_) gq_8 rfl rfl (by kernel_rfl) (fun _ _ _ h => h) (Or.inr ⟨by rfl, rfl⟩) ?_ ?_
      rotate_left
      ·simp only [Act.put, List.setIfInBounds_toArray, List.set_cons_zero, List.set_cons_succ, i64_w, i32_w]
       rfl
      refine pure_ (i := 8) (N := some 25) (v := undef) (a' := ?_) gq_9 rfl rfl (by kernel_rfl) (fun _ _ _ h => h) (Or.inr ⟨by rfl, rfl⟩) ?_ ?_
      rotate_left
      ·simp only [Act.put, List.setIfInBounds_toArray, List.set_cons_zero, List.set_cons_succ, i64_w, i32_w]
       rfl
      refine pure_ (i := 9) (N := some 26) (v := undef) (a' := ?_) gq_10 rfl rfl (by kernel_rfl) (fun _ _ _ h => h) (Or.inr ⟨by rfl, rfl⟩) ?_ ?_
      rotate_left
      ·simp only [Act.put, List.setIfInBounds_toArray, List.set_cons_zero, List.set_cons_succ, i64_w, i32_w]
       rfl
      refine pure_ (i := 10) (N := some 27) (v := undef) (a' := ?_) gq_11 rfl rfl (by kernel_rfl) (fun _ _ _ h => h) (Or.inr ⟨by rfl, rfl⟩) ?_ ?_
      rotate_left
      ·simp only [Act.put, List.setIfInBounds_toArray, List.set_cons_zero, List.set_cons_succ, i64_w, i32_w]
       rfl
      refine pure_ (i := 11) (N := some 28) (v := undef) (a' := ?_) gq_12 rfl rfl (by kernel_rfl) (fun _ _ _ h => h) (Or.inr ⟨by rfl, rfl⟩) ?_ ?_
      rotate_left
      ·simp only [Act.put, List.setIfInBounds_toArray, List.set_cons_zero, List.set_cons_succ, i64_w, i32_w]
       rfl
      refine pur_ (i := 12) (N := some 29) gq_13 (by kernel_rfl) ?_
      refine pur_ (i := 13) (N := some 30) gq_14 (by kernel_rfl) ?_
      refine pur_ (i := 14) (N := some 31) gq_15 (by kernel_rfl) ?_
      refine tak_ (i := 15) (N := some 32) gq_16 (by kernel_rfl) hHeld ?_
      refine pur_ (i := 16) (N := some 33) gq_17 (by kernel_rfl) ?_
      refine pur_ (i := 17) (N := some 34) gq_18 (by kernel_rfl) ?_
      refine pur_ (i := 18) (N := some 35) gq_19 (by kernel_rfl) ?_
      refine pure_ (i := 19) (N := some 36) (v := undef) (a' := ?_) gq_20 rfl rfl (by kernel_rfl) (fun _ _ _ h => h) (Or.inr ⟨by rfl, rfl⟩) ?_ ?_
      rotate_left
      ·simp only [Act.put, List.setIfInBounds_toArray, List.set_cons_zero, List.set_cons_succ, i64_w, i32_w]
       rfl
      refine pure_ (i := 20) (N := some 37) (v := undef) (a' := ?_) gq_21 rfl rfl (by kernel_rfl) (fun _ _ _ h => h) (Or.inr ⟨by rfl, rfl⟩) ?_ ?_
      rotate_left
      ·simp only [Act.put, List.setIfInBounds_toArray, List.set_cons_zero, List.set_cons_succ, i64_w, i32_w]
       rfl
      refine pure_ (i := 21) (N := some 38) (v := undef) (a' := ?_) gq_22 rfl rfl (by kernel_rfl) (fun _ _ _ h => h) (Or.inr ⟨by rfl, rfl⟩) ?_ ?_
      rotate_left
      ·simp only [Act.put, List.setIfInBounds_toArray, List.set_cons_zero, List.set_cons_succ, i64_w, i32_w]
       rfl
      refine pure_ (i := 22) (N := some 39) (v := undef) (a' := ?_) gq_23 rfl rfl (by kernel_rfl) (fun _ _ _ h => h) (Or.inr ⟨by rfl, rfl⟩) ?_ ?_
      rotate_left
      ·simp only [Act.put, List.setIfInBounds_toArray, List.set_cons_zero, List.set_cons_succ, i64_w, i32_w]
       rfl
      refine pure_ (i := 23) (N := some 40) (v := undef) (a' := ?_) gq_24 rfl rfl (by kernel_rfl) (fun _ _ _ h => h) (Or.inr ⟨by rfl, rfl⟩) ?_ ?_
      rotate_left
      ·simp only [Act.put, List.setIfInBounds_toArray, List.set_cons_zero, List.set_cons_succ, i64_w, i32_w]
       rfl
      refine pure_ (i := 24) (N := some 41) (v := undef) (a' := ?_) gq_25 rfl rfl (by kernel_rfl) (fun _ _ _ h => h) (Or.inr ⟨by rfl, rfl⟩) ?_ ?_
      rotate_left
      ·simp only [Act.put, List.setIfInBounds_toArray, List.set_cons_zero, List.set_cons_succ, i64_w, i32_w]
       rfl
      refine pure_ (i := 25) (N := some 42) (v := undef) (a' := ?_) gq_26 rfl rfl (by kernel_rfl) (fun _ _ _ h => h) (Or.inr ⟨by rfl, rfl⟩) ?_ ?_
      rotate_left
      ·simp only [Act.put, List.setIfInBounds_toArray, List.set_cons_zero, List.set_cons_succ, i64_w, i32_w]
       rfl
      refine pure_ (i := 26) (N := some 43) (v := undef) (a' := ?_) gq_27 rfl rfl (by kernel_rfl) (fun _ _ _ h => h) (Or.inr ⟨by rfl, rfl⟩) ?_ ?_
      rotate_left
      ·simp only [Act.put, List.setIfInBounds_toArray, List.set_cons_zero, List.set_cons_succ, i64_w, i32_w]
       rfl
      refine pure_ (i := 27) (N := some 44) (v := undef) (a' := ?_) gq_28 rfl rfl (by kernel_rfl) (fun _ _ _ h => h) (Or.inr ⟨by rfl, rfl⟩) ?_ ?_
      rotate_left
      ·simp only [Act.put, List.setIfInBounds_toArray, List.set_cons_zero, List.set_cons_succ, i64_w, i32_w]
       rfl
      refine pure_ (i := 28) (N := some 45) (v := undef) (a' := ?_) gq_29 rfl rfl (by kernel_rfl) (fun _ _ _ h => h) (Or.inr ⟨by rfl, rfl⟩) ?_ ?_
      rotate_left
      ·simp only [Act.put, List.setIfInBounds_toArray, List.set_cons_zero, List.set_cons_succ, i64_w, i32_w]
       rfl
      refine pure_ (i := 29) (N := some 46) (v := undef) (a' := ?_) gq_30 rfl rfl (by kernel_rfl) (fun _ _ _ h => h) (Or.inr ⟨by rfl, rfl⟩) ?_ ?_
      rotate_left
      ·simp only [Act.put, List.setIfInBounds_toArray, List.set_cons_zero, List.set_cons_succ, i64_w, i32_w]
       rfl
      refine pure_ (i := 30) (N := some 47) (v := undef) (a' := ?_) gq_31 rfl rfl (by kernel_rfl) (fun _ _ _ h => h) (Or.inr ⟨by rfl, rfl⟩) ?_ ?_
      rotate_left
      ·simp only [Act.put, List.setIfInBounds_toArray, List.set_cons_zero, List.set_cons_succ, i64_w, i32_w]
       rfl
      refine pure_ (i := 31) (N := some 48) (v := undef) (a' := ?_) gq_32 rfl rfl (by kernel_rfl) (fun _ _ _ h => h) (Or.inr ⟨by rfl, rfl⟩) ?_ ?_
      rotate_left
      ·simp only [Act.put, List.setIfInBounds_toArray, List.set_cons_zero, List.set_cons_succ, i64_w, i32_w]
       rfl
      refine pur_ (i := 32) (N := some 49) gq_33 (by kernel_rfl) ?_
      refine done_ (by kernel_rfl) ?_
      go_wp2_with (fail)
      go_meet
      exact ⟨true, rfl, ⟨mid5_1 (by unfold headOk; rw [← HX.out, decide_eq_true H49.out]; simp) (by rw [← hwq]; exact below_drew (below_alloc (Below.refl _ _) _)) hHeld⟩⟩
     ·have e49 : (x.f3 == 49) = false := beq_eq_false_iff_ne.2 h49
      have H49 := Aside0.mk h49
      clear h49
      refine start_ (n := 33) (S := fun w' => w'.cell? ⟨wr.heap.size, 0, none⟩ = some (.string x.f0) ∧ w'.cell? ⟨wr.heap.size, 1, none⟩ = some (.string x.f1) ∧ w'.cell? ⟨wr.heap.size, 2, none⟩ = some (.string x.f2) ∧ w'.cell? ⟨wr.heap.size, 3, none⟩ = some (.int .u8 x.f3) ∧ w'.cell? ⟨wr.heap.size, 4, none⟩ = some (.int .i64 x.f4.f0) ∧ w'.cell? ⟨wr.heap.size, 5, none⟩ = some (.int .i64 x.f4.f1) ∧ w'.cell? ⟨wr.heap.size, 6, none⟩ = some (.int .i64 x.f4.f2) ∧ w'.cell? ⟨wr.heap.size, 7, none⟩ = some (.int .i64 x.f4.f3) ∧ w'.cell? ⟨wr.heap.size, 8, none⟩ = some (.slice A7 x.f5.length c7)) (ds := []) gq_0 (by kernel_rfl) rfl rfl ⟨by simp, by simp, by simp, by simp, by simp, by simp, by simp, by simp, by simp⟩ (fun hHeld => ?_)
      generalize hwq : (wr.alloc (.cells #[.string x.f0, .string x.f1, .string x.f2, .int .u8 x.f3, .int .i64 x.f4.f0, .int .i64 x.f4.f1, .int .i64 x.f4.f2, .int .i64 x.f4.f3, .slice A7 x.f5.length c7] 40)).drew = wq at hHeld ⊢
      refine pur_ (i := 0) (N := some 17) gq_1 (by kernel_rfl) ?_
      refine pur_ (i := 1) (N := some 18) gq_2 (by kernel_rfl) ?_
      refine pur_ (i := 2) (N := some 19) gq_3 (by kernel_rfl) ?_
      refine pure_ (i := 3) (N := some 20) (v := undef) (a' := ?_) gq_4 rfl rfl (by kernel_rfl) (fun _ _ _ h => h) (Or.inr ⟨by rfl, rfl⟩) ?_ ?_
      rotate_left
      ·simp only [Act.put, List.setIfInBounds_toArray, List.set_cons_zero, List.set_cons_succ, i64_w, i32_w]
       rfl
      refine pure_ (i := 4) (N := some 21) (v := undef) (a' := ?_) gq_5 rfl rfl (by kernel_rfl) (fun _ _ _ h => h) (Or.inr ⟨by rfl, rfl⟩) ?_ ?_
      rotate_left
      ·simp only [Act.put, List.setIfInBounds_toArray, List.set_cons_zero, List.set_cons_succ, i64_w, i32_w]
       rfl
      refine pure_ (i := 5) (N := some 22) (v := undef) (a' := ?_) gq_6 rfl rfl (by kernel_rfl) (fun _ _ _ h => h) (Or.inr ⟨by rfl, rfl⟩) ?_ ?_
      rotate_left
      ·simp only [Act.put, List.setIfInBounds_toArray, List.set_cons_zero, List.set_cons_succ, i64_w, i32_w]
       rfl
      refine pure_ (i := 6) (N := some 23) (v := undef) (a' := ?_) gq_7 rfl rfl (by kernel_rfl) (fun _ _ _ h => h) (Or.inr ⟨by rfl, rfl⟩) ?_ ?_
      rotate_left
      ·simp only [Act.put, List.setIfInBounds_toArray, List.set_cons_zero, List.set_cons_succ, i64_w, i32_w]
       rfl
      refine pure_ (i := 7) (N := some 24) (v := undef) (a' := ?_) gq_8 rfl rfl (by kernel_rfl) (fun _ _ _ h => h) (Or.inr ⟨by rfl, rfl⟩) ?_ ?_
      rotate_left
      ·simp only [Act.put, List.setIfInBounds_toArray, List.set_cons_zero, List.set_cons_succ, i64_w, i32_w]
       rfl
      refine pure_ (i := 8) (N := some 25) (v := undef) (a' := ?_) gq_9 rfl rfl (by kernel_rfl) (fun _ _ _ h => h) (Or.inr ⟨by rfl, rfl⟩) ?_ ?_
      rotate_left
      ·simp only [Act.put, List.setIfInBounds_toArray, List.set_cons_zero, List.set_cons_succ, i64_w, i32_w]
       rfl
      refine pure_ (i := 9) (N := some 26) (v := undef) (a' := ?_) gq_10 rfl rfl (by kernel_rfl) (fun _ _ _ h => h) (Or.inr ⟨by rfl, rfl⟩) ?_ ?_
      rotate_left
      ·simp only [Act.put, List.setIfInBounds_toArray, List.set_cons_zero, List.set_cons_succ, i64_w, i32_w]
       rfl
      refine pure_ (i := 10) (N := some 27) (v := undef) (a' := ?_) gq_11 rfl rfl (by kernel_rfl) (fun _ _ _ h => h) (Or.inr ⟨by rfl, rfl⟩) ?_ ?_
      rotate_left
      ·simp only [Act.put, List.setIfInBounds_toArray, List.set_cons_zero, List.set_cons_succ, i64_w, i32_w]
       rfl
      refine pure_ (i := 11) (N := some 28) (v := undef) (a' := ?_) gq_12 rfl rfl (by kernel_rfl) (fun _ _ _ h => h) (Or.inr ⟨by rfl, rfl⟩) ?_ ?_
      rotate_left
      ·simp only [Act.put, List.setIfInBounds_toArray, List.set_cons_zero, List.set_cons_succ, i64_w, i32_w]
       rfl
      refine pur_ (i := 12) (N := some 29) gq_13 (by kernel_rfl) ?_
      refine pur_ (i := 13) (N := some 30) gq_14 (by kernel_rfl) ?_
      refine pur_ (i := 14) (N := some 31) gq_15 (by kernel_rfl) ?_
      refine tak_ (i := 15) (N := some 32) gq_16 (by kernel_rfl) hHeld ?_
      refine pur_ (i := 16) (N := some 33) gq_17 (by kernel_rfl) ?_
      refine pur_ (i := 17) (N := some 34) gq_18 (by kernel_rfl) ?_
      refine pur_ (i := 18) (N := some 35) gq_19 (by kernel_rfl) ?_
      refine pur_ (i := 19) (N := some 36) gq_20 (by kernel_rfl) ?_
      refine tak_ (i := 20) (N := some 37) gq_21 (by kernel_rfl) hHeld ?_
      refine pur_ (i := 21) (N := some 38) gq_22 (by kernel_rfl) ?_
      refine tak_ (i := 22) (N := some 39) gq_23 (by kernel_rfl) hHeld ?_
      refine pur_ (i := 23) (N := some 40) gq_24 (by kernel_rfl) ?_
      refine tak_ (i := 24) (N := some 41) gq_25 (by kernel_rfl) hHeld ?_
      refine pur_ (i := 25) (N := some 42) gq_26 (by kernel_rfl) ?_
      refine tak_ (i := 26) (N := some 43) gq_27 (by kernel_rfl) hHeld ?_
      refine pur_ (i := 27) (N := some 44) gq_28 (by kernel_rfl) ?_
      refine tak_ (i := 28) (N := some 45) gq_29 (by kernel_rfl) hHeld ?_
      refine pur_ (i := 29) (N := some 46) gq_30 (by kernel_rfl) ?_
      refine one_ (i := 30) (N := some 47) gq_31 rfl rfl (by kernel_rfl) (by decide) (fun K hK => ?_)
      refine goes_ Tryd.func34 (by kernel_rfl) rfl #[.agg #[.string x.f0, .string x.f1, .int .u8 x.f3, .int .i64 x.f4.f0, .int .i64 x.f4.f1, .int .i64 x.f4.f2, .int .i64 x.f4.f3, .slice A7 x.f5.length c7]] (by rfl) rfl rfl (by first | rfl | (simp [Act.eval]; done)) ?_
      refine (bindleref08_Good.calls kg x.f0 x.f1 x.f3 x.f4.f0 x.f4.f1 x.f4.f2 x.f4.f3 A7 c7 x.f5 gd wq (by rw [← hwq]; exact Kd.C_drew (HCA.out _)) hl7' HKG.out).mono ?_
      rintro e w5 ⟨rfl, hb5⟩
      refine ⟨_, rfl, ?_⟩
      refine hK.out _ _ ⟨bkeep hb5 hHeld.1, bkeep hb5 hHeld.2.1, bkeep hb5 hHeld.2.2.1, bkeep hb5 hHeld.2.2.2.1, bkeep hb5 hHeld.2.2.2.2.1, bkeep hb5 hHeld.2.2.2.2.2.1, bkeep hb5 hHeld.2.2.2.2.2.2.1, bkeep hb5 hHeld.2.2.2.2.2.2.2.1, bkeep hb5 hHeld.2.2.2.2.2.2.2.2⟩ (fun hHeld => ?_)
      clear hK K
      refine norm_ (a' := ?_) ?_ ?_
      rotate_left
      ·show Act.put _ (some 47) _ = _
       simp only [Act.put, List.setIfInBounds_toArray, List.set_cons_zero, List.set_cons_succ, i64_w, i32_w]
       rfl
      refine pur_ (i := 31) (N := some 48) gq_32 (by kernel_rfl) ?_
      refine pur_ (i := 32) (N := some 49) gq_33 (by kernel_rfl) ?_
      refine done_ (by kernel_rfl) ?_
      go_wp2_with (fail)
      go_meet
      exact ⟨!gd, rfl, ⟨mid5_1 (by unfold headOk; rw [← HX.out, HGD.out, decide_eq_false H49.out, decide_eq_true (show n.toNat = 0 by have := HN0.out; omega)]; simp) ((show Below wr.heap.size wr wq from by rw [← hwq]; exact below_drew (below_alloc (Below.refl _ _) _)).trans (hb5.mono (by rw [← hwq]; show wr.heap.size ≤ (wr.alloc (.cells #[.string x.f0, .string x.f1, .string x.f2, .int .u8 x.f3, .int .i64 x.f4.f0, .int .i64 x.f4.f1, .int .i64 x.f4.f2, .int .i64 x.f4.f3, .slice A7 x.f5.length c7] 40)).heap.size; rw [World.size_alloc]; omega))) hHeld⟩⟩
    ·have g1 : decide (0 < n) = true := decide_eq_true (by omega)
     have g2 : decide (n > 0) = true := decide_eq_true (by omega)
     obtain ⟨j, hj⟩ : ∃ j, j = n - 1 := ⟨_, rfl⟩
     have hn1 : 0 ≤ j := by omega
     have hn2 : j < (l.length : Int) := by omega
     obtain ⟨ad', _, _, hA, hp0, _⟩ := at_T40 (Kd.C_below HC.out HB.out) j hn1 hn2
     cases hA
     have hy := rdN_at l j hn1 hn2
     generalize hy0 : (rd_T40 l j).f0 = y0 at hp0
     rw [hy] at hy0
     have HN0 := Aside0.mk hn0
     have HY := Aside0.mk hy0
     have hw64 : wrap64 (n - 1) = j := by unfold wrap64; omega
     have HJ := Aside0.mk hj
     clear hn0 hy hy0 hj
     cases hls : Op.bytesLess y0.toList x.f0.toList with
     | false =>
      refine start_ (n := 33) (S := fun w' => w'.cell? ⟨wr.heap.size, 0, none⟩ = some (.string x.f0) ∧ w'.cell? ⟨wr.heap.size, 1, none⟩ = some (.string x.f1) ∧ w'.cell? ⟨wr.heap.size, 2, none⟩ = some (.string x.f2) ∧ w'.cell? ⟨wr.heap.size, 3, none⟩ = some (.int .u8 x.f3) ∧ w'.cell? ⟨wr.heap.size, 4, none⟩ = some (.int .i64 x.f4.f0) ∧ w'.cell? ⟨wr.heap.size, 5, none⟩ = some (.int .i64 x.f4.f1) ∧ w'.cell? ⟨wr.heap.size, 6, none⟩ = some (.int .i64 x.f4.f2) ∧ w'.cell? ⟨wr.heap.size, 7, none⟩ = some (.int .i64 x.f4.f3) ∧ w'.cell? ⟨wr.heap.size, 8, none⟩ = some (.slice A7 x.f5.length c7) ∧ w'.cell? (ad.add (j.toNat * 9)) = some (.string y0)) (ds := []) gq_0 (by kernel_rfl) rfl rfl ⟨by simp, by simp, by simp, by simp, by simp, by simp, by simp, by simp, by simp, acell hp0 _⟩ (fun hHeld => ?_)
      generalize hwq : (wr.alloc (.cells #[.string x.f0, .string x.f1, .string x.f2, .int .u8 x.f3, .int .i64 x.f4.f0, .int .i64 x.f4.f1, .int .i64 x.f4.f2, .int .i64 x.f4.f3, .slice A7 x.f5.length c7] 40)).drew = wq at hHeld ⊢
      refine pur_ (i := 0) (N := some 17) gq_1 (by kernel_rfl) ?_
      refine pur_ (i := 1) (N := some 18) gq_2 (by kernel_rfl) ?_
      refine pur_ (i := 2) (N := some 19) gq_3 (by kernel_rfl) ?_
      refine pur_ (i := 3) (N := some 20) gq_4 (by kernel_rfl) ?_
      refine pur_ (i := 4) (N := some 21) gq_5 (by kernel_rfl) ?_
      refine pur_ (i := 5) (N := some 22) gq_6 (by kernel_rfl) ?_
      refine pur_ (i := 6) (N := some 23) gq_7 (by kernel_rfl) ?_
      refine pur_ (i := 7) (N := some 24) gq_8 (by kernel_rfl) ?_
      refine tak_ (i := 8) (N := some 25) gq_9 (by kernel_rfl) hHeld ?_
      refine pur_ (i := 9) (N := some 26) gq_10 (by kernel_rfl) ?_
      refine tak_ (i := 10) (N := some 27) gq_11 (by kernel_rfl) hHeld ?_
      refine pur_ (i := 11) (N := some 28) gq_12 (by kernel_rfl) ?_
      refine pur_ (i := 12) (N := some 29) gq_13 (by kernel_rfl) ?_
      refine pur_ (i := 13) (N := some 30) gq_14 (by kernel_rfl) ?_
      refine pure_ (i := 14) (N := some 31) (v := undef) (a' := ?_) gq_15 rfl rfl (by kernel_rfl) (fun _ _ _ h => h) (Or.inr ⟨by rfl, rfl⟩) ?_ ?_
      rotate_left
      ·simp only [Act.put, List.setIfInBounds_toArray, List.set_cons_zero, List.set_cons_succ, i64_w, i32_w]
       rfl
      refine pure_ (i := 15) (N := some 32) (v := undef) (a' := ?_) gq_16 rfl rfl (by kernel_rfl) (fun _ _ _ h => h) (Or.inr ⟨by rfl, rfl⟩) ?_ ?_
      rotate_left
      ·simp only [Act.put, List.setIfInBounds_toArray, List.set_cons_zero, List.set_cons_succ, i64_w, i32_w]
       rfl
      refine pure_ (i := 16) (N := some 33) (v := undef) (a' := ?_) gq_17 rfl rfl (by kernel_rfl) (fun _ _ _ h => h) (Or.inr ⟨by rfl, rfl⟩) ?_ ?_
      rotate_left
      ·simp only [Act.put, List.setIfInBounds_toArray, List.set_cons_zero, List.set_cons_succ, i64_w, i32_w]
       rfl
      refine pur_ (i := 17) (N := some 34) gq_18 (by kernel_rfl) ?_
      refine pur_ (i := 18) (N := some 35) gq_19 (by kernel_rfl) ?_
      refine pure_ (i := 19) (N := some 36) (v := undef) (a' := ?_) gq_20 rfl rfl (by kernel_rfl) (fun _ _ _ h => h) (Or.inr ⟨by rfl, rfl⟩) ?_ ?_
      rotate_left
      ·simp only [Act.put, List.setIfInBounds_toArray, List.set_cons_zero, List.set_cons_succ, i64_w, i32_w]
       rfl
      refine pure_ (i := 20) (N := some 37) (v := undef) (a' := ?_) gq_21 rfl rfl (by kernel_rfl) (fun _ _ _ h => h) (Or.inr ⟨by rfl, rfl⟩) ?_ ?_
      rotate_left
      ·simp only [Act.put, List.setIfInBounds_toArray, List.set_cons_zero, List.set_cons_succ, i64_w, i32_w]
       rfl
      refine pure_ (i := 21) (N := some 38) (v := undef) (a' := ?_) gq_22 rfl rfl (by kernel_rfl) (fun _ _ _ h => h) (Or.inr ⟨by rfl, rfl⟩) ?_ ?_
      rotate_left
      ·simp only [Act.put, List.setIfInBounds_toArray, List.set_cons_zero, List.set_cons_succ, i64_w, i32_w]
       rfl
      refine pure_ (i := 22) (N := some 39) (v := undef) (a' := ?_) gq_23 rfl rfl (by kernel_rfl) (fun _ _ _ h => h) (Or.inr ⟨by rfl, rfl⟩) ?_ ?_
      rotate_left
      ·simp only [Act.put, List.setIfInBounds_toArray, List.set_cons_zero, List.set_cons_succ, i64_w, i32_w]
       rfl
      refine pure_ (i := 23) (N := some 40) (v := undef) (a' := ?_) gq_24 rfl rfl (by kernel_rfl) (fun _ _ _ h => h) (Or.inr ⟨by rfl, rfl⟩) ?_ ?_
      rotate_left
      ·simp only [Act.put, List.setIfInBounds_toArray, List.set_cons_zero, List.set_cons_succ, i64_w, i32_w]
       rfl
      refine pure_ (i := 24) (N := some 41) (v := undef) (a' := ?_) gq_25 rfl rfl (by kernel_rfl) (fun _ _ _ h => h) (Or.inr ⟨by rfl, rfl⟩) ?_ ?_
      rotate_left
      ·simp only [Act.put, List.setIfInBounds_toArray, List.set_cons_zero, List.set_cons_succ, i64_w, i32_w]
       rfl
      refine pure_ (i := 25) (N := some 42) (v := undef) (a' := ?_) gq_26 rfl rfl (by kernel_rfl) (fun _ _ _ h => h) (Or.inr ⟨by rfl, rfl⟩) ?_ ?_
      rotate_left
      ·simp only [Act.put, List.setIfInBounds_toArray, List.set_cons_zero, List.set_cons_succ, i64_w, i32_w]
       rfl
      refine pure_ (i := 26) (N := some 43) (v := undef) (a' := ?_) gq_27 rfl rfl (by kernel_rfl) (fun _ _ _ h => h) (Or.inr ⟨by rfl, rfl⟩) ?_ ?_
      rotate_left
      ·simp only [Act.put, List.setIfInBounds_toArray, List.set_cons_zero, List.set_cons_succ, i64_w, i32_w]
       rfl
      refine pure_ (i := 27) (N := some 44) (v := undef) (a' := ?_) gq_28 rfl rfl (by kernel_rfl) (fun _ _ _ h => h) (Or.inr ⟨by rfl, rfl⟩) ?_ ?_
      rotate_left
      ·simp only [Act.put, List.setIfInBounds_toArray, List.set_cons_zero, List.set_cons_succ, i64_w, i32_w]
       rfl
      refine pure_ (i := 28) (N := some 45) (v := undef) (a' := ?_) gq_29 rfl rfl (by kernel_rfl) (fun _ _ _ h => h) (Or.inr ⟨by rfl, rfl⟩) ?_ ?_
      rotate_left
      ·simp only [Act.put, List.setIfInBounds_toArray, List.set_cons_zero, List.set_cons_succ, i64_w, i32_w]
       rfl
      refine pure_ (i := 29) (N := some 46) (v := undef) (a' := ?_) gq_30 rfl rfl (by kernel_rfl) (fun _ _ _ h => h) (Or.inr ⟨by rfl, rfl⟩) ?_ ?_
      rotate_left
      ·simp only [Act.put, List.setIfInBounds_toArray, List.set_cons_zero, List.set_cons_succ, i64_w, i32_w]
       rfl
      refine pure_ (i := 30) (N := some 47) (v := undef) (a' := ?_) gq_31 rfl rfl (by kernel_rfl) (fun _ _ _ h => h) (Or.inr ⟨by rfl, rfl⟩) ?_ ?_
      rotate_left
      ·simp only [Act.put, List.setIfInBounds_toArray, List.set_cons_zero, List.set_cons_succ, i64_w, i32_w]
       rfl
      refine pure_ (i := 31) (N := some 48) (v := undef) (a' := ?_) gq_32 rfl rfl (by kernel_rfl) (fun _ _ _ h => h) (Or.inr ⟨by rfl, rfl⟩) ?_ ?_
      rotate_left
      ·simp only [Act.put, List.setIfInBounds_toArray, List.set_cons_zero, List.set_cons_succ, i64_w, i32_w]
       rfl
      refine pur_ (i := 32) (N := some 49) gq_33 (by kernel_rfl) ?_
      refine done_ (by kernel_rfl) ?_
      clear hw64
      go_wp2_with (fail)
      go_meet
      exact ⟨true, rfl, ⟨mid5_2 (by unfold headOk; rw [← HX.out, decide_eq_false (show ¬ n.toNat = 0 by have := HN0.out; omega), show lt (l[n.toNat - 1]'(by have := HNL.out; omega)).f0 x.f0 = false from (prev_lt HY.out HJ.out hls)]; simp) (by rw [← hwq]; exact below_drew (below_alloc (Below.refl _ _) _)) hHeld⟩⟩
     | true =>
      by_cases h49 : x.f3 = 49
      ·have e49 : (x.f3 == 49) = true := beq_iff_eq.2 h49
       have H49 := Aside0.mk h49
       clear h49
       refine start_ (n := 33) (S := fun w' => w'.cell? ⟨wr.heap.size, 0, none⟩ = some (.string x.f0) ∧ w'.cell? ⟨wr.heap.size, 1, none⟩ = some (.string x.f1) ∧ w'.cell? ⟨wr.heap.size, 2, none⟩ = some (.string x.f2) ∧ w'.cell? ⟨wr.heap.size, 3, none⟩ = some (.int .u8 x.f3) ∧ w'.cell? ⟨wr.heap.size, 4, none⟩ = some (.int .i64 x.f4.f0) ∧ w'.cell? ⟨wr.heap.size, 5, none⟩ = some (.int .i64 x.f4.f1) ∧ w'.cell? ⟨wr.heap.size, 6, none⟩ = some (.int .i64 x.f4.f2) ∧ w'.cell? ⟨wr.heap.size, 7, none⟩ = some (.int .i64 x.f4.f3) ∧ w'.cell? ⟨wr.heap.size, 8, none⟩ = some (.slice A7 x.f5.length c7) ∧ w'.cell? (ad.add (j.toNat * 9)) = some (.string y0)) (ds := []) gq_0 (by kernel_rfl) rfl rfl ⟨by simp, by simp, by simp, by simp, by simp, by simp, by simp, by simp, by simp, acell hp0 _⟩ (fun hHeld => ?_)
       generalize hwq : (wr.alloc (.cells #[.string x.f0, .string x.f1, .string x.f2, .int .u8 x.f3, .int .i64 x.f4.f0, .int .i64 x.f4.f1, .int .i64 x.f4.f2, .int .i64 x.f4.f3, .slice A7 x.f5.length c7] 40)).drew = wq at hHeld ⊢
       refine pur_ (i := 0) (N := some 17) gq_1 (by kernel_rfl) ?_
       refine pur_ (i := 1) (N := some 18) gq_2 (by kernel_rfl) ?_
       refine pur_ (i := 2) (N := some 19) gq_3 (by kernel_rfl) ?_
       refine pur_ (i := 3) (N := some 20) gq_4 (by kernel_rfl) ?_
       refine pur_ (i := 4) (N := some 21) gq_5 (by kernel_rfl) ?_
       refine pur_ (i := 5) (N := some 22) gq_6 (by kernel_rfl) ?_
       refine pur_ (i := 6) (N := some 23) gq_7 (by kernel_rfl) ?_
       refine pur_ (i := 7) (N := some 24) gq_8 (by kernel_rfl) ?_
       refine tak_ (i := 8) (N := some 25) gq_9 (by kernel_rfl) hHeld ?_
       refine pur_ (i := 9) (N := some 26) gq_10 (by kernel_rfl) ?_
       refine tak_ (i := 10) (N := some 27) gq_11 (by kernel_rfl) hHeld ?_
       refine pur_ (i := 11) (N := some 28) gq_12 (by kernel_rfl) ?_
       refine pur_ (i := 12) (N := some 29) gq_13 (by kernel_rfl) ?_
       refine pur_ (i := 13) (N := some 30) gq_14 (by kernel_rfl) ?_
       refine pur_ (i := 14) (N := some 31) gq_15 (by kernel_rfl) ?_
       refine tak_ (i := 15) (N := some 32) gq_16 (by kernel_rfl) hHeld ?_
       refine pur_ (i := 16) (N := some 33) gq_17 (by kernel_rfl) ?_
       refine pur_ (i := 17) (N := some 34) gq_18 (by kernel_rfl) ?_
       refine pur_ (i := 18) (N := some 35) gq_19 (by kernel_rfl) ?_
       refine pure_ (i := 19) (N := some 36) (v := undef) (a' := ?_) gq_20 rfl rfl (by kernel_rfl) (fun _ _ _ h => h) (Or.inr ⟨by rfl, rfl⟩) ?_ ?_
       rotate_left
       ·simp only [Act.put, List.setIfInBounds_toArray, List.set_cons_zero, List.set_cons_succ, i64_w, i32_w]
        rfl
       refine pure_ (i := 20) (N := some 37) (v := undef) (a' := ?_) gq_21 rfl rfl (by kernel_rfl) (fun _ _ _ h => h) (Or.inr ⟨by rfl, rfl⟩) ?_ ?_
       rotate_left
       ·simp only [Act.put, List.setIfInBounds_toArray, List.set_cons_zero, List.set_cons_succ, i64_w, i32_w]
        rfl
       refine pure_ (i := 21) (N := some 38) (v := undef) (a' := ?_) gq_22 rfl rfl (by kernel_rfl) (fun _ _ _ h => h) (Or.inr ⟨by rfl, rfl⟩) ?_ ?_
       rotate_left
       ·simp only [Act.put, List.setIfInBounds_toArray, List.set_cons_zero, List.set_cons_succ, i64_w, i32_w]
        rfl
       refine pure_ (i := 22) (N := some 39) (v := undef) (a' := ?_) gq_23 rfl rfl (by kernel_rfl) (fun _ _ _ h => h) (Or.inr ⟨by rfl, rfl⟩) ?_ ?_
       rotate_left
       ·simp only [Act.put, List.setIfInBounds_toArray, List.set_cons_zero, List.set_cons_succ, i64_w, i32_w]
        rfl
       refine pure_ (i := 23) (N := some 40) (v := undef) (a' := ?_) gq_24 rfl rfl (by kernel_rfl) (fun _ _ _ h => h) (Or.inr ⟨by rfl, rfl⟩) ?_ ?_
       rotate_left
       ·simp only [Act.put, List.setIfInBounds_toArray, List.set_cons_zero, List.set_cons_succ, i64_w, i32_w]
        rfl
       refine pure_ (i := 24) (N := some 41) (v := undef) (a' := ?_) gq_25 rfl rfl (by kernel_rfl) (fun _ _ _ h => h) (Or.inr ⟨by rfl, rfl⟩) ?_ ?_
       rotate_left
       ·simp only [Act.put, List.setIfInBounds_toArray, List.set_cons_zero, List.set_cons_succ, i64_w, i32_w]
        rfl
       refine pure_ (i := 25) (N := some 42) (v := undef) (a' := ?_) gq_26 rfl rfl (by kernel_rfl) (fun _ _ _ h => h) (Or.inr ⟨by rfl, rfl⟩) ?_ ?_
       rotate_left
       ·simp only [Act.put, List.setIfInBounds_toArray, List.set_cons_zero, List.set_cons_succ, i64_w, i32_w]
        rfl
       refine pure_ (i := 26) (N := some 43) (v := undef) (a' := ?_) gq_27 rfl rfl (by kernel_rfl) (fun _ _ _ h => h) (Or.inr ⟨by rfl, rfl⟩) ?_ ?_
       rotate_left
       ·simp only [Act.put, List.setIfInBounds_toArray, List.set_cons_zero, List.set_cons_succ, i64_w, i32_w]
        rfl
       refine pure_ (i := 27) (N := some 44) (v := undef) (a' := ?_) gq_28 rfl rfl (by kernel_rfl) (fun _ _ _ h => h) (Or.inr ⟨by rfl, rfl⟩) ?_ ?_
       rotate_left
       ·simp only [Act.put, List.setIfInBounds_toArray, List.set_cons_zero, List.set_cons_succ, i64_w, i32_w]
        rfl
       refine pure_ (i := 28) (N := some 45) (v := undef) (a' := ?_) gq_29 rfl rfl (by kernel_rfl) (fun _ _ _ h => h) (Or.inr ⟨by rfl, rfl⟩) ?_ ?_
       rotate_left
       ·simp only [Act.put, List.setIfInBounds_toArray, List.set_cons_zero, List.set_cons_succ, i64_w, i32_w]
        rfl
       refine pure_ (i := 29) (N := some 46) (v := undef) (a' := ?_) gq_30 rfl rfl (by kernel_rfl) (fun _ _ _ h => h) (Or.inr ⟨by rfl, rfl⟩) ?_ ?_
       rotate_left
       ·simp only [Act.put, List.setIfInBounds_toArray, List.set_cons_zero, List.set_cons_succ, i64_w, i32_w]
        rfl
       refine pure_ (i := 30) (N := some 47) (v := undef) (a' := ?_) gq_31 rfl rfl (by kernel_rfl) (fun _ _ _ h => h) (Or.inr ⟨by rfl, rfl⟩) ?_ ?_
       rotate_left
       ·simp only [Act.put, List.setIfInBounds_toArray, List.set_cons_zero, List.set_cons_succ, i64_w, i32_w]
        rfl
       refine pure_ (i := 31) (N := some 48) (v := undef) (a' := ?_) gq_32 rfl rfl (by kernel_rfl) (fun _ _ _ h => h) (Or.inr ⟨by rfl, rfl⟩) ?_ ?_
       rotate_left
       ·simp only [Act.put, List.setIfInBounds_toArray, List.set_cons_zero, List.set_cons_succ, i64_w, i32_w]
        rfl
       refine pur_ (i := 32) (N := some 49) gq_33 (by kernel_rfl) ?_
       refine done_ (by kernel_rfl) ?_
       clear hw64
       go_wp2_with (fail)
       go_meet
       exact ⟨true, rfl, ⟨mid5_2 (by unfold headOk; rw [← HX.out, decide_eq_true H49.out]; simp) (by rw [← hwq]; exact below_drew (below_alloc (Below.refl _ _) _)) hHeld⟩⟩
      ·have e49 : (x.f3 == 49) = false := beq_eq_false_iff_ne.2 h49
       have H49 := Aside0.mk h49
       clear h49
       refine start_ (n := 33) (S := fun w' => w'.cell? ⟨wr.heap.size, 0, none⟩ = some (.string x.f0) ∧ w'.cell? ⟨wr.heap.size, 1, none⟩ = some (.string x.f1) ∧ w'.cell? ⟨wr.heap.size, 2, none⟩ = some (.string x.f2) ∧ w'.cell? ⟨wr.heap.size, 3, none⟩ = some (.int .u8 x.f3) ∧ w'.cell? ⟨wr.heap.size, 4, none⟩ = some (.int .i64 x.f4.f0) ∧ w'.cell? ⟨wr.heap.size, 5, none⟩ = some (.int .i64 x.f4.f1) ∧ w'.cell? ⟨wr.heap.size, 6, none⟩ = some (.int .i64 x.f4.f2) ∧ w'.cell? ⟨wr.heap.size, 7, none⟩ = some (.int .i64 x.f4.f3) ∧ w'.cell? ⟨wr.heap.size, 8, none⟩ = some (.slice A7 x.f5.length c7) ∧ w'.cell? (ad.add (j.toNat * 9)) = some (.string y0)) (ds := []) gq_0 (by kernel_rfl) rfl rfl ⟨by simp, by simp, by simp, by simp, by simp, by simp, by simp, by simp, by simp, acell hp0 _⟩ (fun hHeld => ?_)
       generalize hwq : (wr.alloc (.cells #[.string x.f0, .string x.f1, .string x.f2, .int .u8 x.f3, .int .i64 x.f4.f0, .int .i64 x.f4.f1, .int .i64 x.f4.f2, .int .i64 x.f4.f3, .slice A7 x.f5.length c7] 40)).drew = wq at hHeld ⊢
       refine pur_ (i := 0) (N := some 17) gq_1 (by kernel_rfl) ?_
       refine pur_ (i := 1) (N := some 18) gq_2 (by kernel_rfl) ?_
       refine pur_ (i := 2) (N := some 19) gq_3 (by kernel_rfl) ?_
       refine pur_ (i := 3) (N := some 20) gq_4 (by kernel_rfl) ?_
       refine pur_ (i := 4) (N := some 21) gq_5 (by kernel_rfl) ?_
       refine pur_ (i := 5) (N := some 22) gq_6 (by kernel_rfl) ?_
       refine pur_ (i := 6) (N := some 23) gq_7 (by kernel_rfl) ?_
       refine pur_ (i := 7) (N := some 24) gq_8 (by kernel_rfl) ?_
       refine tak_ (i := 8) (N := some 25) gq_9 (by kernel_rfl) hHeld ?_
       refine pur_ (i := 9) (N := some 26) gq_10 (by kernel_rfl) ?_
       refine tak_ (i := 10) (N := some 27) gq_11 (by kernel_rfl) hHeld ?_
       refine pur_ (i := 11) (N := some 28) gq_12 (by kernel_rfl) ?_
       refine pur_ (i := 12) (N := some 29) gq_13 (by kernel_rfl) ?_
       refine pur_ (i := 13) (N := some 30) gq_14 (by kernel_rfl) ?_
       refine pur_ (i := 14) (N := some 31) gq_15 (by kernel_rfl) ?_
       refine tak_ (i := 15) (N := some 32) gq_16 (by kernel_rfl) hHeld ?_
       refine pur_ (i := 16) (N := some 33) gq_17 (by kernel_rfl) ?_
       refine pur_ (i := 17) (N := some 34) gq_18 (by kernel_rfl) ?_
       refine pur_ (i := 18) (N := some 35) gq_19 (by kernel_rfl) ?_
       refine pur_ (i := 19) (N := some 36) gq_20 (by kernel_rfl) ?_
       refine tak_ (i := 20) (N := some 37) gq_21 (by kernel_rfl) hHeld ?_
       refine pur_ (i := 21) (N := some 38) gq_22 (by kernel_rfl) ?_
       refine tak_ (i := 22) (N := some 39) gq_23 (by kernel_rfl) hHeld ?_
       refine pur_ (i := 23) (N := some 40) gq_24 (by kernel_rfl) ?_
       refine tak_ (i := 24) (N := some 41) gq_25 (by kernel_rfl) hHeld ?_
       refine pur_ (i := 25) (N := some 42) gq_26 (by kernel_rfl) ?_
       refine tak_ (i := 26) (N := some 43) gq_27 (by kernel_rfl) hHeld ?_
       refine pur_ (i := 27) (N := some 44) gq_28 (by kernel_rfl) ?_
       refine tak_ (i := 28) (N := some 45) gq_29 (by kernel_rfl) hHeld ?_
       refine pur_ (i := 29) (N := some 46) gq_30 (by kernel_rfl) ?_
       refine one_ (i := 30) (N := some 47) gq_31 rfl rfl (by kernel_rfl) (by decide) (fun K hK => ?_)
       refine goes_ Tryd.func34 (by kernel_rfl) rfl #[.agg #[.string x.f0, .string x.f1, .int .u8 x.f3, .int .i64 x.f4.f0, .int .i64 x.f4.f1, .int .i64 x.f4.f2, .int .i64 x.f4.f3, .slice A7 x.f5.length c7]] (by rfl) rfl rfl (by first | rfl | (simp [Act.eval]; done)) ?_
       refine (bindleref08_Good.calls kg x.f0 x.f1 x.f3 x.f4.f0 x.f4.f1 x.f4.f2 x.f4.f3 A7 c7 x.f5 gd wq (by rw [← hwq]; exact Kd.C_drew (HCA.out _)) hl7' HKG.out).mono ?_
       rintro e w5 ⟨rfl, hb5⟩
       refine ⟨_, rfl, ?_⟩
       refine hK.out _ _ ⟨bkeep hb5 hHeld.1, bkeep hb5 hHeld.2.1, bkeep hb5 hHeld.2.2.1, bkeep hb5 hHeld.2.2.2.1, bkeep hb5 hHeld.2.2.2.2.1, bkeep hb5 hHeld.2.2.2.2.2.1, bkeep hb5 hHeld.2.2.2.2.2.2.1, bkeep hb5 hHeld.2.2.2.2.2.2.2.1, bkeep hb5 hHeld.2.2.2.2.2.2.2.2.1, bkeep hb5 hHeld.2.2.2.2.2.2.2.2.2⟩ (fun hHeld => ?_)
       clear hK K
       refine norm_ (a' := ?_) ?_ ?_
       rotate_left
       ·show Act.put _ (some 47) _ = _
        simp only [Act.put, List.setIfInBounds_toArray, List.set_cons_zero, List.set_cons_succ, i64_w, i32_w]
        rfl
       refine pur_ (i := 31) (N := some 48) gq_32 (by kernel_rfl) ?_
       refine pur_ (i := 32) (N := some 49) gq_33 (by kernel_rfl) ?_
       refine done_ (by kernel_rfl) ?_
       clear hw64
       go_wp2_with (fail)
       go_meet
       exact ⟨!gd, rfl, ⟨mid5_2 (by unfold headOk; rw [← HX.out, HGD.out, decide_eq_false H49.out, show lt (l[n.toNat - 1]'(by have := HNL.out; omega)).f0 x.f0 = true from (prev_lt HY.out HJ.out hls)]; simp) ((show Below wr.heap.size wr wq from by rw [← hwq]; exact below_drew (below_alloc (Below.refl _ _) _)).trans (hb5.mono (by rw [← hwq]; show wr.heap.size ≤ (wr.alloc (.cells #[.string x.f0, .string x.f1, .string x.f2, .int .u8 x.f3, .int .i64 x.f4.f0, .int .i64 x.f4.f1, .int .i64 x.f4.f2, .int .i64 x.f4.f3, .slice A7 x.f5.length c7] 40)).heap.size; rw [World.size_alloc]; omega))) hHeld⟩⟩
   case rest =>
    obtain ⟨b, rfl, HM⟩ := hcut
    obtain ⟨wm, rfl⟩ : ∃ wm : World, wm = wc := ⟨_, rfl⟩
    have HBW := Aside0.mk (HB.out.trans (HM.out.2.1.mono HB.out.size))
    cases b with
    | true =>
     go_wp2
     rw [← hQ.out]
     refine ⟨by rw [goodTree_not n.toNat HNL.out (by rw [nodeOk_head, show headOk l n.toNat HNL.out = false from by have := HM.out.1; simpa using this.symm]; rfl)]; rfl, HBW.out⟩
    | false =>
     obtain ⟨⟨b0, b1, b2, b3⟩, ⟨b4, b5, b6, b7⟩, b8⟩ := HM.out.2.2
     have hhd : headOk l n.toNat HNL.out = true := by have := HM.out.1; simpa using this.symm
     have HHD := Aside0.mk hhd
     clear hhd
     by_cases h48 : x.f3 = 48
     ·have e48 : (x.f3 != 48) = false := by rw [bne_eq_false_iff_eq]; exact h48
      have H48 := Aside0.mk h48
      clear h48
      have hns : (n + 1).toNat ≤ l.length := by omega
      have hnt : (l.take (n + 1).toNat).length = (n + 1).toNat := by rw [List.length_take]; omega
      have hCt : Kd.C k40 wm (some ad) (n + 1).toNat (l.take (n + 1).toNat) := by have := Kd.C_take (Kd.C_below HC.out HBW.out) hns; rw [hnt] at this; exact this
      have hs0 : (0 : Int) ≤ n + 1 := by omega
      have hs1 : n + 1 ≤ (c0 : Int) := by have := HC0.out; omega
      have hs2 : IntKind.i64.wrap (n + 1) = n + 1 := IntWalk.i64_in _ (by omega)
      have HT := Aside0.mk (Kd.C_F k40_heap hCt)
      have HNT := Aside0.mk hnt
      have hBlt : wr.heap.size < wm.heap.size := World.block_lt_of_cell? wm ⟨wr.heap.size, 2, none⟩ b2
      have hRF : ∀ W2, Kd.F k40 W2 (fun k => k < wm.heap.size) (some ad) (n + 1).toNat (l.take (n + 1).toNat) → Calls Tryd.prog 23 #[.slice (some ad) (n + 1).toNat c0, .string x.f2] W2 fun e W' => ∃ x' b A c, (match findF (l.take (n + 1).toNat) x.f2 with | some y => x' = y ∧ b = true | none => x' = z40 ∧ b = false) ∧ e = .returned (.tuple #[.agg (nodeCells x' (.slice A x'.f5.length c)), .bool b]) ∧ x'.f5.length ≤ c ∧ Kd.F (Kd.int .u8) W' (fun k => k < wm.heap.size ∨ W2.heap.size ≤ k) A x'.f5.length x'.f5 ∧ Below W2.heap.size W2 W' := fun W2 hC2 => by
       have h := RefFind_F (fun k => k < wm.heap.size) (some ad) c0 (l.take (n + 1).toNat) x.f2 W2 (by rw [hnt]; exact hC2) (by rw [hnt]; have := HC0.out; omega) (by rw [hnt]; omega)
       rw [hnt] at h
       exact h
      have RFC := Aside0.mk hRF
      have hne1 : ¬ wr.heap.size = wm.heap.size := by omega
      have hne2 : ¬ wm.heap.size = wr.heap.size := by omega
      clear hCt hnt hRF
      go_upto_region 10 with (fail)
      go_cut [5, 6] (fun v5 v6 wx => ∃ g y b A c, v5 = .pointer (some ⟨g, 0, none⟩) ∧ v6 = .bool b ∧ Aside0 (Mid10 l n.toNat wr.heap.size x (.slice A7 x.f5.length c7) g y b A c wm wx))
      case first =>
       go_region_held3 (fun w' => w'.cell? ⟨wr.heap.size, 2, none⟩ = some (.string x.f2)) (go_keep) ((go_at_call 23; refine (RFC.out _ (by first | exact Kd.F_drew HT.out | exact Kd.F_alloc (Kd.F_drew HT.out) _)).mono ?_; rintro e w1 ⟨y, b, A, c, hm, rfl, hlc, hCy, hb⟩; have hs2b : w1.cell? ⟨wr.heap.size, 2, none⟩ = some (.string x.f2) := (by first | exact bkeep hb (show wm.drew.cell? ⟨wr.heap.size, 2, none⟩ = _ from b2) | exact bkeep hb (acell (show wm.drew.cell? ⟨wr.heap.size, 2, none⟩ = _ from b2) _)); have HM1 := Aside0.mk hm; have HLC := Aside0.mk hlc; have HCY := Aside0.mk hCy; have HB1 := Aside0.mk hb; (first | (have hz9 : wm.heap.size < w1.heap.size := lt_of_alloc hb) | skip); obtain ⟨hcb, hfb⟩ := bcell hb; clear hm hlc hCy hb; simp only [nodeCells]))
       ·go_wp2_with (fail)
        go_meet
        exact ⟨_, y, b, A, c, rfl, rfl, ⟨mid10_a HM1.out HM.out.2.2 HB1.out HCY.out h0⟩⟩
       ·go_wp2_with (fail)
        go_meet
        exact ⟨_, y, b, A, c, rfl, rfl, ⟨mid10_b HM1.out HM.out.2.2 HB1.out HCY.out h0 rfl⟩⟩
      case rest =>
       obtain ⟨g, y, b, A, c, rfl, rfl, HM2⟩ := hcut
       have hnd := nodeOk_lead (n := n.toNat) HNL.out HX.out (fun j hj hjn => HR.out.2.2.1 j hj (by omega)) HHD.out H48.out HM2.out.1
       have HND := Aside0.mk hnd
       have HBD := Aside0.mk (HBW.out.trans (HM2.out.2.1.mono HBW.out.size))
       have hno : ∀ b', (b && leadB y x) = b' → nodeOk l n.toNat HNL.out = b' := fun b' h => hnd.trans h
       have HNO := Aside0.mk hno
       clear hnd hno b0 b1 b2 b3 b4 b5 b6 b7 b8
       obtain ⟨⟨c0_, c1_, c2_, c3_⟩, ⟨c4_, c5_, c6_, c7_⟩, c8_⟩ := HM2.out.2.2.1
       obtain ⟨⟨d0, d1, d2, d3⟩, ⟨d4, d5, d6, d7⟩, d8⟩ := HM2.out.2.2.2.1
       cases b with
       | false =>
        go_wp2
        rw [← hQ.out]
        exact ⟨by rw [goodTree_not n.toNat HNL.out (HNO.out _ rfl)]; rfl, HBD.out⟩
       | true =>
        by_cases k3 : y.f3 = 48
        ·have e3 : (y.f3 != 48) = false := by rw [bne_eq_false_iff_eq]; exact k3
         have K3 := Aside0.mk k3
         clear k3
         by_cases k2 : y.f2.toList = y.f0.toList
         ·have e2 : (y.f2.toList != y.f0.toList) = false := by rw [bne_eq_false_iff_eq]; exact k2
          have e2' : (y.f2.toList == y.f0.toList) = true := by rw [beq_iff_eq]; exact k2
          have K2 := Aside0.mk k2
          clear k2
          cases k4 : (y.f4.f0 == x.f4.f0 && (y.f4.f1 == x.f4.f1 && (y.f4.f2 == x.f4.f2 && (y.f4.f3 == x.f4.f3)))) with
          | true =>
           have e4 : (!(y.f4.f0 == x.f4.f0) || (!(y.f4.f1 == x.f4.f1) || (!(y.f4.f2 == x.f4.f2) || !(y.f4.f3 == x.f4.f3)))) = false := by simpa using k4
           have K4 := Aside0.mk k4
           clear k4
           have hsx := Kd.C_string (P := Tryd.prog) (A := A7) (c := c7) Tryd.underlying23 Tryd.underlying5 Tryd.underlying9 (Kd.C_below (Kd.C_below HC7.out HM.out.2.1) HM2.out.2.1)
           have hsy := Kd.C_string (P := Tryd.prog) (A := A) (c := c) Tryd.underlying23 Tryd.underlying5 Tryd.underlying9 HM2.out.2.2.2.2
           by_cases k5 : (strOfNums y.f5).toList = (strOfNums x.f5).toList
           ·have e5 : ((strOfNums y.f5).toList != (strOfNums x.f5).toList) = false := by rw [bne_eq_false_iff_eq]; exact k5
            have e5' : ((strOfNums y.f5).toList == (strOfNums x.f5).toList) = true := by rw [beq_iff_eq]; exact k5
            have K5 := Aside0.mk k5
            clear k5
            have hok : nodeOk l n.toNat HNL.out = true := HNO.out _ (leadB_ok K3.out K2.out K4.out K5.out)
            have hfin : RefRel l W (n + 1) wc := refRel_next HR.out HNL.out HHD.out (by rw [nodeOk_head, Bool.and_eq_true] at hok; exact hok.2) HBD.out
            have HF := Aside0.mk hfin
            clear hok hfin
            go_wp2
            go_roundg (gk - 1)
            case measure => have := HG.out; omega
            case rel => exact ⟨n + 1, by go_num, HF, ⟨by have := HG.out; omega⟩⟩
           ·have e5 : ((strOfNums y.f5).toList != (strOfNums x.f5).toList) = true := by rw [bne_iff_ne]; exact k5
            have e5' : ((strOfNums y.f5).toList == (strOfNums x.f5).toList) = false := by rw [beq_eq_false_iff_ne]; exact k5
            have K5 := Aside0.mk k5
            clear k5
            go_wp2
            rw [← hQ.out]
            exact ⟨by rw [goodTree_not n.toNat HNL.out (HNO.out _ (by unfold leadB; rw [decide_eq_false (fun h => K5.out h.2.2.2.2.2.2)]; rfl))]; rfl, HBD.out⟩
          | false =>
           have e4 : (!(y.f4.f0 == x.f4.f0) || (!(y.f4.f1 == x.f4.f1) || (!(y.f4.f2 == x.f4.f2) || !(y.f4.f3 == x.f4.f3)))) = true := by cases k5 : (!(y.f4.f0 == x.f4.f0) || (!(y.f4.f1 == x.f4.f1) || (!(y.f4.f2 == x.f4.f2) || !(y.f4.f3 == x.f4.f3)))) with | true => rfl | false => (exfalso; revert k4 k5; cases (y.f4.f0 == x.f4.f0) <;> cases (y.f4.f1 == x.f4.f1) <;> cases (y.f4.f2 == x.f4.f2) <;> cases (y.f4.f3 == x.f4.f3) <;> decide)
           have K4 := Aside0.mk k4
           clear k4
           go_wp2
           all_goals (rw [← hQ.out]; exact ⟨by rw [goodTree_not n.toNat HNL.out (HNO.out _ (leadB_4 K4.out))]; rfl, HBD.out⟩)
         ·have e2 : (y.f2.toList != y.f0.toList) = true := by rw [bne_iff_ne]; exact k2
          have e2' : (y.f2.toList == y.f0.toList) = false := by rw [beq_eq_false_iff_ne]; exact k2
          have K2 := Aside0.mk k2
          clear k2
          go_wp2
          rw [← hQ.out]
          exact ⟨by rw [goodTree_not n.toNat HNL.out (HNO.out _ (by unfold leadB; rw [decide_eq_false (fun h => K2.out h.2.1)]; rfl))]; rfl, HBD.out⟩
        ·have e3 : (y.f3 != 48) = true := by rw [bne_iff_ne]; exact k3
         have K3 := Aside0.mk k3
         clear k3
         go_wp2
         rw [← hQ.out]
         exact ⟨by rw [goodTree_not n.toNat HNL.out (HNO.out _ (by unfold leadB; rw [decide_eq_false (fun h => K3.out h.1)]; rfl))]; rfl, HBD.out⟩
     ·have e48 : (x.f3 != 48) = true := by rw [bne_iff_ne]; exact h48
      have H48 := Aside0.mk h48
      clear h48
      cases hle : x.f2.toList.isEmpty with
      | false =>
       go_wp2
       rw [← hQ.out]
       refine ⟨by rw [goodTree_not n.toNat HNL.out (by unfold nodeOk; rw [← HX.out]; unfold ledB; rw [if_neg H48.out, decide_eq_false (show ¬ x.f2.toList = [] from fun e => by rw [e] at hle; cases hle)]; simp)]; rfl, HBW.out⟩
      | true =>
       have hfin : RefRel l W (n + 1) wm := refRel_next HR.out HNL.out HHD.out (by rw [← HX.out]; unfold ledB; rw [if_neg H48.out, decide_eq_true (List.isEmpty_iff.1 hle)]) HBW.out
       go_wp2
       go_roundg (gk - 1)
       case measure => have := HG.out; omega
       case rel => exact ⟨n + 1, by go_num, ⟨hfin⟩, ⟨by have := HG.out; omega⟩⟩
  ·have c1b : decide (n < (l.length : Int)) = false := decide_eq_false hlt
   go_wp2
   rw [← hQ.out]
   refine ⟨?_, HB.out⟩
   rw [goodTree_of (fun i hi => HR.out.2.2.1 i hi (by omega))]
   rw [show decide ((l.length : Int) ≤ 4096) = decide (l.length ≤ 4096) from decide_eq_decide.2 (by omega)]
end Go.Proofs.YtfljbidecljlcaaDoor

namespace Go.Proofs.YtfljbidecljlcaaDoor.Print
open Go.RowKit Go.Proofs.YtfljbidecljlcaaDoor Go.Proofs.YtfljbidecljlcaaDoorW.PrintWords Go.Proofs.YtfljbidecljlcaaDoorW.PrintLast Go.Proofs.YtfljbidecljlcaaDoorW.PrintMore
set_option linter.unusedVariables false
def bindleref08_GoodTree.f (l : List S40) : Option Bool := if nodesZ l = true then some (goodTree l) else none
theorem bindleref08_GoodTree.calls (A0 : Option Addr) (c0 : Nat) (l0 : List S40) (r : Bool) (w : World) (hr0 : Kd.C k40 w A0 l0.length l0) (hc0 : l0.length ≤ c0) (h : bindleref08_GoodTree.f l0 = some r) :
  Calls Tryd.prog 33 #[.slice A0 l0.length c0] w fun e w' => e = .returned (.bool r) ∧ Below w.heap.size w w' := by
 unfold bindleref08_GoodTree.f at h
 split at h
 ·rename_i hc
  simp only [Option.some.injEq] at h
  subst h
  exact RefTree_calls A0 c0 l0 w hr0 hc0 ((nodesZ_iff l0).1 hc)
 ·cases h
end Go.Proofs.YtfljbidecljlcaaDoor.Print

namespace Go.Proofs.YtfljbidecljlcaaDoor.Print
open Go.RowKit Go.Proofs.YtfljbidecljlcaaDoorW.PrintWords Go.Proofs.YtfljbidecljlcaaDoorW.PrintLast Go.Proofs.YtfljbidecljlcaaDoorW.PrintMore
attribute [local go_sem] max2_int min2_int max_two min_two max_three min_three max_four min_four   -- for this text's walks alone
set_option linter.unusedVariables false
set_option linter.unusedSimpArgs false
def bindlelaw10_slight.l0 : Nat → List (S40) → Int → Int → Option (Bool)
 | 0, _, _, _ => none
 | k + 1, x0, x3, x4 => if x4 < (x0.length : Int) then (if (x0.length : Int) > 60 then (some false) else (if 0 ≤ x4 then (if (wrap64 ((wrap64 ((((rd_T40 x0 x4).f0).size : Int) + (((rd_T40 x0 x4).f1).size : Int))) + (((rd_T40 x0 x4).f2).size : Int))) > 5000 then (some false) else (bindlelaw10_slight.l0 k x0 (wrap64 (x3 + (((rd_T40 x0 x4).f5).length : Int))) (wrap64 (x4 + 1)))) else (none))) else (some (decide (x3 ≤ 200000)))
def bindlelaw10_slight.f (k : Nat) (l0 : List (S40)) : Option (Bool) := bindlelaw10_slight.l0 k l0 0 0
set_option maxHeartbeats 8000000 in
set_option maxRecDepth 100000 in
theorem bindlelaw10_slight.calls (k : Nat) (A0 : Option Addr) (c0 : Nat) (l0 : List (S40)) (r : Bool) (w : World) (hr0 : Kd.C k40 w A0 l0.length l0) (hc0 : l0.length ≤ c0) (h : bindlelaw10_slight.f k l0 = some r) :
  Calls Tryd.prog 32 #[.slice A0 l0.length c0] w fun e w' => e = .returned (.bool r) ∧ Drawn0 w w' := by
 have HR0 := A0_ hr0
 have HC0 := A0_ hc0
 clear hr0 hc0
 have H : (bindlelaw10_slight.l0 k l0 0 0) = some r := h
 clear h
 have H' := A0_ H
 clear H
 go_enter Tryd.func32, Tryd.ntmps32
 go_wp2
 repeat (go_quiet (fail); try go_wp2)
 go_loopg [3, 4] k (fun kq v3 v4 w' => ∃ (x3_1 : Int) (x4_1 : Int), v3 = .int .i64 x3_1 ∧ v4 = .int .i64 x4_1 ∧ Aside0 (bindlelaw10_slight.l0 kq l0 x3_1 x4_1 = some r) ∧ Aside0 (kq ≤ k) ∧ Drawn0 w w')
 case atStart => exact ⟨(0), (0), wr_, wr_, H', ⟨Nat.le_refl _⟩, by repeat (first | exact Drawn0.refl _ | apply Drawn0.step)⟩
 case round =>
  clear H'
  obtain ⟨x3_1, x4_1, rfl, rfl, HA, HK1, ⟨m1, rfl⟩⟩ := hrel
  cases gk with
  | zero => exact absurd HA.out (by simp [bindlelaw10_slight.l0])
  | succ k1 =>
   have H := HA.out
   clear HA
   simp only [bindlelaw10_slight.l0] at H
   by_cases c2 : x4_1 < (l0.length : Int)
   rotate_left
   ·rw [if_neg c2] at H
    have c2b0 : decide (x4_1 < (l0.length : Int)) = false := decide_eq_false c2
    clear c2
    obtain rfl := Option.some.inj H
    go_wp2
    repeat (go_quiet (fail); try go_wp2)
    go_ret
    exact ⟨by first | rfl | (simp; done) | (simp [*]; done), by repeat (first | exact Drawn0.refl _ | apply Drawn0.step)⟩
   rw [if_pos c2] at H
   have c2b0 : decide (x4_1 < (l0.length : Int)) = true := decide_eq_true c2
   clear c2
   by_cases c3 : (l0.length : Int) > 60
   ·rw [if_pos c3] at H
    have c3b0 : decide (60 < (l0.length : Int)) = true := decide_eq_true c3
    have c3b1 : decide (60 < l0.length) = true := decide_eq_true (by omega)
    clear c3
    obtain rfl := Option.some.inj H
    go_wp2
    repeat (go_quiet (fail); try go_wp2)
    go_ret
    exact ⟨by first | rfl | (simp; done) | (simp [*]; done), by repeat (first | exact Drawn0.refl _ | apply Drawn0.step)⟩
   rw [if_neg c3] at H
   have c3b0 : decide (60 < (l0.length : Int)) = false := decide_eq_false c3
   have c3b1 : decide (60 < l0.length) = false := decide_eq_false (by omega)
   clear c3
   by_cases c4 : 0 ≤ x4_1
   rotate_left
   ·rw [if_neg c4] at H
    exact absurd H (by simp)
   rw [if_pos c4] at H
   have c4b0 : decide (0 ≤ x4_1) = true := decide_eq_true c4
   clear c4
   by_cases c5 : (wrap64 ((wrap64 ((((rd_T40 l0 x4_1).f0).size : Int) + (((rd_T40 l0 x4_1).f1).size : Int))) + (((rd_T40 l0 x4_1).f2).size : Int))) > 5000
   ·rw [if_pos c5] at H
    have c5b0 : decide (5000 < (wrap64 ((wrap64 ((((rd_T40 l0 x4_1).f0).size : Int) + (((rd_T40 l0 x4_1).f1).size : Int))) + (((rd_T40 l0 x4_1).f2).size : Int)))) = true := decide_eq_true c5
    clear c5
    obtain rfl := Option.some.inj H
    have p418 : 0 ≤ (x4_1 : Int) := wd_
    have q418 : x4_1 < (l0.length : Int) := wd_
    obtain ⟨ad418, A418_8, c418_8, e418, hx418_0, hx418_1, hx418_2, hx418_3, hx418_4, hx418_5, hx418_6, hx418_7, hx418_8, hl418_8, hi418_8⟩ := at_T40 HR0.out x4_1 p418 q418
    cases e418
    have HR418_8 := A0_ hi418_8
    have HC418_8 := A0_ hl418_8
    clear hi418_8 hl418_8
    replace p418 := eq_true p418
    replace q418 := eq_true q418
    have p419 : 0 ≤ (x4_1 : Int) := wd_
    have q419 : x4_1 < (l0.length : Int) := wd_
    obtain ⟨ad419, A419_8, c419_8, e419, hx419_0, hx419_1, hx419_2, hx419_3, hx419_4, hx419_5, hx419_6, hx419_7, hx419_8, hl419_8, hi419_8⟩ := at_T40 HR0.out x4_1 p419 q419
    obtain rfl : ad418 = ad419 := (by injection e419)
    have HR419_8 := A0_ hi419_8
    have HC419_8 := A0_ hl419_8
    clear hi419_8 hl419_8
    replace p419 := eq_true p419
    replace q419 := eq_true q419
    have ea_ := Option.some.inj (hx418_8.symm.trans hx419_8)
    injection ea_ with ea_ en_ ec_
    subst ea_
    subst ec_
    clear en_
    have p420 : 0 ≤ (x4_1 : Int) := wd_
    have q420 : x4_1 < (l0.length : Int) := wd_
    obtain ⟨ad420, A420_8, c420_8, e420, hx420_0, hx420_1, hx420_2, hx420_3, hx420_4, hx420_5, hx420_6, hx420_7, hx420_8, hl420_8, hi420_8⟩ := at_T40 HR0.out x4_1 p420 q420
    obtain rfl : ad418 = ad420 := (by injection e420)
    have HR420_8 := A0_ hi420_8
    have HC420_8 := A0_ hl420_8
    clear hi420_8 hl420_8
    replace p420 := eq_true p420
    replace q420 := eq_true q420
    have ea_ := Option.some.inj (hx418_8.symm.trans hx420_8)
    injection ea_ with ea_ en_ ec_
    subst ea_
    subst ec_
    clear en_
    go_wp2
    repeat (go_quiet (fail); try go_wp2)
    go_ret
    exact ⟨by first | rfl | (simp; done) | (simp [*]; done), by repeat (first | exact Drawn0.refl _ | apply Drawn0.step)⟩
   rw [if_neg c5] at H
   have c5b0 : decide (5000 < (wrap64 ((wrap64 ((((rd_T40 l0 x4_1).f0).size : Int) + (((rd_T40 l0 x4_1).f1).size : Int))) + (((rd_T40 l0 x4_1).f2).size : Int)))) = false := decide_eq_false c5
   clear c5
   have H' := A0_ H
   clear H
   have p418 : 0 ≤ (x4_1 : Int) := wd_
   have q418 : x4_1 < (l0.length : Int) := wd_
   obtain ⟨ad418, A418_8, c418_8, e418, hx418_0, hx418_1, hx418_2, hx418_3, hx418_4, hx418_5, hx418_6, hx418_7, hx418_8, hl418_8, hi418_8⟩ := at_T40 HR0.out x4_1 p418 q418
   cases e418
   have HR418_8 := A0_ hi418_8
   have HC418_8 := A0_ hl418_8
   clear hi418_8 hl418_8
   replace p418 := eq_true p418
   replace q418 := eq_true q418
   have p419 : 0 ≤ (x4_1 : Int) := wd_
   have q419 : x4_1 < (l0.length : Int) := wd_
   obtain ⟨ad419, A419_8, c419_8, e419, hx419_0, hx419_1, hx419_2, hx419_3, hx419_4, hx419_5, hx419_6, hx419_7, hx419_8, hl419_8, hi419_8⟩ := at_T40 HR0.out x4_1 p419 q419
   obtain rfl : ad418 = ad419 := (by injection e419)
   have HR419_8 := A0_ hi419_8
   have HC419_8 := A0_ hl419_8
   clear hi419_8 hl419_8
   replace p419 := eq_true p419
   replace q419 := eq_true q419
   have ea_ := Option.some.inj (hx418_8.symm.trans hx419_8)
   injection ea_ with ea_ en_ ec_
   subst ea_
   subst ec_
   clear en_
   have p420 : 0 ≤ (x4_1 : Int) := wd_
   have q420 : x4_1 < (l0.length : Int) := wd_
   obtain ⟨ad420, A420_8, c420_8, e420, hx420_0, hx420_1, hx420_2, hx420_3, hx420_4, hx420_5, hx420_6, hx420_7, hx420_8, hl420_8, hi420_8⟩ := at_T40 HR0.out x4_1 p420 q420
   obtain rfl : ad418 = ad420 := (by injection e420)
   have HR420_8 := A0_ hi420_8
   have HC420_8 := A0_ hl420_8
   clear hi420_8 hl420_8
   replace p420 := eq_true p420
   replace q420 := eq_true q420
   have ea_ := Option.some.inj (hx418_8.symm.trans hx420_8)
   injection ea_ with ea_ en_ ec_
   subst ea_
   subst ec_
   clear en_
   have p421 : 0 ≤ (x4_1 : Int) := wd_
   have q421 : x4_1 < (l0.length : Int) := wd_
   obtain ⟨ad421, A421_8, c421_8, e421, hx421_0, hx421_1, hx421_2, hx421_3, hx421_4, hx421_5, hx421_6, hx421_7, hx421_8, hl421_8, hi421_8⟩ := at_T40 HR0.out x4_1 p421 q421
   obtain rfl : ad418 = ad421 := (by injection e421)
   have HR421_8 := A0_ hi421_8
   have HC421_8 := A0_ hl421_8
   clear hi421_8 hl421_8
   replace p421 := eq_true p421
   replace q421 := eq_true q421
   have ea_ := Option.some.inj (hx418_8.symm.trans hx421_8)
   injection ea_ with ea_ en_ ec_
   subst ea_
   subst ec_
   clear en_
   go_wp2
   repeat (go_quiet (fail); try go_wp2)
   go_roundg k1
   case measure => have := HK1.out; omega
   case rel => exact ⟨(wrap64 (x3_1 + (((rd_T40 l0 x4_1).f5).length : Int))), (wrap64 (x4_1 + 1)), wr_, wr_, H', ⟨by have := HK1.out; omega⟩, by repeat (first | exact Drawn0.refl _ | apply Drawn0.step)⟩
end Go.Proofs.YtfljbidecljlcaaDoor.Print

namespace Go.Proofs.YtfljbidecljlcaaDoor.Print
open Go.RowKit Go.Proofs.YtfljbidecljlcaaDoorW.PrintWords Go.Proofs.YtfljbidecljlcaaDoorW.PrintLast Go.Proofs.YtfljbidecljlcaaDoorW.PrintMore
attribute [local go_sem] max2_int min2_int max_two min_two max_three min_three max_four min_four   -- for this text's walks alone
set_option linter.unusedVariables false
set_option linter.unusedSimpArgs false
end Go.Proofs.YtfljbidecljlcaaDoor.Print

namespace Go.Proofs.YtfljbidecljlcaaDoor
open Go.RowKit Go.Proofs.YtfljbidecljlcaaDoor.Print Go.Proofs.YtfljbidecljlcaaDoorW.PrintWords
set_option linter.unusedVariables false
theorem w2sum {a b c : Nat} (ha : a ≤ 140737488351232) (hb : b ≤ 140737488351232) (hc : c ≤ 140737488351232) : wrap64 (wrap64 ((a : Int) + (b : Int)) + (c : Int)) = ((a + b + c : Nat) : Int) := by
 rw [show wrap64 ((a : Int) + (b : Int)) = ((a + b : Nat) : Int) by unfold wrap64; omega]
 unfold wrap64; omega
def SlightN (l : List Node) : Prop := l.length ≤ 60 ∧ ∀ x ∈ l, x.f0.size + x.f1.size + x.f2.size ≤ 5000
theorem slight_l (l : List Node) (hz : ∀ x ∈ l, NodeZ x) (hlen : l.length ≤ 140737488351232) : ∀ (d i : Nat) (s : Int), i + d = l.length → (∀ (j : Nat) (hj : j < l.length), j < i → l.length ≤ 60 ∧ l[j].f0.size + l[j].f1.size + l[j].f2.size ≤ 5000) → ∃ b, Ev (fun k => bindlelaw10_slight.l0 k l s (i : Int)) b ∧ (b = true → SlightN l) := by
 intro d
 induction d with
 | zero =>
  intro i s hi hp
  refine ⟨decide (s ≤ 200000), Ev.step (f := fun _ => some (decide (s ≤ 200000))) (fun k => by rw [bindlelaw10_slight.l0, if_neg (by omega)]) (Ev.now _), fun _ => ⟨?_, fun x hx => ?_⟩⟩
  ·rcases Nat.eq_zero_or_pos l.length with h | h
   ·omega
   ·exact (hp 0 h (by omega)).1
  ·obtain ⟨j, hj, rfl⟩ := List.getElem_of_mem hx
   exact (hp j hj (by omega)).2
 | succ d ih =>
  intro i s hi hp
  have hil : i < l.length := by omega
  have hx := hz l[i] (List.getElem_mem hil)
  have hr : rd_T40 l (i : Int) = l[i] := by rw [rdN_at l i (by omega) (by omega)]; simp
  by_cases h60 : (l.length : Int) > 60
  ·exact ⟨false, Ev.step (f := fun _ => some false) (fun k => by rw [bindlelaw10_slight.l0, if_pos (by omega), if_pos h60]) (Ev.now _), fun h => by cases h⟩
  ·by_cases h5 : l[i].f0.size + l[i].f1.size + l[i].f2.size ≤ 5000
   ·obtain ⟨b, h1, h2⟩ := ih (i + 1) (wrap64 (s + (l[i].f5.length : Int))) (by omega) (fun j hj hji => by
     rcases Nat.lt_or_ge j i with h | h
     ·exact hp j hj h
     ·obtain rfl : j = i := by omega
      exact ⟨by omega, h5⟩)
    refine ⟨b, Ev.step (fun k => ?_) h1, h2⟩
    rw [bindlelaw10_slight.l0, if_pos (by omega), if_neg h60, if_pos (by omega), hr, w2sum hx.1 hx.2.1 hx.2.2.1, if_neg (by omega)]
    rw [show wrap64 ((i : Int) + 1) = ((i + 1 : Nat) : Int) by unfold wrap64; omega]
   ·refine ⟨false, Ev.step (f := fun _ => some false) (fun k => ?_) (Ev.now _), fun h => by cases h⟩
    rw [bindlelaw10_slight.l0, if_pos (by omega), if_neg h60, if_pos (by omega), hr, w2sum hx.1 hx.2.1 hx.2.2.1, if_pos (by omega)]
theorem slight_eq (l : List Node) (hz : ∀ x ∈ l, NodeZ x) (hlen : l.length ≤ 140737488351232) : ∃ b, Ev (fun k => bindlelaw10_slight.f k l) b ∧ (b = true → SlightN l) := slight_l l hz hlen l.length 0 0 (by omega) (fun j hj h => absurd h (Nat.not_lt_zero _))
theorem slight_Z {l : List Node} (hz : ∀ x ∈ l, NodeZ x) (h : SlightN l) : nodesZ l = true ∧ nodesG l = true := by
 have h1 : NodesZ l := ⟨by have := h.1; omega, hz⟩
 exact ⟨(nodesZ_iff l).2 h1, (nodesG_iff l).2 ⟨h1, fun x hx => by have := h.2 x hx; omega⟩⟩
end Go.Proofs.YtfljbidecljlcaaDoor
