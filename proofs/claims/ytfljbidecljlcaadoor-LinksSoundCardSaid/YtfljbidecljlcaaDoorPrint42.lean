-- PRINTED by wip/hprint.py, this project's driver over the kit's print (hand contracts beside it). Not trusted: Lean checks it.
import Derived.Test.YtfljbidecljlcaaDoorPrint0
import Derived.Test.YtfljbidecljlcaaDoorPrint38
import Derived.Test.YtfljbidecljlcaaDoorPrint40
import Derived.Test.YtfljbidecljlcaaDoorPrint41
namespace Go.Proofs.YtfljbidecljlcaaDoor.Print
open Go.RowKit Go.Proofs.YtfljbidecljlcaaDoorW.PrintWords Go.Proofs.YtfljbidecljlcaaDoorW.PrintLast Go.Proofs.YtfljbidecljlcaaDoorW.PrintMore
attribute [local go_sem] max2_int min2_int max_two min_two max_three min_three max_four min_four   -- for this text's walks alone
set_option linter.unusedVariables false
set_option linter.unusedSimpArgs false

/-! ### member_Good: function 43 -/
mutual
def member_Good.j0 : Nat → Bool → ByteArray → ByteArray → Int → Int → Int → Int → Int → List Int → Option (Bool)
  | 0, _, _, _, _, _, _, _, _, _ => none
  | k + 1, x29, x500000, x500001, x500002, x500003, x500004, x500005, x500006, x500007 => if x29 = true then (some false) else (if x500002 = 48 then (member_Good.j1 k x500002 (x500002 == 48) x500000 x500001 x500002 x500003 x500004 x500005 x500006 x500007) else (member_Good.j1 k x500002 (x500002 == 53) x500000 x500001 x500002 x500003 x500004 x500005 x500006 x500007))
def member_Good.j1 : Nat → Int → Bool → ByteArray → ByteArray → Int → Int → Int → Int → Int → List Int → Option (Bool)
  | 0, _, _, _, _, _, _, _, _, _, _ => none
  | k + 1, x31, x32, x500000, x500001, x500002, x500003, x500004, x500005, x500006, x500007 => if x32 = true then (some (x500001.toList == ([] : List UInt8))) else (if x31 = 49 then ((member_clean.f x500001).bind fun t502 => (some t502)) else (if x31 = 50 then ((path_Target.f x500001).bind fun t503 => (some (t503 == 0))) else (some false)))
end
def member_Good.f (k : Nat) (a0_0 : ByteArray) (a0_1 : ByteArray) (a0_2 : Int) (a0_3 : Int) (a0_4 : Int) (a0_5 : Int) (a0_6 : Int) (l0_7 : List Int) : Option (Bool) := (member_clean.f a0_0).bind fun t500 => (if t500 = true then ((member_meta.f a0_3 a0_4 a0_5 a0_6).bind fun t501 => (if t501 = true then (if (l0_7.length : Int) > 1048576 then (member_Good.j0 k true a0_0 a0_1 a0_2 a0_3 a0_4 a0_5 a0_6 l0_7) else (if a0_2 = 48 then (member_Good.j0 k false a0_0 a0_1 a0_2 a0_3 a0_4 a0_5 a0_6 l0_7) else (member_Good.j0 k (decide ((l0_7.length : Int) > 0)) a0_0 a0_1 a0_2 a0_3 a0_4 a0_5 a0_6 l0_7))) else (member_Good.j0 k true a0_0 a0_1 a0_2 a0_3 a0_4 a0_5 a0_6 l0_7))) else (member_Good.j0 k true a0_0 a0_1 a0_2 a0_3 a0_4 a0_5 a0_6 l0_7))
theorem member_Good.mono_l : ∀ k, (∀ y0 y1 y2 y3 y4 y5 y6 y7 y8, LeO (member_Good.j0 k y0 y1 y2 y3 y4 y5 y6 y7 y8) (member_Good.j0 (k + 1) y0 y1 y2 y3 y4 y5 y6 y7 y8)) ∧ (∀ y0 y1 y2 y3 y4 y5 y6 y7 y8 y9, LeO (member_Good.j1 k y0 y1 y2 y3 y4 y5 y6 y7 y8 y9) (member_Good.j1 (k + 1) y0 y1 y2 y3 y4 y5 y6 y7 y8 y9))
  | 0 => ⟨fun _ _ _ _ _ _ _ _ _ r h => by simp [member_Good.j0] at h, fun _ _ _ _ _ _ _ _ _ _ r h => by simp [member_Good.j1] at h⟩
  | k + 1 => by
    obtain ⟨ih0, ih1⟩ := member_Good.mono_l k
    refine ⟨?_, ?_⟩
    · intro y0 y1 y2 y3 y4 y5 y6 y7 y8
      unfold member_Good.j0
      repeat' first
      | (with_reducible exact ih0 _ _ _ _ _ _ _ _ _)
      | (with_reducible exact ih1 _ _ _ _ _ _ _ _ _ _)
      | (with_reducible exact LeO.refl _)
      | (with_reducible exact LeO.none _)
      | (with_reducible refine LeO.ite ?_ ?_)
      | (with_reducible refine LeO.bind ?_ (fun _ => ?_))
      | exact ih0 _ _ _ _ _ _ _ _ _
      | exact ih1 _ _ _ _ _ _ _ _ _ _
      | exact LeO.none _
      | refine LeO.ite ?_ ?_
      | refine LeO.bind ?_ (fun _ => ?_)
    · intro y0 y1 y2 y3 y4 y5 y6 y7 y8 y9
      unfold member_Good.j1
      repeat' first
      | (with_reducible exact ih0 _ _ _ _ _ _ _ _ _)
      | (with_reducible exact ih1 _ _ _ _ _ _ _ _ _ _)
      | (with_reducible exact LeO.refl _)
      | (with_reducible exact LeO.none _)
      | (with_reducible refine LeO.ite ?_ ?_)
      | (with_reducible refine LeO.bind ?_ (fun _ => ?_))
      | exact ih0 _ _ _ _ _ _ _ _ _
      | exact ih1 _ _ _ _ _ _ _ _ _ _
      | exact LeO.none _
      | refine LeO.ite ?_ ?_
      | refine LeO.bind ?_ (fun _ => ?_)
theorem member_Good.mono : ∀ a0 a1 a2 a3 a4 a5 a6 a7 k, LeO (member_Good.f k a0 a1 a2 a3 a4 a5 a6 a7) (member_Good.f (k + 1) a0 a1 a2 a3 a4 a5 a6 a7) := by
  intro a0 a1 a2 a3 a4 a5 a6 a7 k
  obtain ⟨ih0, ih1⟩ := member_Good.mono_l k
  unfold member_Good.f
  repeat' first
      | (with_reducible exact ih0 _ _ _ _ _ _ _ _ _)
      | (with_reducible exact ih1 _ _ _ _ _ _ _ _ _ _)
      | (with_reducible exact LeO.refl _)
      | (with_reducible exact LeO.none _)
      | (with_reducible refine LeO.ite ?_ ?_)
      | (with_reducible refine LeO.bind ?_ (fun _ => ?_))
      | exact ih0 _ _ _ _ _ _ _ _ _
      | exact ih1 _ _ _ _ _ _ _ _ _ _
      | exact LeO.none _
      | refine LeO.ite ?_ ?_
      | refine LeO.bind ?_ (fun _ => ?_)
set_option maxHeartbeats 8000000 in
set_option maxRecDepth 100000 in
theorem member_Good.calls (k : Nat) (a0_0 : ByteArray) (a0_1 : ByteArray) (a0_2 : Int) (a0_3 : Int) (a0_4 : Int) (a0_5 : Int) (a0_6 : Int) (A0_7 : Option Addr) (c0_7 : Nat) (l0_7 : List Int) (r : Bool) (w : World) (hT : Aside0 (Tabs w)) (hr0_7 : Kd.C (Kd.int .u8) w A0_7 l0_7.length l0_7) (hc0_7 : l0_7.length ≤ c0_7) (h : member_Good.f k a0_0 a0_1 a0_2 a0_3 a0_4 a0_5 a0_6 l0_7 = some r) :
    Calls Tryd.prog 43 #[.agg #[.string a0_0, .string a0_1, .int .u8 a0_2, .int .i64 a0_3, .int .i64 a0_4, .int .i64 a0_5, .int .i64 a0_6, .slice A0_7 l0_7.length c0_7]] w fun e w' => e = .returned (.bool r) ∧ Below w.heap.size w w' := by
  have hu45 := Tryd.underlying45
  have hu38 := Tryd.underlying38
  have HR0_7 := Aside0.mk hr0_7
  have HC0_7 := Aside0.mk hc0_7
  clear hr0_7 hc0_7
  have HB := Aside0.mk (Below.refl w.heap.size w)
  have H : ((member_clean.f a0_0).bind fun t500 => (if t500 = true then ((member_meta.f a0_3 a0_4 a0_5 a0_6).bind fun t501 => (if t501 = true then (if (l0_7.length : Int) > 1048576 then (member_Good.j0 k true a0_0 a0_1 a0_2 a0_3 a0_4 a0_5 a0_6 l0_7) else (if a0_2 = 48 then (member_Good.j0 k false a0_0 a0_1 a0_2 a0_3 a0_4 a0_5 a0_6 l0_7) else (member_Good.j0 k (decide ((l0_7.length : Int) > 0)) a0_0 a0_1 a0_2 a0_3 a0_4 a0_5 a0_6 l0_7))) else (member_Good.j0 k true a0_0 a0_1 a0_2 a0_3 a0_4 a0_5 a0_6 l0_7))) else (member_Good.j0 k true a0_0 a0_1 a0_2 a0_3 a0_4 a0_5 a0_6 l0_7))) = some r := h
  clear h
  have HC2 := Aside0.mk H
  clear H
  go_enter Tryd.func43, Tryd.ntmps43
  go_upto_region 1 with (first | ((with_reducible refine gate_dst (N := 1) rfl ?_); (try (refine gate_guard (by rfl) ?_; dsimp only)); refine box_event ?hg (N := 1) ?hd (cs := #[.string a0_0, .string a0_1, .int .u8 a0_2, .int .i64 a0_3, .int .i64 a0_4, .int .i64 a0_5, .int .i64 a0_6, .slice A0_7 l0_7.length c0_7]) (t := 45) ?hr ?_; (case hd => rfl); (case hg => rfl); (case hr => first | (go_simp; done) | (go_simp; rfl)); intro gb499 hg w3 hbox hb; have n0_ := Aside0.mk (below_step (by repeat (first | (with_reducible first | exact HB.out | apply below_alloc | apply pw_below_drewN | apply below_drew1) | exact HB.out)) hb); have n1_ := Aside0.mk (hbox); have n2_ := Aside0.mk ((by rw [hg]; exact (below_size (by repeat (first | (with_reducible first | exact HB.out | apply below_alloc | apply pw_below_drewN | apply below_drew1) | exact HB.out))) : w.heap.size ≤ gb499)); have n3_ := Aside0.mk ((by rw [hg]; exact (below_size (by repeat (first | (with_reducible first | exact HB.out | apply below_alloc | apply pw_below_drewN | apply below_drew1) | exact HB.out))) : w.heap.size ≤ gb499)); clear HB; have HB := n0_; have BK499 := n1_; have GW499 := n2_; have GE499 := n3_; clear n0_ n1_ n2_ n3_; clear hb hbox hg))
  (try simp only [Act.put, List.setIfInBounds_toArray, List.set_cons_zero, List.set_cons_succ])
  go_cut [29] (fun v29 wc => ∃ (kq : Nat) (x29_1 : Bool), v29 = .bool x29_1 ∧ Aside0 (member_Good.j0 kq x29_1 a0_0 a0_1 a0_2 a0_3 a0_4 a0_5 a0_6 l0_7 = some r) ∧ Aside0 (kq ≤ k) ∧ Aside0 (wc.heap[gb499]? = some (.cells #[.string a0_0, .string a0_1, .int .u8 a0_2, .int .i64 a0_3, .int .i64 a0_4, .int .i64 a0_5, .int .i64 a0_6, (.slice A0_7 l0_7.length c0_7)] 45 (0, 0))) ∧ Aside0 (Below w.heap.size w wc))
  case first =>
    have H := HC2.out
    clear HC2
    replace H := Option.bind_eq_some_iff.mp H
    obtain ⟨t500, A40, H⟩ := H
    replace H : (if t500 = true then ((member_meta.f a0_3 a0_4 a0_5 a0_6).bind fun t501 => (if t501 = true then (if (l0_7.length : Int) > 1048576 then (member_Good.j0 k true a0_0 a0_1 a0_2 a0_3 a0_4 a0_5 a0_6 l0_7) else (if a0_2 = 48 then (member_Good.j0 k false a0_0 a0_1 a0_2 a0_3 a0_4 a0_5 a0_6 l0_7) else (member_Good.j0 k (decide ((l0_7.length : Int) > 0)) a0_0 a0_1 a0_2 a0_3 a0_4 a0_5 a0_6 l0_7))) else (member_Good.j0 k true a0_0 a0_1 a0_2 a0_3 a0_4 a0_5 a0_6 l0_7))) else (member_Good.j0 k true a0_0 a0_1 a0_2 a0_3 a0_4 a0_5 a0_6 l0_7)) = some r := H
    have A4 := Aside0.mk A40
    clear A40
    by_cases c5 : t500 = true
    · subst c5
      have H1 : ((member_meta.f a0_3 a0_4 a0_5 a0_6).bind fun t501 => (if t501 = true then (if (l0_7.length : Int) > 1048576 then (member_Good.j0 k true a0_0 a0_1 a0_2 a0_3 a0_4 a0_5 a0_6 l0_7) else (if a0_2 = 48 then (member_Good.j0 k false a0_0 a0_1 a0_2 a0_3 a0_4 a0_5 a0_6 l0_7) else (member_Good.j0 k (decide ((l0_7.length : Int) > 0)) a0_0 a0_1 a0_2 a0_3 a0_4 a0_5 a0_6 l0_7))) else (member_Good.j0 k true a0_0 a0_1 a0_2 a0_3 a0_4 a0_5 a0_6 l0_7))) = some r := by rw [if_pos rfl] at H; exact H
      clear H
      have H := H1
      clear H1
      replace H := Option.bind_eq_some_iff.mp H
      obtain ⟨t501, A60, H⟩ := H
      replace H : (if t501 = true then (if (l0_7.length : Int) > 1048576 then (member_Good.j0 k true a0_0 a0_1 a0_2 a0_3 a0_4 a0_5 a0_6 l0_7) else (if a0_2 = 48 then (member_Good.j0 k false a0_0 a0_1 a0_2 a0_3 a0_4 a0_5 a0_6 l0_7) else (member_Good.j0 k (decide ((l0_7.length : Int) > 0)) a0_0 a0_1 a0_2 a0_3 a0_4 a0_5 a0_6 l0_7))) else (member_Good.j0 k true a0_0 a0_1 a0_2 a0_3 a0_4 a0_5 a0_6 l0_7)) = some r := H
      have A6 := Aside0.mk A60
      clear A60
      by_cases c7 : t501 = true
      · subst c7
        have H1 : (if (l0_7.length : Int) > 1048576 then (member_Good.j0 k true a0_0 a0_1 a0_2 a0_3 a0_4 a0_5 a0_6 l0_7) else (if a0_2 = 48 then (member_Good.j0 k false a0_0 a0_1 a0_2 a0_3 a0_4 a0_5 a0_6 l0_7) else (member_Good.j0 k (decide ((l0_7.length : Int) > 0)) a0_0 a0_1 a0_2 a0_3 a0_4 a0_5 a0_6 l0_7))) = some r := by rw [if_pos rfl] at H; exact H
        clear H
        have H := H1
        clear H1
        by_cases c8 : (l0_7.length : Int) > 1048576
        · rw [if_pos c8] at H
          have c8b0 : decide (1048576 < (l0_7.length : Int)) = true := decide_eq_true c8
          have c8b1 : decide (1048576 < l0_7.length) = true := decide_eq_true (by omega)
          clear c8
          (first | rw [c8b0] | (simp only [i64_w, i32_w]; rw [c8b0]) | skip)
          have H' := Aside0.mk H
          clear H
          have hcz9_0 : w3.cell? ⟨gb499, 0, none⟩ = some (.string a0_0) := (blk_cell BK499.out 0).trans rfl
          have hcz9_1 : w3.cell? ⟨gb499, 1, none⟩ = some (.string a0_1) := (blk_cell BK499.out 1).trans rfl
          have hcz9_2 : w3.cell? ⟨gb499, 2, none⟩ = some (.int .u8 a0_2) := (blk_cell BK499.out 2).trans rfl
          have hcz9_3 : w3.cell? ⟨gb499, 3, none⟩ = some (.int .i64 a0_3) := (blk_cell BK499.out 3).trans rfl
          have hcz9_4 : w3.cell? ⟨gb499, 4, none⟩ = some (.int .i64 a0_4) := (blk_cell BK499.out 4).trans rfl
          have hcz9_5 : w3.cell? ⟨gb499, 5, none⟩ = some (.int .i64 a0_5) := (blk_cell BK499.out 5).trans rfl
          have hcz9_6 : w3.cell? ⟨gb499, 6, none⟩ = some (.int .i64 a0_6) := (blk_cell BK499.out 6).trans rfl
          have hcz9_7 : w3.cell? ⟨gb499, 7, none⟩ = some (.slice A0_7 l0_7.length c0_7) := (blk_cell BK499.out 7).trans rfl
          have hfz9_0 := blk_frozen BK499.out 0
          have hfz9_1 := blk_frozen BK499.out 1
          have hfz9_2 := blk_frozen BK499.out 2
          have hfz9_3 := blk_frozen BK499.out 3
          have hfz9_4 := blk_frozen BK499.out 4
          have hfz9_5 := blk_frozen BK499.out 5
          have hfz9_6 := blk_frozen BK499.out 6
          have hfz9_7 := blk_frozen BK499.out 7
          go_wp2_with (first | ((with_reducible refine gate_callee (f := 63) rfl ?_); refine goesL_ (some 5) rfl rfl Tryd.func63 (by kernel_rfl) rfl #[.string a0_0] rfl (by (try simp only [List.map_toArray, List.map_cons, List.map_nil]); first | done | rfl | (simp only [List.length_drop, List.length_take]; rfl)) ?_; (with_reducible refine (member_clean.calls a0_0 true _ ?side1 A4.out).mono ?_); (case side1 => exact Aside0.mk (Tabs.below hT.out (by repeat (first | (with_reducible first | exact HB.out | apply below_alloc | apply pw_below_drewN | apply below_drew1 | refine below_set ?_ GE499.out) | exact HB.out)))); rintro e w10 ⟨rfl, hb⟩; refine ⟨_, rfl, ?_⟩; have n0_ := Aside0.mk (blk_below (g := gb499) (o := .cells #[.string a0_0, .string a0_1, .int .u8 a0_2, .int .i64 a0_3, .int .i64 a0_4, .int .i64 a0_5, .int .i64 a0_6, .slice A0_7 l0_7.length c0_7] 45 (0, 0)) (by (with_reducible repeat (first | refine blk_drewN ?_ _ | refine blk_drew ?_ | refine blk_alloc ?_ _)); exact BK499.out) hb); have n1_ := Aside0.mk (below_step (by repeat (first | (with_reducible first | exact HB.out | apply below_alloc | apply pw_below_drewN | apply below_drew1 | refine below_set ?_ GE499.out) | exact HB.out)) hb); clear BK499; clear HB; have BK499 := n0_; have HB := n1_; clear n0_ n1_; (try clear hb); (try clear hb2); (try clear hk); (try clear hi); have hcz11_0 : w10.cell? ⟨gb499, 0, none⟩ = some (.string a0_0) := (blk_cell BK499.out 0).trans rfl; have hcz11_1 : w10.cell? ⟨gb499, 1, none⟩ = some (.string a0_1) := (blk_cell BK499.out 1).trans rfl; have hcz11_2 : w10.cell? ⟨gb499, 2, none⟩ = some (.int .u8 a0_2) := (blk_cell BK499.out 2).trans rfl; have hcz11_3 : w10.cell? ⟨gb499, 3, none⟩ = some (.int .i64 a0_3) := (blk_cell BK499.out 3).trans rfl; have hcz11_4 : w10.cell? ⟨gb499, 4, none⟩ = some (.int .i64 a0_4) := (blk_cell BK499.out 4).trans rfl; have hcz11_5 : w10.cell? ⟨gb499, 5, none⟩ = some (.int .i64 a0_5) := (blk_cell BK499.out 5).trans rfl; have hcz11_6 : w10.cell? ⟨gb499, 6, none⟩ = some (.int .i64 a0_6) := (blk_cell BK499.out 6).trans rfl; have hcz11_7 : w10.cell? ⟨gb499, 7, none⟩ = some (.slice A0_7 l0_7.length c0_7) := (blk_cell BK499.out 7).trans rfl; have hfz11_0 := blk_frozen BK499.out 0; have hfz11_1 := blk_frozen BK499.out 1; have hfz11_2 := blk_frozen BK499.out 2; have hfz11_3 := blk_frozen BK499.out 3; have hfz11_4 := blk_frozen BK499.out 4; have hfz11_5 := blk_frozen BK499.out 5; have hfz11_6 := blk_frozen BK499.out 6; have hfz11_7 := blk_frozen BK499.out 7) | (go_at_call 64; (with_reducible refine (member_meta.calls a0_3 a0_4 a0_5 a0_6 true _ A6.out).mono ?_); rintro e w12 ⟨rfl, hb⟩; have n0_ := Aside0.mk (blk_below (g := gb499) (o := .cells #[.string a0_0, .string a0_1, .int .u8 a0_2, .int .i64 a0_3, .int .i64 a0_4, .int .i64 a0_5, .int .i64 a0_6, .slice A0_7 l0_7.length c0_7] 45 (0, 0)) (by (with_reducible repeat (first | refine blk_drewN ?_ _ | refine blk_drew ?_ | refine blk_alloc ?_ _)); exact BK499.out) hb); have n1_ := Aside0.mk (below_step (by repeat (first | (with_reducible first | exact HB.out | apply below_alloc | apply pw_below_drewN | apply below_drew1 | refine below_set ?_ GE499.out) | exact HB.out)) hb); clear BK499; clear HB; have BK499 := n0_; have HB := n1_; clear n0_ n1_; (try clear hb); (try clear hb2); (try clear hk); (try clear hi); have hcz13_0 : w12.cell? ⟨gb499, 0, none⟩ = some (.string a0_0) := (blk_cell BK499.out 0).trans rfl; have hcz13_1 : w12.cell? ⟨gb499, 1, none⟩ = some (.string a0_1) := (blk_cell BK499.out 1).trans rfl; have hcz13_2 : w12.cell? ⟨gb499, 2, none⟩ = some (.int .u8 a0_2) := (blk_cell BK499.out 2).trans rfl; have hcz13_3 : w12.cell? ⟨gb499, 3, none⟩ = some (.int .i64 a0_3) := (blk_cell BK499.out 3).trans rfl; have hcz13_4 : w12.cell? ⟨gb499, 4, none⟩ = some (.int .i64 a0_4) := (blk_cell BK499.out 4).trans rfl; have hcz13_5 : w12.cell? ⟨gb499, 5, none⟩ = some (.int .i64 a0_5) := (blk_cell BK499.out 5).trans rfl; have hcz13_6 : w12.cell? ⟨gb499, 6, none⟩ = some (.int .i64 a0_6) := (blk_cell BK499.out 6).trans rfl; have hcz13_7 : w12.cell? ⟨gb499, 7, none⟩ = some (.slice A0_7 l0_7.length c0_7) := (blk_cell BK499.out 7).trans rfl; have hfz13_0 := blk_frozen BK499.out 0; have hfz13_1 := blk_frozen BK499.out 1; have hfz13_2 := blk_frozen BK499.out 2; have hfz13_3 := blk_frozen BK499.out 3; have hfz13_4 := blk_frozen BK499.out 4; have hfz13_5 := blk_frozen BK499.out 5; have hfz13_6 := blk_frozen BK499.out 6; have hfz13_7 := blk_frozen BK499.out 7))
          go_meet
          case rel => exact ⟨_, (true), (by first | rfl | (simp; done) | (simp [*]; done)), H', ⟨by first | omega | exact Nat.le_refl _⟩, ⟨by (with_reducible repeat (first | refine blk_drewN ?_ _ | refine blk_drew ?_ | refine blk_alloc ?_ _)); exact BK499.out⟩, ⟨by repeat (first | (with_reducible first | exact HB.out | apply below_alloc | apply pw_below_drewN | apply below_drew1 | refine below_set ?_ GE499.out) | exact HB.out)⟩⟩
        · rw [if_neg c8] at H
          have c8b0 : decide (1048576 < (l0_7.length : Int)) = false := decide_eq_false c8
          have c8b1 : decide (1048576 < l0_7.length) = false := decide_eq_false (by omega)
          clear c8
          (first | rw [c8b0] | (simp only [i64_w, i32_w]; rw [c8b0]) | skip)
          by_cases c14 : a0_2 = 48
          · rw [if_pos c14] at H
            have c14b0 : (a0_2 == 48) = true := beq_iff_eq.mpr c14
            have c14b1 : (a0_2 != 48) = false := bne_eq_false_iff_eq.mpr c14
            clear c14
            have H' := Aside0.mk H
            clear H
            have hcz15_0 : w3.cell? ⟨gb499, 0, none⟩ = some (.string a0_0) := (blk_cell BK499.out 0).trans rfl
            have hcz15_1 : w3.cell? ⟨gb499, 1, none⟩ = some (.string a0_1) := (blk_cell BK499.out 1).trans rfl
            have hcz15_2 : w3.cell? ⟨gb499, 2, none⟩ = some (.int .u8 a0_2) := (blk_cell BK499.out 2).trans rfl
            have hcz15_3 : w3.cell? ⟨gb499, 3, none⟩ = some (.int .i64 a0_3) := (blk_cell BK499.out 3).trans rfl
            have hcz15_4 : w3.cell? ⟨gb499, 4, none⟩ = some (.int .i64 a0_4) := (blk_cell BK499.out 4).trans rfl
            have hcz15_5 : w3.cell? ⟨gb499, 5, none⟩ = some (.int .i64 a0_5) := (blk_cell BK499.out 5).trans rfl
            have hcz15_6 : w3.cell? ⟨gb499, 6, none⟩ = some (.int .i64 a0_6) := (blk_cell BK499.out 6).trans rfl
            have hcz15_7 : w3.cell? ⟨gb499, 7, none⟩ = some (.slice A0_7 l0_7.length c0_7) := (blk_cell BK499.out 7).trans rfl
            have hfz15_0 := blk_frozen BK499.out 0
            have hfz15_1 := blk_frozen BK499.out 1
            have hfz15_2 := blk_frozen BK499.out 2
            have hfz15_3 := blk_frozen BK499.out 3
            have hfz15_4 := blk_frozen BK499.out 4
            have hfz15_5 := blk_frozen BK499.out 5
            have hfz15_6 := blk_frozen BK499.out 6
            have hfz15_7 := blk_frozen BK499.out 7
            go_wp2_with (first | ((with_reducible refine gate_callee (f := 63) rfl ?_); refine goesL_ (some 5) rfl rfl Tryd.func63 (by kernel_rfl) rfl #[.string a0_0] rfl (by (try simp only [List.map_toArray, List.map_cons, List.map_nil]); first | done | rfl | (simp only [List.length_drop, List.length_take]; rfl)) ?_; (with_reducible refine (member_clean.calls a0_0 true _ ?side1 A4.out).mono ?_); (case side1 => exact Aside0.mk (Tabs.below hT.out (by repeat (first | (with_reducible first | exact HB.out | apply below_alloc | apply pw_below_drewN | apply below_drew1 | refine below_set ?_ GE499.out) | exact HB.out)))); rintro e w16 ⟨rfl, hb⟩; refine ⟨_, rfl, ?_⟩; have n0_ := Aside0.mk (blk_below (g := gb499) (o := .cells #[.string a0_0, .string a0_1, .int .u8 a0_2, .int .i64 a0_3, .int .i64 a0_4, .int .i64 a0_5, .int .i64 a0_6, .slice A0_7 l0_7.length c0_7] 45 (0, 0)) (by (with_reducible repeat (first | refine blk_drewN ?_ _ | refine blk_drew ?_ | refine blk_alloc ?_ _)); exact BK499.out) hb); have n1_ := Aside0.mk (below_step (by repeat (first | (with_reducible first | exact HB.out | apply below_alloc | apply pw_below_drewN | apply below_drew1 | refine below_set ?_ GE499.out) | exact HB.out)) hb); clear BK499; clear HB; have BK499 := n0_; have HB := n1_; clear n0_ n1_; (try clear hb); (try clear hb2); (try clear hk); (try clear hi); have hcz17_0 : w16.cell? ⟨gb499, 0, none⟩ = some (.string a0_0) := (blk_cell BK499.out 0).trans rfl; have hcz17_1 : w16.cell? ⟨gb499, 1, none⟩ = some (.string a0_1) := (blk_cell BK499.out 1).trans rfl; have hcz17_2 : w16.cell? ⟨gb499, 2, none⟩ = some (.int .u8 a0_2) := (blk_cell BK499.out 2).trans rfl; have hcz17_3 : w16.cell? ⟨gb499, 3, none⟩ = some (.int .i64 a0_3) := (blk_cell BK499.out 3).trans rfl; have hcz17_4 : w16.cell? ⟨gb499, 4, none⟩ = some (.int .i64 a0_4) := (blk_cell BK499.out 4).trans rfl; have hcz17_5 : w16.cell? ⟨gb499, 5, none⟩ = some (.int .i64 a0_5) := (blk_cell BK499.out 5).trans rfl; have hcz17_6 : w16.cell? ⟨gb499, 6, none⟩ = some (.int .i64 a0_6) := (blk_cell BK499.out 6).trans rfl; have hcz17_7 : w16.cell? ⟨gb499, 7, none⟩ = some (.slice A0_7 l0_7.length c0_7) := (blk_cell BK499.out 7).trans rfl; have hfz17_0 := blk_frozen BK499.out 0; have hfz17_1 := blk_frozen BK499.out 1; have hfz17_2 := blk_frozen BK499.out 2; have hfz17_3 := blk_frozen BK499.out 3; have hfz17_4 := blk_frozen BK499.out 4; have hfz17_5 := blk_frozen BK499.out 5; have hfz17_6 := blk_frozen BK499.out 6; have hfz17_7 := blk_frozen BK499.out 7) | (go_at_call 64; (with_reducible refine (member_meta.calls a0_3 a0_4 a0_5 a0_6 true _ A6.out).mono ?_); rintro e w18 ⟨rfl, hb⟩; have n0_ := Aside0.mk (blk_below (g := gb499) (o := .cells #[.string a0_0, .string a0_1, .int .u8 a0_2, .int .i64 a0_3, .int .i64 a0_4, .int .i64 a0_5, .int .i64 a0_6, .slice A0_7 l0_7.length c0_7] 45 (0, 0)) (by (with_reducible repeat (first | refine blk_drewN ?_ _ | refine blk_drew ?_ | refine blk_alloc ?_ _)); exact BK499.out) hb); have n1_ := Aside0.mk (below_step (by repeat (first | (with_reducible first | exact HB.out | apply below_alloc | apply pw_below_drewN | apply below_drew1 | refine below_set ?_ GE499.out) | exact HB.out)) hb); clear BK499; clear HB; have BK499 := n0_; have HB := n1_; clear n0_ n1_; (try clear hb); (try clear hb2); (try clear hk); (try clear hi); have hcz19_0 : w18.cell? ⟨gb499, 0, none⟩ = some (.string a0_0) := (blk_cell BK499.out 0).trans rfl; have hcz19_1 : w18.cell? ⟨gb499, 1, none⟩ = some (.string a0_1) := (blk_cell BK499.out 1).trans rfl; have hcz19_2 : w18.cell? ⟨gb499, 2, none⟩ = some (.int .u8 a0_2) := (blk_cell BK499.out 2).trans rfl; have hcz19_3 : w18.cell? ⟨gb499, 3, none⟩ = some (.int .i64 a0_3) := (blk_cell BK499.out 3).trans rfl; have hcz19_4 : w18.cell? ⟨gb499, 4, none⟩ = some (.int .i64 a0_4) := (blk_cell BK499.out 4).trans rfl; have hcz19_5 : w18.cell? ⟨gb499, 5, none⟩ = some (.int .i64 a0_5) := (blk_cell BK499.out 5).trans rfl; have hcz19_6 : w18.cell? ⟨gb499, 6, none⟩ = some (.int .i64 a0_6) := (blk_cell BK499.out 6).trans rfl; have hcz19_7 : w18.cell? ⟨gb499, 7, none⟩ = some (.slice A0_7 l0_7.length c0_7) := (blk_cell BK499.out 7).trans rfl; have hfz19_0 := blk_frozen BK499.out 0; have hfz19_1 := blk_frozen BK499.out 1; have hfz19_2 := blk_frozen BK499.out 2; have hfz19_3 := blk_frozen BK499.out 3; have hfz19_4 := blk_frozen BK499.out 4; have hfz19_5 := blk_frozen BK499.out 5; have hfz19_6 := blk_frozen BK499.out 6; have hfz19_7 := blk_frozen BK499.out 7))
            go_meet
            case rel => exact ⟨_, (false), (by first | rfl | (simp; done) | (simp [*]; done)), H', ⟨by first | omega | exact Nat.le_refl _⟩, ⟨by (with_reducible repeat (first | refine blk_drewN ?_ _ | refine blk_drew ?_ | refine blk_alloc ?_ _)); exact BK499.out⟩, ⟨by repeat (first | (with_reducible first | exact HB.out | apply below_alloc | apply pw_below_drewN | apply below_drew1 | refine below_set ?_ GE499.out) | exact HB.out)⟩⟩
          · rw [if_neg c14] at H
            have c14b0 : (a0_2 == 48) = false := beq_eq_false_iff_ne.mpr c14
            have c14b1 : (a0_2 != 48) = true := bne_iff_ne.mpr c14
            have H' := Aside0.mk H
            clear H
            have hcz20_0 : w3.cell? ⟨gb499, 0, none⟩ = some (.string a0_0) := (blk_cell BK499.out 0).trans rfl
            have hcz20_1 : w3.cell? ⟨gb499, 1, none⟩ = some (.string a0_1) := (blk_cell BK499.out 1).trans rfl
            have hcz20_2 : w3.cell? ⟨gb499, 2, none⟩ = some (.int .u8 a0_2) := (blk_cell BK499.out 2).trans rfl
            have hcz20_3 : w3.cell? ⟨gb499, 3, none⟩ = some (.int .i64 a0_3) := (blk_cell BK499.out 3).trans rfl
            have hcz20_4 : w3.cell? ⟨gb499, 4, none⟩ = some (.int .i64 a0_4) := (blk_cell BK499.out 4).trans rfl
            have hcz20_5 : w3.cell? ⟨gb499, 5, none⟩ = some (.int .i64 a0_5) := (blk_cell BK499.out 5).trans rfl
            have hcz20_6 : w3.cell? ⟨gb499, 6, none⟩ = some (.int .i64 a0_6) := (blk_cell BK499.out 6).trans rfl
            have hcz20_7 : w3.cell? ⟨gb499, 7, none⟩ = some (.slice A0_7 l0_7.length c0_7) := (blk_cell BK499.out 7).trans rfl
            have hfz20_0 := blk_frozen BK499.out 0
            have hfz20_1 := blk_frozen BK499.out 1
            have hfz20_2 := blk_frozen BK499.out 2
            have hfz20_3 := blk_frozen BK499.out 3
            have hfz20_4 := blk_frozen BK499.out 4
            have hfz20_5 := blk_frozen BK499.out 5
            have hfz20_6 := blk_frozen BK499.out 6
            have hfz20_7 := blk_frozen BK499.out 7
            go_wp2_with (first | ((with_reducible refine gate_callee (f := 63) rfl ?_); refine goesL_ (some 5) rfl rfl Tryd.func63 (by kernel_rfl) rfl #[.string a0_0] rfl (by (try simp only [List.map_toArray, List.map_cons, List.map_nil]); first | done | rfl | (simp only [List.length_drop, List.length_take]; rfl)) ?_; (with_reducible refine (member_clean.calls a0_0 true _ ?side1 A4.out).mono ?_); (case side1 => exact Aside0.mk (Tabs.below hT.out (by repeat (first | (with_reducible first | exact HB.out | apply below_alloc | apply pw_below_drewN | apply below_drew1 | refine below_set ?_ GE499.out) | exact HB.out)))); rintro e w21 ⟨rfl, hb⟩; refine ⟨_, rfl, ?_⟩; have n0_ := Aside0.mk (blk_below (g := gb499) (o := .cells #[.string a0_0, .string a0_1, .int .u8 a0_2, .int .i64 a0_3, .int .i64 a0_4, .int .i64 a0_5, .int .i64 a0_6, .slice A0_7 l0_7.length c0_7] 45 (0, 0)) (by (with_reducible repeat (first | refine blk_drewN ?_ _ | refine blk_drew ?_ | refine blk_alloc ?_ _)); exact BK499.out) hb); have n1_ := Aside0.mk (below_step (by repeat (first | (with_reducible first | exact HB.out | apply below_alloc | apply pw_below_drewN | apply below_drew1 | refine below_set ?_ GE499.out) | exact HB.out)) hb); clear BK499; clear HB; have BK499 := n0_; have HB := n1_; clear n0_ n1_; (try clear hb); (try clear hb2); (try clear hk); (try clear hi); have hcz22_0 : w21.cell? ⟨gb499, 0, none⟩ = some (.string a0_0) := (blk_cell BK499.out 0).trans rfl; have hcz22_1 : w21.cell? ⟨gb499, 1, none⟩ = some (.string a0_1) := (blk_cell BK499.out 1).trans rfl; have hcz22_2 : w21.cell? ⟨gb499, 2, none⟩ = some (.int .u8 a0_2) := (blk_cell BK499.out 2).trans rfl; have hcz22_3 : w21.cell? ⟨gb499, 3, none⟩ = some (.int .i64 a0_3) := (blk_cell BK499.out 3).trans rfl; have hcz22_4 : w21.cell? ⟨gb499, 4, none⟩ = some (.int .i64 a0_4) := (blk_cell BK499.out 4).trans rfl; have hcz22_5 : w21.cell? ⟨gb499, 5, none⟩ = some (.int .i64 a0_5) := (blk_cell BK499.out 5).trans rfl; have hcz22_6 : w21.cell? ⟨gb499, 6, none⟩ = some (.int .i64 a0_6) := (blk_cell BK499.out 6).trans rfl; have hcz22_7 : w21.cell? ⟨gb499, 7, none⟩ = some (.slice A0_7 l0_7.length c0_7) := (blk_cell BK499.out 7).trans rfl; have hfz22_0 := blk_frozen BK499.out 0; have hfz22_1 := blk_frozen BK499.out 1; have hfz22_2 := blk_frozen BK499.out 2; have hfz22_3 := blk_frozen BK499.out 3; have hfz22_4 := blk_frozen BK499.out 4; have hfz22_5 := blk_frozen BK499.out 5; have hfz22_6 := blk_frozen BK499.out 6; have hfz22_7 := blk_frozen BK499.out 7) | (go_at_call 64; (with_reducible refine (member_meta.calls a0_3 a0_4 a0_5 a0_6 true _ A6.out).mono ?_); rintro e w23 ⟨rfl, hb⟩; have n0_ := Aside0.mk (blk_below (g := gb499) (o := .cells #[.string a0_0, .string a0_1, .int .u8 a0_2, .int .i64 a0_3, .int .i64 a0_4, .int .i64 a0_5, .int .i64 a0_6, .slice A0_7 l0_7.length c0_7] 45 (0, 0)) (by (with_reducible repeat (first | refine blk_drewN ?_ _ | refine blk_drew ?_ | refine blk_alloc ?_ _)); exact BK499.out) hb); have n1_ := Aside0.mk (below_step (by repeat (first | (with_reducible first | exact HB.out | apply below_alloc | apply pw_below_drewN | apply below_drew1 | refine below_set ?_ GE499.out) | exact HB.out)) hb); clear BK499; clear HB; have BK499 := n0_; have HB := n1_; clear n0_ n1_; (try clear hb); (try clear hb2); (try clear hk); (try clear hi); have hcz24_0 : w23.cell? ⟨gb499, 0, none⟩ = some (.string a0_0) := (blk_cell BK499.out 0).trans rfl; have hcz24_1 : w23.cell? ⟨gb499, 1, none⟩ = some (.string a0_1) := (blk_cell BK499.out 1).trans rfl; have hcz24_2 : w23.cell? ⟨gb499, 2, none⟩ = some (.int .u8 a0_2) := (blk_cell BK499.out 2).trans rfl; have hcz24_3 : w23.cell? ⟨gb499, 3, none⟩ = some (.int .i64 a0_3) := (blk_cell BK499.out 3).trans rfl; have hcz24_4 : w23.cell? ⟨gb499, 4, none⟩ = some (.int .i64 a0_4) := (blk_cell BK499.out 4).trans rfl; have hcz24_5 : w23.cell? ⟨gb499, 5, none⟩ = some (.int .i64 a0_5) := (blk_cell BK499.out 5).trans rfl; have hcz24_6 : w23.cell? ⟨gb499, 6, none⟩ = some (.int .i64 a0_6) := (blk_cell BK499.out 6).trans rfl; have hcz24_7 : w23.cell? ⟨gb499, 7, none⟩ = some (.slice A0_7 l0_7.length c0_7) := (blk_cell BK499.out 7).trans rfl; have hfz24_0 := blk_frozen BK499.out 0; have hfz24_1 := blk_frozen BK499.out 1; have hfz24_2 := blk_frozen BK499.out 2; have hfz24_3 := blk_frozen BK499.out 3; have hfz24_4 := blk_frozen BK499.out 4; have hfz24_5 := blk_frozen BK499.out 5; have hfz24_6 := blk_frozen BK499.out 6; have hfz24_7 := blk_frozen BK499.out 7))
            go_meet
            case rel => exact ⟨_, (decide ((l0_7.length : Int) > 0)), (by first | rfl | (simp; done) | (simp [*]; done)), H', ⟨by first | omega | exact Nat.le_refl _⟩, ⟨by (with_reducible repeat (first | refine blk_drewN ?_ _ | refine blk_drew ?_ | refine blk_alloc ?_ _)); exact BK499.out⟩, ⟨by repeat (first | (with_reducible first | exact HB.out | apply below_alloc | apply pw_below_drewN | apply below_drew1 | refine below_set ?_ GE499.out) | exact HB.out)⟩⟩
      · replace c7 := Bool.eq_false_iff.mpr c7
        subst c7
        have H1 : (member_Good.j0 k true a0_0 a0_1 a0_2 a0_3 a0_4 a0_5 a0_6 l0_7) = some r := by rw [if_neg (show ¬ (false = true) by decide)] at H; exact H
        clear H
        have H := H1
        clear H1
        have H' := Aside0.mk H
        clear H
        have hcz25_0 : w3.cell? ⟨gb499, 0, none⟩ = some (.string a0_0) := (blk_cell BK499.out 0).trans rfl
        have hcz25_1 : w3.cell? ⟨gb499, 1, none⟩ = some (.string a0_1) := (blk_cell BK499.out 1).trans rfl
        have hcz25_2 : w3.cell? ⟨gb499, 2, none⟩ = some (.int .u8 a0_2) := (blk_cell BK499.out 2).trans rfl
        have hcz25_3 : w3.cell? ⟨gb499, 3, none⟩ = some (.int .i64 a0_3) := (blk_cell BK499.out 3).trans rfl
        have hcz25_4 : w3.cell? ⟨gb499, 4, none⟩ = some (.int .i64 a0_4) := (blk_cell BK499.out 4).trans rfl
        have hcz25_5 : w3.cell? ⟨gb499, 5, none⟩ = some (.int .i64 a0_5) := (blk_cell BK499.out 5).trans rfl
        have hcz25_6 : w3.cell? ⟨gb499, 6, none⟩ = some (.int .i64 a0_6) := (blk_cell BK499.out 6).trans rfl
        have hcz25_7 : w3.cell? ⟨gb499, 7, none⟩ = some (.slice A0_7 l0_7.length c0_7) := (blk_cell BK499.out 7).trans rfl
        have hfz25_0 := blk_frozen BK499.out 0
        have hfz25_1 := blk_frozen BK499.out 1
        have hfz25_2 := blk_frozen BK499.out 2
        have hfz25_3 := blk_frozen BK499.out 3
        have hfz25_4 := blk_frozen BK499.out 4
        have hfz25_5 := blk_frozen BK499.out 5
        have hfz25_6 := blk_frozen BK499.out 6
        have hfz25_7 := blk_frozen BK499.out 7
        go_wp2_with (first | ((with_reducible refine gate_callee (f := 63) rfl ?_); refine goesL_ (some 5) rfl rfl Tryd.func63 (by kernel_rfl) rfl #[.string a0_0] rfl (by (try simp only [List.map_toArray, List.map_cons, List.map_nil]); first | done | rfl | (simp only [List.length_drop, List.length_take]; rfl)) ?_; (with_reducible refine (member_clean.calls a0_0 true _ ?side1 A4.out).mono ?_); (case side1 => exact Aside0.mk (Tabs.below hT.out (by repeat (first | (with_reducible first | exact HB.out | apply below_alloc | apply pw_below_drewN | apply below_drew1 | refine below_set ?_ GE499.out) | exact HB.out)))); rintro e w26 ⟨rfl, hb⟩; refine ⟨_, rfl, ?_⟩; have n0_ := Aside0.mk (blk_below (g := gb499) (o := .cells #[.string a0_0, .string a0_1, .int .u8 a0_2, .int .i64 a0_3, .int .i64 a0_4, .int .i64 a0_5, .int .i64 a0_6, .slice A0_7 l0_7.length c0_7] 45 (0, 0)) (by (with_reducible repeat (first | refine blk_drewN ?_ _ | refine blk_drew ?_ | refine blk_alloc ?_ _)); exact BK499.out) hb); have n1_ := Aside0.mk (below_step (by repeat (first | (with_reducible first | exact HB.out | apply below_alloc | apply pw_below_drewN | apply below_drew1 | refine below_set ?_ GE499.out) | exact HB.out)) hb); clear BK499; clear HB; have BK499 := n0_; have HB := n1_; clear n0_ n1_; (try clear hb); (try clear hb2); (try clear hk); (try clear hi); have hcz27_0 : w26.cell? ⟨gb499, 0, none⟩ = some (.string a0_0) := (blk_cell BK499.out 0).trans rfl; have hcz27_1 : w26.cell? ⟨gb499, 1, none⟩ = some (.string a0_1) := (blk_cell BK499.out 1).trans rfl; have hcz27_2 : w26.cell? ⟨gb499, 2, none⟩ = some (.int .u8 a0_2) := (blk_cell BK499.out 2).trans rfl; have hcz27_3 : w26.cell? ⟨gb499, 3, none⟩ = some (.int .i64 a0_3) := (blk_cell BK499.out 3).trans rfl; have hcz27_4 : w26.cell? ⟨gb499, 4, none⟩ = some (.int .i64 a0_4) := (blk_cell BK499.out 4).trans rfl; have hcz27_5 : w26.cell? ⟨gb499, 5, none⟩ = some (.int .i64 a0_5) := (blk_cell BK499.out 5).trans rfl; have hcz27_6 : w26.cell? ⟨gb499, 6, none⟩ = some (.int .i64 a0_6) := (blk_cell BK499.out 6).trans rfl; have hcz27_7 : w26.cell? ⟨gb499, 7, none⟩ = some (.slice A0_7 l0_7.length c0_7) := (blk_cell BK499.out 7).trans rfl; have hfz27_0 := blk_frozen BK499.out 0; have hfz27_1 := blk_frozen BK499.out 1; have hfz27_2 := blk_frozen BK499.out 2; have hfz27_3 := blk_frozen BK499.out 3; have hfz27_4 := blk_frozen BK499.out 4; have hfz27_5 := blk_frozen BK499.out 5; have hfz27_6 := blk_frozen BK499.out 6; have hfz27_7 := blk_frozen BK499.out 7) | (go_at_call 64; (with_reducible refine (member_meta.calls a0_3 a0_4 a0_5 a0_6 false _ A6.out).mono ?_); rintro e w28 ⟨rfl, hb⟩; have n0_ := Aside0.mk (blk_below (g := gb499) (o := .cells #[.string a0_0, .string a0_1, .int .u8 a0_2, .int .i64 a0_3, .int .i64 a0_4, .int .i64 a0_5, .int .i64 a0_6, .slice A0_7 l0_7.length c0_7] 45 (0, 0)) (by (with_reducible repeat (first | refine blk_drewN ?_ _ | refine blk_drew ?_ | refine blk_alloc ?_ _)); exact BK499.out) hb); have n1_ := Aside0.mk (below_step (by repeat (first | (with_reducible first | exact HB.out | apply below_alloc | apply pw_below_drewN | apply below_drew1 | refine below_set ?_ GE499.out) | exact HB.out)) hb); clear BK499; clear HB; have BK499 := n0_; have HB := n1_; clear n0_ n1_; (try clear hb); (try clear hb2); (try clear hk); (try clear hi)))
        go_meet
        case rel => exact ⟨_, (true), (by first | rfl | (simp; done) | (simp [*]; done)), H', ⟨by first | omega | exact Nat.le_refl _⟩, ⟨by (with_reducible repeat (first | refine blk_drewN ?_ _ | refine blk_drew ?_ | refine blk_alloc ?_ _)); exact BK499.out⟩, ⟨by repeat (first | (with_reducible first | exact HB.out | apply below_alloc | apply pw_below_drewN | apply below_drew1 | refine below_set ?_ GE499.out) | exact HB.out)⟩⟩
    · replace c5 := Bool.eq_false_iff.mpr c5
      subst c5
      have H1 : (member_Good.j0 k true a0_0 a0_1 a0_2 a0_3 a0_4 a0_5 a0_6 l0_7) = some r := by rw [if_neg (show ¬ (false = true) by decide)] at H; exact H
      clear H
      have H := H1
      clear H1
      have H' := Aside0.mk H
      clear H
      have hcz29_0 : w3.cell? ⟨gb499, 0, none⟩ = some (.string a0_0) := (blk_cell BK499.out 0).trans rfl
      have hcz29_1 : w3.cell? ⟨gb499, 1, none⟩ = some (.string a0_1) := (blk_cell BK499.out 1).trans rfl
      have hcz29_2 : w3.cell? ⟨gb499, 2, none⟩ = some (.int .u8 a0_2) := (blk_cell BK499.out 2).trans rfl
      have hcz29_3 : w3.cell? ⟨gb499, 3, none⟩ = some (.int .i64 a0_3) := (blk_cell BK499.out 3).trans rfl
      have hcz29_4 : w3.cell? ⟨gb499, 4, none⟩ = some (.int .i64 a0_4) := (blk_cell BK499.out 4).trans rfl
      have hcz29_5 : w3.cell? ⟨gb499, 5, none⟩ = some (.int .i64 a0_5) := (blk_cell BK499.out 5).trans rfl
      have hcz29_6 : w3.cell? ⟨gb499, 6, none⟩ = some (.int .i64 a0_6) := (blk_cell BK499.out 6).trans rfl
      have hcz29_7 : w3.cell? ⟨gb499, 7, none⟩ = some (.slice A0_7 l0_7.length c0_7) := (blk_cell BK499.out 7).trans rfl
      have hfz29_0 := blk_frozen BK499.out 0
      have hfz29_1 := blk_frozen BK499.out 1
      have hfz29_2 := blk_frozen BK499.out 2
      have hfz29_3 := blk_frozen BK499.out 3
      have hfz29_4 := blk_frozen BK499.out 4
      have hfz29_5 := blk_frozen BK499.out 5
      have hfz29_6 := blk_frozen BK499.out 6
      have hfz29_7 := blk_frozen BK499.out 7
      go_wp2_with (first | ((with_reducible refine gate_callee (f := 63) rfl ?_); refine goesL_ (some 5) rfl rfl Tryd.func63 (by kernel_rfl) rfl #[.string a0_0] rfl (by (try simp only [List.map_toArray, List.map_cons, List.map_nil]); first | done | rfl | (simp only [List.length_drop, List.length_take]; rfl)) ?_; (with_reducible refine (member_clean.calls a0_0 false _ ?side1 A4.out).mono ?_); (case side1 => exact Aside0.mk (Tabs.below hT.out (by repeat (first | (with_reducible first | exact HB.out | apply below_alloc | apply pw_below_drewN | apply below_drew1 | refine below_set ?_ GE499.out) | exact HB.out)))); rintro e w30 ⟨rfl, hb⟩; refine ⟨_, rfl, ?_⟩; have n0_ := Aside0.mk (blk_below (g := gb499) (o := .cells #[.string a0_0, .string a0_1, .int .u8 a0_2, .int .i64 a0_3, .int .i64 a0_4, .int .i64 a0_5, .int .i64 a0_6, .slice A0_7 l0_7.length c0_7] 45 (0, 0)) (by (with_reducible repeat (first | refine blk_drewN ?_ _ | refine blk_drew ?_ | refine blk_alloc ?_ _)); exact BK499.out) hb); have n1_ := Aside0.mk (below_step (by repeat (first | (with_reducible first | exact HB.out | apply below_alloc | apply pw_below_drewN | apply below_drew1 | refine below_set ?_ GE499.out) | exact HB.out)) hb); clear BK499; clear HB; have BK499 := n0_; have HB := n1_; clear n0_ n1_; (try clear hb); (try clear hb2); (try clear hk); (try clear hi)))
      go_meet
      case rel => exact ⟨_, (true), (by first | rfl | (simp; done) | (simp [*]; done)), H', ⟨by first | omega | exact Nat.le_refl _⟩, ⟨by (with_reducible repeat (first | refine blk_drewN ?_ _ | refine blk_drew ?_ | refine blk_alloc ?_ _)); exact BK499.out⟩, ⟨by repeat (first | (with_reducible first | exact HB.out | apply below_alloc | apply pw_below_drewN | apply below_drew1 | refine below_set ?_ GE499.out) | exact HB.out)⟩⟩
  case rest =>
    clear HC2
    try clear c1
    try clear p2
    try clear c4
    try clear c5
    try clear c6
    try clear c7
    try clear c8
    try clear c8b0
    try clear c8b1
    try clear c14
    try clear c14b0
    try clear c14b1
    try clear hcz11_0
    try clear hcz11_1
    try clear hcz11_2
    try clear hcz11_3
    try clear hcz11_4
    try clear hcz11_5
    try clear hcz11_6
    try clear hcz11_7
    try clear hcz13_0
    try clear hcz13_1
    try clear hcz13_2
    try clear hcz13_3
    try clear hcz13_4
    try clear hcz13_5
    try clear hcz13_6
    try clear hcz13_7
    try clear hcz15_0
    try clear hcz15_1
    try clear hcz15_2
    try clear hcz15_3
    try clear hcz15_4
    try clear hcz15_5
    try clear hcz15_6
    try clear hcz15_7
    try clear hcz17_0
    try clear hcz17_1
    try clear hcz17_2
    try clear hcz17_3
    try clear hcz17_4
    try clear hcz17_5
    try clear hcz17_6
    try clear hcz17_7
    try clear hcz19_0
    try clear hcz19_1
    try clear hcz19_2
    try clear hcz19_3
    try clear hcz19_4
    try clear hcz19_5
    try clear hcz19_6
    try clear hcz19_7
    try clear hcz20_0
    try clear hcz20_1
    try clear hcz20_2
    try clear hcz20_3
    try clear hcz20_4
    try clear hcz20_5
    try clear hcz20_6
    try clear hcz20_7
    try clear hcz22_0
    try clear hcz22_1
    try clear hcz22_2
    try clear hcz22_3
    try clear hcz22_4
    try clear hcz22_5
    try clear hcz22_6
    try clear hcz22_7
    try clear hcz24_0
    try clear hcz24_1
    try clear hcz24_2
    try clear hcz24_3
    try clear hcz24_4
    try clear hcz24_5
    try clear hcz24_6
    try clear hcz24_7
    try clear hcz25_0
    try clear hcz25_1
    try clear hcz25_2
    try clear hcz25_3
    try clear hcz25_4
    try clear hcz25_5
    try clear hcz25_6
    try clear hcz25_7
    try clear hcz27_0
    try clear hcz27_1
    try clear hcz27_2
    try clear hcz27_3
    try clear hcz27_4
    try clear hcz27_5
    try clear hcz27_6
    try clear hcz27_7
    try clear hcz29_0
    try clear hcz29_1
    try clear hcz29_2
    try clear hcz29_3
    try clear hcz29_4
    try clear hcz29_5
    try clear hcz29_6
    try clear hcz29_7
    try clear hcz9_0
    try clear hcz9_1
    try clear hcz9_2
    try clear hcz9_3
    try clear hcz9_4
    try clear hcz9_5
    try clear hcz9_6
    try clear hcz9_7
    try clear hfz11_0
    try clear hfz11_1
    try clear hfz11_2
    try clear hfz11_3
    try clear hfz11_4
    try clear hfz11_5
    try clear hfz11_6
    try clear hfz11_7
    try clear hfz13_0
    try clear hfz13_1
    try clear hfz13_2
    try clear hfz13_3
    try clear hfz13_4
    try clear hfz13_5
    try clear hfz13_6
    try clear hfz13_7
    try clear hfz15_0
    try clear hfz15_1
    try clear hfz15_2
    try clear hfz15_3
    try clear hfz15_4
    try clear hfz15_5
    try clear hfz15_6
    try clear hfz15_7
    try clear hfz17_0
    try clear hfz17_1
    try clear hfz17_2
    try clear hfz17_3
    try clear hfz17_4
    try clear hfz17_5
    try clear hfz17_6
    try clear hfz17_7
    try clear hfz19_0
    try clear hfz19_1
    try clear hfz19_2
    try clear hfz19_3
    try clear hfz19_4
    try clear hfz19_5
    try clear hfz19_6
    try clear hfz19_7
    try clear hfz20_0
    try clear hfz20_1
    try clear hfz20_2
    try clear hfz20_3
    try clear hfz20_4
    try clear hfz20_5
    try clear hfz20_6
    try clear hfz20_7
    try clear hfz22_0
    try clear hfz22_1
    try clear hfz22_2
    try clear hfz22_3
    try clear hfz22_4
    try clear hfz22_5
    try clear hfz22_6
    try clear hfz22_7
    try clear hfz24_0
    try clear hfz24_1
    try clear hfz24_2
    try clear hfz24_3
    try clear hfz24_4
    try clear hfz24_5
    try clear hfz24_6
    try clear hfz24_7
    try clear hfz25_0
    try clear hfz25_1
    try clear hfz25_2
    try clear hfz25_3
    try clear hfz25_4
    try clear hfz25_5
    try clear hfz25_6
    try clear hfz25_7
    try clear hfz27_0
    try clear hfz27_1
    try clear hfz27_2
    try clear hfz27_3
    try clear hfz27_4
    try clear hfz27_5
    try clear hfz27_6
    try clear hfz27_7
    try clear hfz29_0
    try clear hfz29_1
    try clear hfz29_2
    try clear hfz29_3
    try clear hfz29_4
    try clear hfz29_5
    try clear hfz29_6
    try clear hfz29_7
    try clear hfz9_0
    try clear hfz9_1
    try clear hfz9_2
    try clear hfz9_3
    try clear hfz9_4
    try clear hfz9_5
    try clear hfz9_6
    try clear hfz9_7
    obtain ⟨kq, x29_1, rfl, HA, HJ1, BK499, HB⟩ := hcut
    cases kq with
    | zero => exact absurd HA.out (by simp [member_Good.j0])
    | succ kj1 =>
      have H := HA.out
      clear HA
      simp only [member_Good.j0] at H
      by_cases c31 : x29_1 = true
      · subst c31
        have H1 : (some false) = some r := by rw [if_pos rfl] at H; exact H
        clear H
        have H := H1
        clear H1
        obtain rfl := Option.some.inj H
        go_wp2
        go_ret
        exact ⟨by first | rfl | (simp [errW_none, errW_some] <;> rfl) | (simp [*, errW_none, errW_some] <;> rfl), by repeat (first | (with_reducible first | exact HB.out | apply below_alloc | apply pw_below_drewN | apply below_drew1 | refine below_set ?_ GE499.out) | exact HB.out)⟩
      · replace c31 := Bool.eq_false_iff.mpr c31
        subst c31
        have H1 : (if a0_2 = 48 then (member_Good.j1 kj1 a0_2 (a0_2 == 48) a0_0 a0_1 a0_2 a0_3 a0_4 a0_5 a0_6 l0_7) else (member_Good.j1 kj1 a0_2 (a0_2 == 53) a0_0 a0_1 a0_2 a0_3 a0_4 a0_5 a0_6 l0_7)) = some r := by rw [if_neg (show ¬ (false = true) by decide)] at H; exact H
        clear H
        have H := H1
        clear H1
        have HC32 := Aside0.mk H
        clear H
        have hcz33_0 : wc.cell? ⟨gb499, 0, none⟩ = some (.string a0_0) := (blk_cell BK499.out 0).trans rfl
        have hcz33_1 : wc.cell? ⟨gb499, 1, none⟩ = some (.string a0_1) := (blk_cell BK499.out 1).trans rfl
        have hcz33_2 : wc.cell? ⟨gb499, 2, none⟩ = some (.int .u8 a0_2) := (blk_cell BK499.out 2).trans rfl
        have hcz33_3 : wc.cell? ⟨gb499, 3, none⟩ = some (.int .i64 a0_3) := (blk_cell BK499.out 3).trans rfl
        have hcz33_4 : wc.cell? ⟨gb499, 4, none⟩ = some (.int .i64 a0_4) := (blk_cell BK499.out 4).trans rfl
        have hcz33_5 : wc.cell? ⟨gb499, 5, none⟩ = some (.int .i64 a0_5) := (blk_cell BK499.out 5).trans rfl
        have hcz33_6 : wc.cell? ⟨gb499, 6, none⟩ = some (.int .i64 a0_6) := (blk_cell BK499.out 6).trans rfl
        have hcz33_7 : wc.cell? ⟨gb499, 7, none⟩ = some (.slice A0_7 l0_7.length c0_7) := (blk_cell BK499.out 7).trans rfl
        have hfz33_0 := blk_frozen BK499.out 0
        have hfz33_1 := blk_frozen BK499.out 1
        have hfz33_2 := blk_frozen BK499.out 2
        have hfz33_3 := blk_frozen BK499.out 3
        have hfz33_4 := blk_frozen BK499.out 4
        have hfz33_5 := blk_frozen BK499.out 5
        have hfz33_6 := blk_frozen BK499.out 6
        have hfz33_7 := blk_frozen BK499.out 7
        go_upto_if 32 with (fail)
        go_cut [32] (fun v32 wc => ∃ (kq : Nat) (x32_31 : Bool), v32 = .bool x32_31 ∧ Aside0 (member_Good.j1 kq a0_2 x32_31 a0_0 a0_1 a0_2 a0_3 a0_4 a0_5 a0_6 l0_7 = some r) ∧ Aside0 (kq ≤ kj1) ∧ Aside0 (wc.heap[gb499]? = some (.cells #[.string a0_0, .string a0_1, .int .u8 a0_2, .int .i64 a0_3, .int .i64 a0_4, .int .i64 a0_5, .int .i64 a0_6, (.slice A0_7 l0_7.length c0_7)] 45 (0, 0))) ∧ Aside0 (Below w.heap.size w wc))
        case first =>
          have H := HC32.out
          clear HC32
          by_cases c34 : a0_2 = 48
          · rw [if_pos c34] at H
            have c34b0 : (a0_2 == 48) = true := beq_iff_eq.mpr c34
            have c34b1 : (a0_2 != 48) = false := bne_eq_false_iff_eq.mpr c34
            clear c34
            (first | rw [c34b0] | (simp only [i64_w, i32_w]; rw [c34b0]) | skip)
            have H' := Aside0.mk H
            clear H
            go_wp2
            go_meet
            case rel => exact ⟨_, ((a0_2 == 48)), (by first | rfl | (simp; done) | (simp [*]; done)), H', ⟨by have := HJ1.out; first | omega | exact Nat.le_refl _⟩, ⟨by (with_reducible repeat (first | refine blk_drewN ?_ _ | refine blk_drew ?_ | refine blk_alloc ?_ _)); exact BK499.out⟩, ⟨by repeat (first | (with_reducible first | exact HB.out | apply below_alloc | apply pw_below_drewN | apply below_drew1 | refine below_set ?_ GE499.out) | exact HB.out)⟩⟩
          · rw [if_neg c34] at H
            have c34b0 : (a0_2 == 48) = false := beq_eq_false_iff_ne.mpr c34
            have c34b1 : (a0_2 != 48) = true := bne_iff_ne.mpr c34
            (first | rw [c34b0] | (simp only [i64_w, i32_w]; rw [c34b0]) | skip)
            have H' := Aside0.mk H
            clear H
            go_wp2
            go_meet
            case rel => exact ⟨_, ((a0_2 == 53)), (by first | rfl | (simp; done) | (simp [*]; done)), H', ⟨by have := HJ1.out; first | omega | exact Nat.le_refl _⟩, ⟨by (with_reducible repeat (first | refine blk_drewN ?_ _ | refine blk_drew ?_ | refine blk_alloc ?_ _)); exact BK499.out⟩, ⟨by repeat (first | (with_reducible first | exact HB.out | apply below_alloc | apply pw_below_drewN | apply below_drew1 | refine below_set ?_ GE499.out) | exact HB.out)⟩⟩
        case rest =>
          clear HC32
          try clear c1
          try clear p2
          try clear c3
          try clear c4
          try clear c5
          try clear c6
          try clear c7
          try clear c8
          try clear c8b0
          try clear c8b1
          try clear c14
          try clear c14b0
          try clear c14b1
          try clear c31
          try clear c34
          try clear c34b0
          try clear c34b1
          try clear hcz11_0
          try clear hcz11_1
          try clear hcz11_2
          try clear hcz11_3
          try clear hcz11_4
          try clear hcz11_5
          try clear hcz11_6
          try clear hcz11_7
          try clear hcz13_0
          try clear hcz13_1
          try clear hcz13_2
          try clear hcz13_3
          try clear hcz13_4
          try clear hcz13_5
          try clear hcz13_6
          try clear hcz13_7
          try clear hcz15_0
          try clear hcz15_1
          try clear hcz15_2
          try clear hcz15_3
          try clear hcz15_4
          try clear hcz15_5
          try clear hcz15_6
          try clear hcz15_7
          try clear hcz17_0
          try clear hcz17_1
          try clear hcz17_2
          try clear hcz17_3
          try clear hcz17_4
          try clear hcz17_5
          try clear hcz17_6
          try clear hcz17_7
          try clear hcz19_0
          try clear hcz19_1
          try clear hcz19_2
          try clear hcz19_3
          try clear hcz19_4
          try clear hcz19_5
          try clear hcz19_6
          try clear hcz19_7
          try clear hcz20_0
          try clear hcz20_1
          try clear hcz20_2
          try clear hcz20_3
          try clear hcz20_4
          try clear hcz20_5
          try clear hcz20_6
          try clear hcz20_7
          try clear hcz22_0
          try clear hcz22_1
          try clear hcz22_2
          try clear hcz22_3
          try clear hcz22_4
          try clear hcz22_5
          try clear hcz22_6
          try clear hcz22_7
          try clear hcz24_0
          try clear hcz24_1
          try clear hcz24_2
          try clear hcz24_3
          try clear hcz24_4
          try clear hcz24_5
          try clear hcz24_6
          try clear hcz24_7
          try clear hcz25_0
          try clear hcz25_1
          try clear hcz25_2
          try clear hcz25_3
          try clear hcz25_4
          try clear hcz25_5
          try clear hcz25_6
          try clear hcz25_7
          try clear hcz27_0
          try clear hcz27_1
          try clear hcz27_2
          try clear hcz27_3
          try clear hcz27_4
          try clear hcz27_5
          try clear hcz27_6
          try clear hcz27_7
          try clear hcz29_0
          try clear hcz29_1
          try clear hcz29_2
          try clear hcz29_3
          try clear hcz29_4
          try clear hcz29_5
          try clear hcz29_6
          try clear hcz29_7
          try clear hcz33_0
          try clear hcz33_1
          try clear hcz33_2
          try clear hcz33_3
          try clear hcz33_4
          try clear hcz33_5
          try clear hcz33_6
          try clear hcz33_7
          try clear hcz9_0
          try clear hcz9_1
          try clear hcz9_2
          try clear hcz9_3
          try clear hcz9_4
          try clear hcz9_5
          try clear hcz9_6
          try clear hcz9_7
          try clear hfz11_0
          try clear hfz11_1
          try clear hfz11_2
          try clear hfz11_3
          try clear hfz11_4
          try clear hfz11_5
          try clear hfz11_6
          try clear hfz11_7
          try clear hfz13_0
          try clear hfz13_1
          try clear hfz13_2
          try clear hfz13_3
          try clear hfz13_4
          try clear hfz13_5
          try clear hfz13_6
          try clear hfz13_7
          try clear hfz15_0
          try clear hfz15_1
          try clear hfz15_2
          try clear hfz15_3
          try clear hfz15_4
          try clear hfz15_5
          try clear hfz15_6
          try clear hfz15_7
          try clear hfz17_0
          try clear hfz17_1
          try clear hfz17_2
          try clear hfz17_3
          try clear hfz17_4
          try clear hfz17_5
          try clear hfz17_6
          try clear hfz17_7
          try clear hfz19_0
          try clear hfz19_1
          try clear hfz19_2
          try clear hfz19_3
          try clear hfz19_4
          try clear hfz19_5
          try clear hfz19_6
          try clear hfz19_7
          try clear hfz20_0
          try clear hfz20_1
          try clear hfz20_2
          try clear hfz20_3
          try clear hfz20_4
          try clear hfz20_5
          try clear hfz20_6
          try clear hfz20_7
          try clear hfz22_0
          try clear hfz22_1
          try clear hfz22_2
          try clear hfz22_3
          try clear hfz22_4
          try clear hfz22_5
          try clear hfz22_6
          try clear hfz22_7
          try clear hfz24_0
          try clear hfz24_1
          try clear hfz24_2
          try clear hfz24_3
          try clear hfz24_4
          try clear hfz24_5
          try clear hfz24_6
          try clear hfz24_7
          try clear hfz25_0
          try clear hfz25_1
          try clear hfz25_2
          try clear hfz25_3
          try clear hfz25_4
          try clear hfz25_5
          try clear hfz25_6
          try clear hfz25_7
          try clear hfz27_0
          try clear hfz27_1
          try clear hfz27_2
          try clear hfz27_3
          try clear hfz27_4
          try clear hfz27_5
          try clear hfz27_6
          try clear hfz27_7
          try clear hfz29_0
          try clear hfz29_1
          try clear hfz29_2
          try clear hfz29_3
          try clear hfz29_4
          try clear hfz29_5
          try clear hfz29_6
          try clear hfz29_7
          try clear hfz33_0
          try clear hfz33_1
          try clear hfz33_2
          try clear hfz33_3
          try clear hfz33_4
          try clear hfz33_5
          try clear hfz33_6
          try clear hfz33_7
          try clear hfz9_0
          try clear hfz9_1
          try clear hfz9_2
          try clear hfz9_3
          try clear hfz9_4
          try clear hfz9_5
          try clear hfz9_6
          try clear hfz9_7
          try clear p2
          obtain ⟨kq, x32_31, rfl, HA, HJ31, BK499, HB⟩ := hcut
          cases kq with
          | zero => exact absurd HA.out (by simp [member_Good.j1])
          | succ kj31 =>
            have H := HA.out
            clear HA
            simp only [member_Good.j1] at H
            by_cases c35 : x32_31 = true
            · subst c35
              have H1 : (some (a0_1.toList == ([] : List UInt8))) = some r := by rw [if_pos rfl] at H; exact H
              clear H
              have H := H1
              clear H1
              obtain rfl := Option.some.inj H
              have hcz36_0 : wc.cell? ⟨gb499, 0, none⟩ = some (.string a0_0) := (blk_cell BK499.out 0).trans rfl
              have hcz36_1 : wc.cell? ⟨gb499, 1, none⟩ = some (.string a0_1) := (blk_cell BK499.out 1).trans rfl
              have hcz36_2 : wc.cell? ⟨gb499, 2, none⟩ = some (.int .u8 a0_2) := (blk_cell BK499.out 2).trans rfl
              have hcz36_3 : wc.cell? ⟨gb499, 3, none⟩ = some (.int .i64 a0_3) := (blk_cell BK499.out 3).trans rfl
              have hcz36_4 : wc.cell? ⟨gb499, 4, none⟩ = some (.int .i64 a0_4) := (blk_cell BK499.out 4).trans rfl
              have hcz36_5 : wc.cell? ⟨gb499, 5, none⟩ = some (.int .i64 a0_5) := (blk_cell BK499.out 5).trans rfl
              have hcz36_6 : wc.cell? ⟨gb499, 6, none⟩ = some (.int .i64 a0_6) := (blk_cell BK499.out 6).trans rfl
              have hcz36_7 : wc.cell? ⟨gb499, 7, none⟩ = some (.slice A0_7 l0_7.length c0_7) := (blk_cell BK499.out 7).trans rfl
              have hfz36_0 := blk_frozen BK499.out 0
              have hfz36_1 := blk_frozen BK499.out 1
              have hfz36_2 := blk_frozen BK499.out 2
              have hfz36_3 := blk_frozen BK499.out 3
              have hfz36_4 := blk_frozen BK499.out 4
              have hfz36_5 := blk_frozen BK499.out 5
              have hfz36_6 := blk_frozen BK499.out 6
              have hfz36_7 := blk_frozen BK499.out 7
              go_wp2
              go_ret
              exact ⟨by first | rfl | (simp [errW_none, errW_some] <;> rfl) | (simp [*, errW_none, errW_some] <;> rfl), by repeat (first | (with_reducible first | exact HB.out | apply below_alloc | apply pw_below_drewN | apply below_drew1 | refine below_set ?_ GE499.out) | exact HB.out)⟩
            · replace c35 := Bool.eq_false_iff.mpr c35
              subst c35
              have H1 : (if a0_2 = 49 then ((member_clean.f a0_1).bind fun t502 => (some t502)) else (if a0_2 = 50 then ((path_Target.f a0_1).bind fun t503 => (some (t503 == 0))) else (some false))) = some r := by rw [if_neg (show ¬ (false = true) by decide)] at H; exact H
              clear H
              have H := H1
              clear H1
              by_cases c37 : a0_2 = 49
              · rw [if_pos c37] at H
                have c37b0 : (a0_2 == 49) = true := beq_iff_eq.mpr c37
                have c37b1 : (a0_2 != 49) = false := bne_eq_false_iff_eq.mpr c37
                clear c37
                replace H := Option.bind_eq_some_iff.mp H
                obtain ⟨t502, A380, H⟩ := H
                replace H : (some t502) = some r := H
                have A38 := Aside0.mk A380
                clear A380
                obtain rfl := Option.some.inj H
                have hcz39_0 : wc.cell? ⟨gb499, 0, none⟩ = some (.string a0_0) := (blk_cell BK499.out 0).trans rfl
                have hcz39_1 : wc.cell? ⟨gb499, 1, none⟩ = some (.string a0_1) := (blk_cell BK499.out 1).trans rfl
                have hcz39_2 : wc.cell? ⟨gb499, 2, none⟩ = some (.int .u8 a0_2) := (blk_cell BK499.out 2).trans rfl
                have hcz39_3 : wc.cell? ⟨gb499, 3, none⟩ = some (.int .i64 a0_3) := (blk_cell BK499.out 3).trans rfl
                have hcz39_4 : wc.cell? ⟨gb499, 4, none⟩ = some (.int .i64 a0_4) := (blk_cell BK499.out 4).trans rfl
                have hcz39_5 : wc.cell? ⟨gb499, 5, none⟩ = some (.int .i64 a0_5) := (blk_cell BK499.out 5).trans rfl
                have hcz39_6 : wc.cell? ⟨gb499, 6, none⟩ = some (.int .i64 a0_6) := (blk_cell BK499.out 6).trans rfl
                have hcz39_7 : wc.cell? ⟨gb499, 7, none⟩ = some (.slice A0_7 l0_7.length c0_7) := (blk_cell BK499.out 7).trans rfl
                have hfz39_0 := blk_frozen BK499.out 0
                have hfz39_1 := blk_frozen BK499.out 1
                have hfz39_2 := blk_frozen BK499.out 2
                have hfz39_3 := blk_frozen BK499.out 3
                have hfz39_4 := blk_frozen BK499.out 4
                have hfz39_5 := blk_frozen BK499.out 5
                have hfz39_6 := blk_frozen BK499.out 6
                have hfz39_7 := blk_frozen BK499.out 7
                go_wp2_with (first | ((with_reducible refine gate_callee (f := 63) rfl ?_); refine goesL_ (some 42) rfl rfl Tryd.func63 (by kernel_rfl) rfl #[.string a0_1] rfl (by (try simp only [List.map_toArray, List.map_cons, List.map_nil]); first | done | rfl | (simp only [List.length_drop, List.length_take]; rfl)) ?_; (with_reducible refine (member_clean.calls a0_1 t502 _ ?side1 A38.out).mono ?_); (case side1 => exact Aside0.mk (Tabs.below hT.out (by repeat (first | (with_reducible first | exact HB.out | apply below_alloc | apply pw_below_drewN | apply below_drew1 | refine below_set ?_ GE499.out) | exact HB.out)))); rintro e w40 ⟨rfl, hb⟩; refine ⟨_, rfl, ?_⟩; have n0_ := Aside0.mk (blk_below (g := gb499) (o := .cells #[.string a0_0, .string a0_1, .int .u8 a0_2, .int .i64 a0_3, .int .i64 a0_4, .int .i64 a0_5, .int .i64 a0_6, .slice A0_7 l0_7.length c0_7] 45 (0, 0)) (by (with_reducible repeat (first | refine blk_drewN ?_ _ | refine blk_drew ?_ | refine blk_alloc ?_ _)); exact BK499.out) hb); have n1_ := Aside0.mk (below_step (by repeat (first | (with_reducible first | exact HB.out | apply below_alloc | apply pw_below_drewN | apply below_drew1 | refine below_set ?_ GE499.out) | exact HB.out)) hb); clear BK499; clear HB; have BK499 := n0_; have HB := n1_; clear n0_ n1_; (try clear hb); (try clear hb2); (try clear hk); (try clear hi)))
                go_ret
                exact ⟨by first | rfl | (simp [errW_none, errW_some] <;> rfl) | (simp [*, errW_none, errW_some] <;> rfl), by repeat (first | (with_reducible first | exact HB.out | apply below_alloc | apply pw_below_drewN | apply below_drew1 | refine below_set ?_ GE499.out) | exact HB.out)⟩
              · rw [if_neg c37] at H
                have c37b0 : (a0_2 == 49) = false := beq_eq_false_iff_ne.mpr c37
                have c37b1 : (a0_2 != 49) = true := bne_iff_ne.mpr c37
                by_cases c41 : a0_2 = 50
                · rw [if_pos c41] at H
                  have c41b0 : (a0_2 == 50) = true := beq_iff_eq.mpr c41
                  have c41b1 : (a0_2 != 50) = false := bne_eq_false_iff_eq.mpr c41
                  clear c41
                  replace H := Option.bind_eq_some_iff.mp H
                  obtain ⟨t503, A420, H⟩ := H
                  replace H : (some (t503 == 0)) = some r := H
                  have A42 := Aside0.mk A420
                  clear A420
                  obtain rfl := Option.some.inj H
                  have hcz43_0 : wc.cell? ⟨gb499, 0, none⟩ = some (.string a0_0) := (blk_cell BK499.out 0).trans rfl
                  have hcz43_1 : wc.cell? ⟨gb499, 1, none⟩ = some (.string a0_1) := (blk_cell BK499.out 1).trans rfl
                  have hcz43_2 : wc.cell? ⟨gb499, 2, none⟩ = some (.int .u8 a0_2) := (blk_cell BK499.out 2).trans rfl
                  have hcz43_3 : wc.cell? ⟨gb499, 3, none⟩ = some (.int .i64 a0_3) := (blk_cell BK499.out 3).trans rfl
                  have hcz43_4 : wc.cell? ⟨gb499, 4, none⟩ = some (.int .i64 a0_4) := (blk_cell BK499.out 4).trans rfl
                  have hcz43_5 : wc.cell? ⟨gb499, 5, none⟩ = some (.int .i64 a0_5) := (blk_cell BK499.out 5).trans rfl
                  have hcz43_6 : wc.cell? ⟨gb499, 6, none⟩ = some (.int .i64 a0_6) := (blk_cell BK499.out 6).trans rfl
                  have hcz43_7 : wc.cell? ⟨gb499, 7, none⟩ = some (.slice A0_7 l0_7.length c0_7) := (blk_cell BK499.out 7).trans rfl
                  have hfz43_0 := blk_frozen BK499.out 0
                  have hfz43_1 := blk_frozen BK499.out 1
                  have hfz43_2 := blk_frozen BK499.out 2
                  have hfz43_3 := blk_frozen BK499.out 3
                  have hfz43_4 := blk_frozen BK499.out 4
                  have hfz43_5 := blk_frozen BK499.out 5
                  have hfz43_6 := blk_frozen BK499.out 6
                  have hfz43_7 := blk_frozen BK499.out 7
                  go_wp2_with (first | ((with_reducible refine gate_callee (f := 65) rfl ?_); refine goesL_ (some 47) rfl rfl Tryd.func65 (by kernel_rfl) rfl #[.string a0_1] rfl (by (try simp only [List.map_toArray, List.map_cons, List.map_nil]); first | done | rfl | (simp only [List.length_drop, List.length_take]; rfl)) ?_; (with_reducible refine (path_Target.calls a0_1 t503 _ ?side1 A42.out).mono ?_); (case side1 => exact Aside0.mk (Tabs.below hT.out (by repeat (first | (with_reducible first | exact HB.out | apply below_alloc | apply pw_below_drewN | apply below_drew1 | refine below_set ?_ GE499.out) | exact HB.out)))); rintro e w44 ⟨rfl, hb⟩; refine ⟨_, rfl, ?_⟩; have n0_ := Aside0.mk (blk_below (g := gb499) (o := .cells #[.string a0_0, .string a0_1, .int .u8 a0_2, .int .i64 a0_3, .int .i64 a0_4, .int .i64 a0_5, .int .i64 a0_6, .slice A0_7 l0_7.length c0_7] 45 (0, 0)) (by (with_reducible repeat (first | refine blk_drewN ?_ _ | refine blk_drew ?_ | refine blk_alloc ?_ _)); exact BK499.out) hb); have n1_ := Aside0.mk (below_step (by repeat (first | (with_reducible first | exact HB.out | apply below_alloc | apply pw_below_drewN | apply below_drew1 | refine below_set ?_ GE499.out) | exact HB.out)) hb); clear BK499; clear HB; have BK499 := n0_; have HB := n1_; clear n0_ n1_; (try clear hb); (try clear hb2); (try clear hk); (try clear hi)))
                  go_ret
                  exact ⟨by first | rfl | (simp [errW_none, errW_some] <;> rfl) | (simp [*, errW_none, errW_some] <;> rfl), by repeat (first | (with_reducible first | exact HB.out | apply below_alloc | apply pw_below_drewN | apply below_drew1 | refine below_set ?_ GE499.out) | exact HB.out)⟩
                · rw [if_neg c41] at H
                  have c41b0 : (a0_2 == 50) = false := beq_eq_false_iff_ne.mpr c41
                  have c41b1 : (a0_2 != 50) = true := bne_iff_ne.mpr c41
                  obtain rfl := Option.some.inj H
                  go_wp2
                  go_ret
                  exact ⟨by first | rfl | (simp [errW_none, errW_some] <;> rfl) | (simp [*, errW_none, errW_some] <;> rfl), by repeat (first | (with_reducible first | exact HB.out | apply below_alloc | apply pw_below_drewN | apply below_drew1 | refine below_set ?_ GE499.out) | exact HB.out)⟩

end Go.Proofs.YtfljbidecljlcaaDoor.Print
