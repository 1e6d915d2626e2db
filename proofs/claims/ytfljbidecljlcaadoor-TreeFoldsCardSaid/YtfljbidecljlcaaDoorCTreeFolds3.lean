/-
  Part of the proof that TreeFolds answers true: texts put together (wip/bundle.py).
-/
import Derived.Test.YtfljbidecljlcaaDoorCTreeFolds2
import Derived.WalkKit
import Derived.LoopTactic
import Derived.WalkSpells
import Derived.Outline
import Derived.Deep.RegionHeld3
import Derived.Shelf.SlGeneric
import Derived.Shelf.SlIter.Nil
import Derived.Shelf.SortM.Plain
import Derived.Shelf.SortM.SortNone
import Derived.Ground.GgzProg
import Derived.Ground.SlgmProg
import Derived.Test.YtfljbidecljlcaaDoorProg
namespace Go.Proofs.YtfljbidecljlcaaDoor.Print
open Go.RowKit Go.Proofs.YtfljbidecljlcaaDoorW.PrintWords Go.Proofs.YtfljbidecljlcaaDoorW.PrintLast Go.Proofs.YtfljbidecljlcaaDoorW.PrintMore
attribute [local go_sem] max2_int min2_int max_two min_two max_three min_three max_four min_four   -- for this text's walks alone
set_option linter.unusedVariables false
set_option linter.unusedSimpArgs false
def bindleref08_clean.f (k : Nat) (a0 : ByteArray) : Option (Bool) := (bindleref01_Clean.f k a0).bind fun bt220 => (if bt220.2 = 0 then (some (a0.toList == bt220.1.toList)) else (some false))
set_option maxHeartbeats 8000000 in
set_option maxRecDepth 100000 in
theorem bindleref08_clean.calls (k : Nat) (a0 : ByteArray) (r : Bool) (w : World) (h : bindleref08_clean.f k a0 = some r) :
  Calls Tryd.prog 53 #[.string a0] w fun e w' => e = .returned (.bool r) ∧ Drawn0 w w' := by
 have H : ((bindleref01_Clean.f k a0).bind fun bt220 => (if bt220.2 = 0 then (some (a0.toList == bt220.1.toList)) else (some false))) = some r := h
 clear h
 replace H := Option.bind_eq_some_iff.mp H
 obtain ⟨⟨t220, t221⟩, A20, H⟩ := H
 replace H : (if t221 = 0 then (some (a0.toList == t220.toList)) else (some false)) = some r := H
 have A2 := A0_ A20
 clear A20
 by_cases c3 : t221 = 0
 rotate_left
 ·rw [if_neg c3] at H
  have c3b0 : (t221 == 0) = false := beq_eq_false_iff_ne.mpr c3
  have c3b1 : (t221 != 0) = true := bne_iff_ne.mpr c3
  obtain rfl := Option.some.inj H
  go_enter Tryd.func53, Tryd.ntmps53
  go_wp2_with (first | ((with_reducible refine gate_callee (f := 69) rfl ?_); refine goesL_ (some 7) rfl rfl Tryd.func69 (by kernel_rfl) rfl #[.string a0] rfl wm_ ?_; (with_reducible refine (bindleref01_Clean.calls k a0 t220 t221 _ A2.out).mono ?_); rintro e w' ⟨rfl, ⟨nd, rfl⟩⟩; refine ⟨_, rfl, ?_⟩))
  go_ret
  exact ⟨by first | rfl | (simp; done) | (simp [*]; done), by repeat (first | exact Drawn0.refl _ | apply Drawn0.step)⟩
 rw [if_pos c3] at H
 have c3b0 : (t221 == 0) = true := beq_iff_eq.mpr c3
 have c3b1 : (t221 != 0) = false := bne_eq_false_iff_eq.mpr c3
 clear c3
 obtain rfl := Option.some.inj H
 go_enter Tryd.func53, Tryd.ntmps53
 go_wp2_with (first | ((with_reducible refine gate_callee (f := 69) rfl ?_); refine goesL_ (some 7) rfl rfl Tryd.func69 (by kernel_rfl) rfl #[.string a0] rfl wm_ ?_; (with_reducible refine (bindleref01_Clean.calls k a0 t220 t221 _ A2.out).mono ?_); rintro e w' ⟨rfl, ⟨nd, rfl⟩⟩; refine ⟨_, rfl, ?_⟩))
 go_ret
 exact ⟨by first | rfl | (simp; done) | (simp [*]; done), by repeat (first | exact Drawn0.refl _ | apply Drawn0.step)⟩
end Go.Proofs.YtfljbidecljlcaaDoor.Print

namespace Go.Proofs.YtfljbidecljlcaaDoor.Print
open Go.RowKit Go.Proofs.YtfljbidecljlcaaDoorW.PrintWords Go.Proofs.YtfljbidecljlcaaDoorW.PrintLast Go.Proofs.YtfljbidecljlcaaDoorW.PrintMore
attribute [local go_sem] max2_int min2_int max_two min_two max_three min_three max_four min_four   -- for this text's walks alone
set_option linter.unusedVariables false
set_option linter.unusedSimpArgs false
def bindleref08_Meta.f (a0_0 : Int) (a0_1 : Int) (a0_2 : Int) (a0_3 : Int) : Option (Bool) := if a0_0 ≥ 0 then (if a0_0 ≤ 4095 then (if a0_1 ≥ 0 then (if a0_1 < 2147483648 then (if a0_2 ≥ 0 then (if a0_2 < 2147483648 then (if a0_3 ≥ 0 then (some (decide (a0_3 ≤ 1099511627776))) else (some false)) else (some false)) else (some false)) else (some false)) else (some false)) else (some false)) else (some false)
set_option maxHeartbeats 8000000 in
set_option maxRecDepth 100000 in
theorem bindleref08_Meta.calls (a0_0 : Int) (a0_1 : Int) (a0_2 : Int) (a0_3 : Int) (r : Bool) (w : World) (h : bindleref08_Meta.f a0_0 a0_1 a0_2 a0_3 = some r) :
  Calls Tryd.prog 54 #[.agg #[.int .i64 a0_0, .int .i64 a0_1, .int .i64 a0_2, .int .i64 a0_3]] w fun e w' => e = .returned (.bool r) ∧ Below w.heap.size w w' := by
 have hu38 := Tryd.underlying38
 have HB := A0_ (Below.refl w.heap.size w)
 have H : (if a0_0 ≥ 0 then (if a0_0 ≤ 4095 then (if a0_1 ≥ 0 then (if a0_1 < 2147483648 then (if a0_2 ≥ 0 then (if a0_2 < 2147483648 then (if a0_3 ≥ 0 then (some (decide (a0_3 ≤ 1099511627776))) else (some false)) else (some false)) else (some false)) else (some false)) else (some false)) else (some false)) else (some false)) = some r := h
 clear h
 by_cases c2 : a0_0 ≥ 0
 rotate_left
 ·rw [if_neg c2] at H
  have c2b0 : decide (0 ≤ a0_0) = false := decide_eq_false c2
  clear c2
  obtain rfl := Option.some.inj H
  go_enter Tryd.func54, Tryd.ntmps54
  go_wp2_with (first | ((with_reducible refine gate_dst (N := 1) rfl ?_); refine box_event ?hg (N := 1) ?hd (cs := #[.int .i64 a0_0, .int .i64 a0_1, .int .i64 a0_2, .int .i64 a0_3]) (t := 38) ?hr ?_; (case hd => rfl); (case hg => rfl); (case hr => first | (go_simp; done) | (go_simp; rfl)); intro gb222 hg w23 hbox hb; have n0_ := A0_ (below_step (wb_ HB.out) hb); have n1_ := A0_ (hbox); have n2_ := A0_ ((by rw [hg]; exact (below_size (wb_ HB.out)) : w.heap.size ≤ gb222)); have n3_ := A0_ ((by rw [hg]; exact (below_size (wb_ HB.out)) : w.heap.size ≤ gb222)); clear HB; have HB := n0_; have BK222 := n1_; have GW222 := n2_; have GE222 := n3_; clear n0_ n1_ n2_ n3_; clear hb hbox hg; have hcz24_0 : w23.cell? ⟨gb222, 0, none⟩ = some (.int .i64 a0_0) := (bc_ BK222.out 0).trans rfl; have hcz24_1 : w23.cell? ⟨gb222, 1, none⟩ = some (.int .i64 a0_1) := (bc_ BK222.out 1).trans rfl; have hcz24_2 : w23.cell? ⟨gb222, 2, none⟩ = some (.int .i64 a0_2) := (bc_ BK222.out 2).trans rfl; have hcz24_3 : w23.cell? ⟨gb222, 3, none⟩ = some (.int .i64 a0_3) := (bc_ BK222.out 3).trans rfl; have hfz24_0 := bf_ BK222.out 0; have hfz24_1 := bf_ BK222.out 1; have hfz24_2 := bf_ BK222.out 2; have hfz24_3 := bf_ BK222.out 3))
  go_ret
  exact ⟨we_, wb1_ HB.out GE222.out⟩
 rw [if_pos c2] at H
 have c2b0 : decide (0 ≤ a0_0) = true := decide_eq_true c2
 clear c2
 by_cases c3 : a0_0 ≤ 4095
 rotate_left
 ·rw [if_neg c3] at H
  have c3b0 : decide (a0_0 ≤ 4095) = false := decide_eq_false c3
  clear c3
  obtain rfl := Option.some.inj H
  go_enter Tryd.func54, Tryd.ntmps54
  go_wp2_with (first | ((with_reducible refine gate_dst (N := 1) rfl ?_); refine box_event ?hg (N := 1) ?hd (cs := #[.int .i64 a0_0, .int .i64 a0_1, .int .i64 a0_2, .int .i64 a0_3]) (t := 38) ?hr ?_; (case hd => rfl); (case hg => rfl); (case hr => first | (go_simp; done) | (go_simp; rfl)); intro gb222 hg w21 hbox hb; have n0_ := A0_ (below_step (wb_ HB.out) hb); have n1_ := A0_ (hbox); have n2_ := A0_ ((by rw [hg]; exact (below_size (wb_ HB.out)) : w.heap.size ≤ gb222)); have n3_ := A0_ ((by rw [hg]; exact (below_size (wb_ HB.out)) : w.heap.size ≤ gb222)); clear HB; have HB := n0_; have BK222 := n1_; have GW222 := n2_; have GE222 := n3_; clear n0_ n1_ n2_ n3_; clear hb hbox hg; have hcz22_0 : w21.cell? ⟨gb222, 0, none⟩ = some (.int .i64 a0_0) := (bc_ BK222.out 0).trans rfl; have hcz22_1 : w21.cell? ⟨gb222, 1, none⟩ = some (.int .i64 a0_1) := (bc_ BK222.out 1).trans rfl; have hcz22_2 : w21.cell? ⟨gb222, 2, none⟩ = some (.int .i64 a0_2) := (bc_ BK222.out 2).trans rfl; have hcz22_3 : w21.cell? ⟨gb222, 3, none⟩ = some (.int .i64 a0_3) := (bc_ BK222.out 3).trans rfl; have hfz22_0 := bf_ BK222.out 0; have hfz22_1 := bf_ BK222.out 1; have hfz22_2 := bf_ BK222.out 2; have hfz22_3 := bf_ BK222.out 3))
  go_ret
  exact ⟨we_, wb1_ HB.out GE222.out⟩
 rw [if_pos c3] at H
 have c3b0 : decide (a0_0 ≤ 4095) = true := decide_eq_true c3
 clear c3
 by_cases c4 : a0_1 ≥ 0
 rotate_left
 ·rw [if_neg c4] at H
  have c4b0 : decide (0 ≤ a0_1) = false := decide_eq_false c4
  clear c4
  obtain rfl := Option.some.inj H
  go_enter Tryd.func54, Tryd.ntmps54
  go_wp2_with (first | ((with_reducible refine gate_dst (N := 1) rfl ?_); refine box_event ?hg (N := 1) ?hd (cs := #[.int .i64 a0_0, .int .i64 a0_1, .int .i64 a0_2, .int .i64 a0_3]) (t := 38) ?hr ?_; (case hd => rfl); (case hg => rfl); (case hr => first | (go_simp; done) | (go_simp; rfl)); intro gb222 hg w19 hbox hb; have n0_ := A0_ (below_step (wb_ HB.out) hb); have n1_ := A0_ (hbox); have n2_ := A0_ ((by rw [hg]; exact (below_size (wb_ HB.out)) : w.heap.size ≤ gb222)); have n3_ := A0_ ((by rw [hg]; exact (below_size (wb_ HB.out)) : w.heap.size ≤ gb222)); clear HB; have HB := n0_; have BK222 := n1_; have GW222 := n2_; have GE222 := n3_; clear n0_ n1_ n2_ n3_; clear hb hbox hg; have hcz20_0 : w19.cell? ⟨gb222, 0, none⟩ = some (.int .i64 a0_0) := (bc_ BK222.out 0).trans rfl; have hcz20_1 : w19.cell? ⟨gb222, 1, none⟩ = some (.int .i64 a0_1) := (bc_ BK222.out 1).trans rfl; have hcz20_2 : w19.cell? ⟨gb222, 2, none⟩ = some (.int .i64 a0_2) := (bc_ BK222.out 2).trans rfl; have hcz20_3 : w19.cell? ⟨gb222, 3, none⟩ = some (.int .i64 a0_3) := (bc_ BK222.out 3).trans rfl; have hfz20_0 := bf_ BK222.out 0; have hfz20_1 := bf_ BK222.out 1; have hfz20_2 := bf_ BK222.out 2; have hfz20_3 := bf_ BK222.out 3))
  go_ret
  exact ⟨we_, wb1_ HB.out GE222.out⟩
 rw [if_pos c4] at H
 have c4b0 : decide (0 ≤ a0_1) = true := decide_eq_true c4
 clear c4
 by_cases c5 : a0_1 < 2147483648
 rotate_left
 ·rw [if_neg c5] at H
  have c5b0 : decide (a0_1 < 2147483648) = false := decide_eq_false c5
  clear c5
  obtain rfl := Option.some.inj H
  go_enter Tryd.func54, Tryd.ntmps54
  go_wp2_with (first | ((with_reducible refine gate_dst (N := 1) rfl ?_); refine box_event ?hg (N := 1) ?hd (cs := #[.int .i64 a0_0, .int .i64 a0_1, .int .i64 a0_2, .int .i64 a0_3]) (t := 38) ?hr ?_; (case hd => rfl); (case hg => rfl); (case hr => first | (go_simp; done) | (go_simp; rfl)); intro gb222 hg w17 hbox hb; have n0_ := A0_ (below_step (wb_ HB.out) hb); have n1_ := A0_ (hbox); have n2_ := A0_ ((by rw [hg]; exact (below_size (wb_ HB.out)) : w.heap.size ≤ gb222)); have n3_ := A0_ ((by rw [hg]; exact (below_size (wb_ HB.out)) : w.heap.size ≤ gb222)); clear HB; have HB := n0_; have BK222 := n1_; have GW222 := n2_; have GE222 := n3_; clear n0_ n1_ n2_ n3_; clear hb hbox hg; have hcz18_0 : w17.cell? ⟨gb222, 0, none⟩ = some (.int .i64 a0_0) := (bc_ BK222.out 0).trans rfl; have hcz18_1 : w17.cell? ⟨gb222, 1, none⟩ = some (.int .i64 a0_1) := (bc_ BK222.out 1).trans rfl; have hcz18_2 : w17.cell? ⟨gb222, 2, none⟩ = some (.int .i64 a0_2) := (bc_ BK222.out 2).trans rfl; have hcz18_3 : w17.cell? ⟨gb222, 3, none⟩ = some (.int .i64 a0_3) := (bc_ BK222.out 3).trans rfl; have hfz18_0 := bf_ BK222.out 0; have hfz18_1 := bf_ BK222.out 1; have hfz18_2 := bf_ BK222.out 2; have hfz18_3 := bf_ BK222.out 3))
  go_ret
  exact ⟨we_, wb1_ HB.out GE222.out⟩
 rw [if_pos c5] at H
 have c5b0 : decide (a0_1 < 2147483648) = true := decide_eq_true c5
 clear c5
 by_cases c6 : a0_2 ≥ 0
 rotate_left
 ·rw [if_neg c6] at H
  have c6b0 : decide (0 ≤ a0_2) = false := decide_eq_false c6
  clear c6
  obtain rfl := Option.some.inj H
  go_enter Tryd.func54, Tryd.ntmps54
  go_wp2_with (first | ((with_reducible refine gate_dst (N := 1) rfl ?_); refine box_event ?hg (N := 1) ?hd (cs := #[.int .i64 a0_0, .int .i64 a0_1, .int .i64 a0_2, .int .i64 a0_3]) (t := 38) ?hr ?_; (case hd => rfl); (case hg => rfl); (case hr => first | (go_simp; done) | (go_simp; rfl)); intro gb222 hg w15 hbox hb; have n0_ := A0_ (below_step (wb_ HB.out) hb); have n1_ := A0_ (hbox); have n2_ := A0_ ((by rw [hg]; exact (below_size (wb_ HB.out)) : w.heap.size ≤ gb222)); have n3_ := A0_ ((by rw [hg]; exact (below_size (wb_ HB.out)) : w.heap.size ≤ gb222)); clear HB; have HB := n0_; have BK222 := n1_; have GW222 := n2_; have GE222 := n3_; clear n0_ n1_ n2_ n3_; clear hb hbox hg; have hcz16_0 : w15.cell? ⟨gb222, 0, none⟩ = some (.int .i64 a0_0) := (bc_ BK222.out 0).trans rfl; have hcz16_1 : w15.cell? ⟨gb222, 1, none⟩ = some (.int .i64 a0_1) := (bc_ BK222.out 1).trans rfl; have hcz16_2 : w15.cell? ⟨gb222, 2, none⟩ = some (.int .i64 a0_2) := (bc_ BK222.out 2).trans rfl; have hcz16_3 : w15.cell? ⟨gb222, 3, none⟩ = some (.int .i64 a0_3) := (bc_ BK222.out 3).trans rfl; have hfz16_0 := bf_ BK222.out 0; have hfz16_1 := bf_ BK222.out 1; have hfz16_2 := bf_ BK222.out 2; have hfz16_3 := bf_ BK222.out 3))
  go_ret
  exact ⟨we_, wb1_ HB.out GE222.out⟩
 rw [if_pos c6] at H
 have c6b0 : decide (0 ≤ a0_2) = true := decide_eq_true c6
 clear c6
 by_cases c7 : a0_2 < 2147483648
 rotate_left
 ·rw [if_neg c7] at H
  have c7b0 : decide (a0_2 < 2147483648) = false := decide_eq_false c7
  clear c7
  obtain rfl := Option.some.inj H
  go_enter Tryd.func54, Tryd.ntmps54
  go_wp2_with (first | ((with_reducible refine gate_dst (N := 1) rfl ?_); refine box_event ?hg (N := 1) ?hd (cs := #[.int .i64 a0_0, .int .i64 a0_1, .int .i64 a0_2, .int .i64 a0_3]) (t := 38) ?hr ?_; (case hd => rfl); (case hg => rfl); (case hr => first | (go_simp; done) | (go_simp; rfl)); intro gb222 hg w13 hbox hb; have n0_ := A0_ (below_step (wb_ HB.out) hb); have n1_ := A0_ (hbox); have n2_ := A0_ ((by rw [hg]; exact (below_size (wb_ HB.out)) : w.heap.size ≤ gb222)); have n3_ := A0_ ((by rw [hg]; exact (below_size (wb_ HB.out)) : w.heap.size ≤ gb222)); clear HB; have HB := n0_; have BK222 := n1_; have GW222 := n2_; have GE222 := n3_; clear n0_ n1_ n2_ n3_; clear hb hbox hg; have hcz14_0 : w13.cell? ⟨gb222, 0, none⟩ = some (.int .i64 a0_0) := (bc_ BK222.out 0).trans rfl; have hcz14_1 : w13.cell? ⟨gb222, 1, none⟩ = some (.int .i64 a0_1) := (bc_ BK222.out 1).trans rfl; have hcz14_2 : w13.cell? ⟨gb222, 2, none⟩ = some (.int .i64 a0_2) := (bc_ BK222.out 2).trans rfl; have hcz14_3 : w13.cell? ⟨gb222, 3, none⟩ = some (.int .i64 a0_3) := (bc_ BK222.out 3).trans rfl; have hfz14_0 := bf_ BK222.out 0; have hfz14_1 := bf_ BK222.out 1; have hfz14_2 := bf_ BK222.out 2; have hfz14_3 := bf_ BK222.out 3))
  go_ret
  exact ⟨we_, wb1_ HB.out GE222.out⟩
 rw [if_pos c7] at H
 have c7b0 : decide (a0_2 < 2147483648) = true := decide_eq_true c7
 clear c7
 by_cases c8 : a0_3 ≥ 0
 ·rw [if_pos c8] at H
  have c8b0 : decide (0 ≤ a0_3) = true := decide_eq_true c8
  clear c8
  obtain rfl := Option.some.inj H
  go_enter Tryd.func54, Tryd.ntmps54
  go_wp2_with (first | ((with_reducible refine gate_dst (N := 1) rfl ?_); refine box_event ?hg (N := 1) ?hd (cs := #[.int .i64 a0_0, .int .i64 a0_1, .int .i64 a0_2, .int .i64 a0_3]) (t := 38) ?hr ?_; (case hd => rfl); (case hg => rfl); (case hr => first | (go_simp; done) | (go_simp; rfl)); intro gb222 hg w9 hbox hb; have n0_ := A0_ (below_step (wb_ HB.out) hb); have n1_ := A0_ (hbox); have n2_ := A0_ ((by rw [hg]; exact (below_size (wb_ HB.out)) : w.heap.size ≤ gb222)); have n3_ := A0_ ((by rw [hg]; exact (below_size (wb_ HB.out)) : w.heap.size ≤ gb222)); clear HB; have HB := n0_; have BK222 := n1_; have GW222 := n2_; have GE222 := n3_; clear n0_ n1_ n2_ n3_; clear hb hbox hg; have hcz10_0 : w9.cell? ⟨gb222, 0, none⟩ = some (.int .i64 a0_0) := (bc_ BK222.out 0).trans rfl; have hcz10_1 : w9.cell? ⟨gb222, 1, none⟩ = some (.int .i64 a0_1) := (bc_ BK222.out 1).trans rfl; have hcz10_2 : w9.cell? ⟨gb222, 2, none⟩ = some (.int .i64 a0_2) := (bc_ BK222.out 2).trans rfl; have hcz10_3 : w9.cell? ⟨gb222, 3, none⟩ = some (.int .i64 a0_3) := (bc_ BK222.out 3).trans rfl; have hfz10_0 := bf_ BK222.out 0; have hfz10_1 := bf_ BK222.out 1; have hfz10_2 := bf_ BK222.out 2; have hfz10_3 := bf_ BK222.out 3))
  go_ret
  exact ⟨we_, wb1_ HB.out GE222.out⟩
 rw [if_neg c8] at H
 have c8b0 : decide (0 ≤ a0_3) = false := decide_eq_false c8
 clear c8
 obtain rfl := Option.some.inj H
 go_enter Tryd.func54, Tryd.ntmps54
 go_wp2_with (first | ((with_reducible refine gate_dst (N := 1) rfl ?_); refine box_event ?hg (N := 1) ?hd (cs := #[.int .i64 a0_0, .int .i64 a0_1, .int .i64 a0_2, .int .i64 a0_3]) (t := 38) ?hr ?_; (case hd => rfl); (case hg => rfl); (case hr => first | (go_simp; done) | (go_simp; rfl)); intro gb222 hg w11 hbox hb; have n0_ := A0_ (below_step (wb_ HB.out) hb); have n1_ := A0_ (hbox); have n2_ := A0_ ((by rw [hg]; exact (below_size (wb_ HB.out)) : w.heap.size ≤ gb222)); have n3_ := A0_ ((by rw [hg]; exact (below_size (wb_ HB.out)) : w.heap.size ≤ gb222)); clear HB; have HB := n0_; have BK222 := n1_; have GW222 := n2_; have GE222 := n3_; clear n0_ n1_ n2_ n3_; clear hb hbox hg; have hcz12_0 : w11.cell? ⟨gb222, 0, none⟩ = some (.int .i64 a0_0) := (bc_ BK222.out 0).trans rfl; have hcz12_1 : w11.cell? ⟨gb222, 1, none⟩ = some (.int .i64 a0_1) := (bc_ BK222.out 1).trans rfl; have hcz12_2 : w11.cell? ⟨gb222, 2, none⟩ = some (.int .i64 a0_2) := (bc_ BK222.out 2).trans rfl; have hcz12_3 : w11.cell? ⟨gb222, 3, none⟩ = some (.int .i64 a0_3) := (bc_ BK222.out 3).trans rfl; have hfz12_0 := bf_ BK222.out 0; have hfz12_1 := bf_ BK222.out 1; have hfz12_2 := bf_ BK222.out 2; have hfz12_3 := bf_ BK222.out 3))
 go_ret
 exact ⟨we_, wb1_ HB.out GE222.out⟩
end Go.Proofs.YtfljbidecljlcaaDoor.Print

namespace Go.Proofs.YtfljbidecljlcaaDoor.Print
open Go.RowKit Go.Proofs.YtfljbidecljlcaaDoorW.PrintWords Go.Proofs.YtfljbidecljlcaaDoorW.PrintLast Go.Proofs.YtfljbidecljlcaaDoorW.PrintMore
attribute [local go_sem] max2_int min2_int max_two min_two max_three min_three max_four min_four   -- for this text's walks alone
set_option linter.unusedVariables false
set_option linter.unusedSimpArgs false
def bindleref08_Target.f (k : Nat) (a0 : ByteArray) : Option (Int) := (bindleref01_Text.f k a0).bind fun t223 => (if t223 = true then (if a0.toList = ([] : List UInt8) then (some 6) else (if (a0.size : Int) > 200 then (some 6) else (some 0))) else (some 9))
set_option maxHeartbeats 8000000 in
set_option maxRecDepth 100000 in
theorem bindleref08_Target.calls (k : Nat) (a0 : ByteArray) (r : Int) (w : World) (h : bindleref08_Target.f k a0 = some r) :
  Calls Tryd.prog 55 #[.string a0] w fun e w' => e = .returned (.int .i64 r) ∧ Drawn0 w w' := by
 have H : ((bindleref01_Text.f k a0).bind fun t223 => (if t223 = true then (if a0.toList = ([] : List UInt8) then (some 6) else (if (a0.size : Int) > 200 then (some 6) else (some 0))) else (some 9))) = some r := h
 clear h
 replace H := Option.bind_eq_some_iff.mp H
 obtain ⟨t223, A20, H⟩ := H
 replace H : (if t223 = true then (if a0.toList = ([] : List UInt8) then (some 6) else (if (a0.size : Int) > 200 then (some 6) else (some 0))) else (some 9)) = some r := H
 have A2 := A0_ A20
 clear A20
 by_cases c3 : t223 = true
 rotate_left
 ·replace c3 := Bool.eq_false_iff.mpr c3
  subst c3
  have H1 : (some 9) = some r := by rw [if_neg (show ¬ (false = true) by decide)] at H; exact H
  clear H
  have H := H1
  clear H1
  obtain rfl := Option.some.inj H
  go_enter Tryd.func55, Tryd.ntmps55
  go_wp2_with (first | ((with_reducible refine gate_callee (f := 70) rfl ?_); refine goesL_ (some 4) rfl rfl Tryd.func70 (by kernel_rfl) rfl #[.string a0] rfl wm_ ?_; (with_reducible refine (bindleref01_Text.calls k a0 false _ A2.out).mono ?_); rintro e w' ⟨rfl, ⟨nd, rfl⟩⟩; refine ⟨_, rfl, ?_⟩))
  go_ret
  exact ⟨by first | rfl | (simp; done) | (simp [*]; done), by repeat (first | exact Drawn0.refl _ | apply Drawn0.step)⟩
 subst c3
 have H1 : (if a0.toList = ([] : List UInt8) then (some 6) else (if (a0.size : Int) > 200 then (some 6) else (some 0))) = some r := by rw [if_pos rfl] at H; exact H
 clear H
 have H := H1
 clear H1
 by_cases c4 : a0.toList = ([] : List UInt8)
 ·rw [if_pos c4] at H
  have c4b0 : (a0.toList == ([] : List UInt8)) = true := beq_iff_eq.mpr c4
  have c4b1 : (a0.toList != ([] : List UInt8)) = false := bne_eq_false_iff_eq.mpr c4
  clear c4
  obtain rfl := Option.some.inj H
  go_enter Tryd.func55, Tryd.ntmps55
  go_wp2_with (first | ((with_reducible refine gate_callee (f := 70) rfl ?_); refine goesL_ (some 4) rfl rfl Tryd.func70 (by kernel_rfl) rfl #[.string a0] rfl wm_ ?_; (with_reducible refine (bindleref01_Text.calls k a0 true _ A2.out).mono ?_); rintro e w' ⟨rfl, ⟨nd, rfl⟩⟩; refine ⟨_, rfl, ?_⟩))
  go_ret
  exact ⟨by first | rfl | (simp; done) | (simp [*]; done), by repeat (first | exact Drawn0.refl _ | apply Drawn0.step)⟩
 rw [if_neg c4] at H
 have c4b0 : (a0.toList == ([] : List UInt8)) = false := beq_eq_false_iff_ne.mpr c4
 have c4b1 : (a0.toList != ([] : List UInt8)) = true := bne_iff_ne.mpr c4
 by_cases c5 : (a0.size : Int) > 200
 ·rw [if_pos c5] at H
  have c5b0 : decide (200 < (a0.size : Int)) = true := decide_eq_true c5
  have c5b1 : decide (200 < a0.size) = true := decide_eq_true (by omega)
  clear c5
  obtain rfl := Option.some.inj H
  go_enter Tryd.func55, Tryd.ntmps55
  go_wp2_with (first | ((with_reducible refine gate_callee (f := 70) rfl ?_); refine goesL_ (some 4) rfl rfl Tryd.func70 (by kernel_rfl) rfl #[.string a0] rfl wm_ ?_; (with_reducible refine (bindleref01_Text.calls k a0 true _ A2.out).mono ?_); rintro e w' ⟨rfl, ⟨nd, rfl⟩⟩; refine ⟨_, rfl, ?_⟩))
  go_ret
  exact ⟨by first | rfl | (simp; done) | (simp [*]; done), by repeat (first | exact Drawn0.refl _ | apply Drawn0.step)⟩
 rw [if_neg c5] at H
 have c5b0 : decide (200 < (a0.size : Int)) = false := decide_eq_false c5
 have c5b1 : decide (200 < a0.size) = false := decide_eq_false (by omega)
 clear c5
 obtain rfl := Option.some.inj H
 go_enter Tryd.func55, Tryd.ntmps55
 go_wp2_with (first | ((with_reducible refine gate_callee (f := 70) rfl ?_); refine goesL_ (some 4) rfl rfl Tryd.func70 (by kernel_rfl) rfl #[.string a0] rfl wm_ ?_; (with_reducible refine (bindleref01_Text.calls k a0 true _ A2.out).mono ?_); rintro e w' ⟨rfl, ⟨nd, rfl⟩⟩; refine ⟨_, rfl, ?_⟩))
 go_ret
 exact ⟨by first | rfl | (simp; done) | (simp [*]; done), by repeat (first | exact Drawn0.refl _ | apply Drawn0.step)⟩
end Go.Proofs.YtfljbidecljlcaaDoor.Print

namespace Go.Proofs.YtfljbidecljlcaaDoor.Print
open Go.RowKit Go.Proofs.YtfljbidecljlcaaDoorW.PrintWords Go.Proofs.YtfljbidecljlcaaDoorW.PrintLast Go.Proofs.YtfljbidecljlcaaDoorW.PrintMore
attribute [local go_sem] max2_int min2_int max_two min_two max_three min_three max_four min_four   -- for this text's walks alone
set_option linter.unusedVariables false
set_option linter.unusedSimpArgs false
mutual
def bindleref08_Good.j0 : Nat → Bool → ByteArray → ByteArray → Int → Int → Int → Int → Int → List Int → Option (Bool)
 | 0, _, _, _, _, _, _, _, _, _ => none
 | k + 1, x29, x225000, x225001, x225002, x225003, x225004, x225005, x225006, x225007 => if x29 = true then (some false) else (if x225002 = 48 then (bindleref08_Good.j1 k x225002 (x225002 == 48) x225000 x225001 x225002 x225003 x225004 x225005 x225006 x225007) else (bindleref08_Good.j1 k x225002 (x225002 == 53) x225000 x225001 x225002 x225003 x225004 x225005 x225006 x225007))
def bindleref08_Good.j1 : Nat → Int → Bool → ByteArray → ByteArray → Int → Int → Int → Int → Int → List Int → Option (Bool)
 | 0, _, _, _, _, _, _, _, _, _, _ => none
 | k + 1, x31, x32, x225000, x225001, x225002, x225003, x225004, x225005, x225006, x225007 => if x32 = true then (some (x225001.toList == ([] : List UInt8))) else (if x31 = 49 then ((bindleref08_clean.f k x225001).bind fun t227 => (some t227)) else (if x31 = 50 then ((bindleref08_Target.f k x225001).bind fun t228 => (some (t228 == 0))) else (some false)))
end
def bindleref08_Good.f (k : Nat) (a0_0 : ByteArray) (a0_1 : ByteArray) (a0_2 : Int) (a0_3 : Int) (a0_4 : Int) (a0_5 : Int) (a0_6 : Int) (l0_7 : List Int) : Option (Bool) := (bindleref08_clean.f k a0_0).bind fun t225 => (if t225 = true then ((bindleref08_Meta.f a0_3 a0_4 a0_5 a0_6).bind fun t226 => (if t226 = true then (if (l0_7.length : Int) > 1048576 then (bindleref08_Good.j0 k true a0_0 a0_1 a0_2 a0_3 a0_4 a0_5 a0_6 l0_7) else (if a0_2 = 48 then (bindleref08_Good.j0 k false a0_0 a0_1 a0_2 a0_3 a0_4 a0_5 a0_6 l0_7) else (bindleref08_Good.j0 k (decide ((l0_7.length : Int) > 0)) a0_0 a0_1 a0_2 a0_3 a0_4 a0_5 a0_6 l0_7))) else (bindleref08_Good.j0 k true a0_0 a0_1 a0_2 a0_3 a0_4 a0_5 a0_6 l0_7))) else (bindleref08_Good.j0 k true a0_0 a0_1 a0_2 a0_3 a0_4 a0_5 a0_6 l0_7))
set_option maxHeartbeats 8000000 in
set_option maxRecDepth 100000 in
theorem bindleref08_Good.calls (k : Nat) (a0_0 : ByteArray) (a0_1 : ByteArray) (a0_2 : Int) (a0_3 : Int) (a0_4 : Int) (a0_5 : Int) (a0_6 : Int) (A0_7 : Option Addr) (c0_7 : Nat) (l0_7 : List Int) (r : Bool) (w : World) (hr0_7 : Kd.C (Kd.int .u8) w A0_7 l0_7.length l0_7) (hc0_7 : l0_7.length ≤ c0_7) (h : bindleref08_Good.f k a0_0 a0_1 a0_2 a0_3 a0_4 a0_5 a0_6 l0_7 = some r) :
  Calls Tryd.prog 34 #[.agg #[.string a0_0, .string a0_1, .int .u8 a0_2, .int .i64 a0_3, .int .i64 a0_4, .int .i64 a0_5, .int .i64 a0_6, .slice A0_7 l0_7.length c0_7]] w fun e w' => e = .returned (.bool r) ∧ Below w.heap.size w w' := by
 have hu45 := Tryd.underlying45
 have hu38 := Tryd.underlying38
 have HR0_7 := A0_ hr0_7
 have HC0_7 := A0_ hc0_7
 clear hr0_7 hc0_7
 have HB := A0_ (Below.refl w.heap.size w)
 have H : ((bindleref08_clean.f k a0_0).bind fun t225 => (if t225 = true then ((bindleref08_Meta.f a0_3 a0_4 a0_5 a0_6).bind fun t226 => (if t226 = true then (if (l0_7.length : Int) > 1048576 then (bindleref08_Good.j0 k true a0_0 a0_1 a0_2 a0_3 a0_4 a0_5 a0_6 l0_7) else (if a0_2 = 48 then (bindleref08_Good.j0 k false a0_0 a0_1 a0_2 a0_3 a0_4 a0_5 a0_6 l0_7) else (bindleref08_Good.j0 k (decide ((l0_7.length : Int) > 0)) a0_0 a0_1 a0_2 a0_3 a0_4 a0_5 a0_6 l0_7))) else (bindleref08_Good.j0 k true a0_0 a0_1 a0_2 a0_3 a0_4 a0_5 a0_6 l0_7))) else (bindleref08_Good.j0 k true a0_0 a0_1 a0_2 a0_3 a0_4 a0_5 a0_6 l0_7))) = some r := h
 clear h
 have HC2 := A0_ H
 clear H
 go_enter Tryd.func34, Tryd.ntmps34
 go_upto_region 1 with (first | ((with_reducible refine gate_dst (N := 1) rfl ?_); (try (refine gate_guard (by rfl) ?_; dsimp only)); refine box_event ?hg (N := 1) ?hd (cs := #[.string a0_0, .string a0_1, .int .u8 a0_2, .int .i64 a0_3, .int .i64 a0_4, .int .i64 a0_5, .int .i64 a0_6, .slice A0_7 l0_7.length c0_7]) (t := 45) ?hr ?_; (case hd => rfl); (case hg => rfl); (case hr => first | (go_simp; done) | (go_simp; rfl)); intro gb224 hg w3 hbox hb; have n0_ := A0_ (below_step (wb_ HB.out) hb); have n1_ := A0_ (hbox); have n2_ := A0_ ((by rw [hg]; exact (below_size (wb_ HB.out)) : w.heap.size ≤ gb224)); have n3_ := A0_ ((by rw [hg]; exact (below_size (wb_ HB.out)) : w.heap.size ≤ gb224)); clear HB; have HB := n0_; have BK224 := n1_; have GW224 := n2_; have GE224 := n3_; clear n0_ n1_ n2_ n3_; clear hb hbox hg))
 (try simp only [Act.put, List.setIfInBounds_toArray, List.set_cons_zero, List.set_cons_succ])
 go_cut [29] (fun v29 wc => ∃ (kq : Nat) (x29_1 : Bool), v29 = .bool x29_1 ∧ Aside0 (bindleref08_Good.j0 kq x29_1 a0_0 a0_1 a0_2 a0_3 a0_4 a0_5 a0_6 l0_7 = some r) ∧ Aside0 (kq ≤ k) ∧ Aside0 (wc.heap[gb224]? = some (.cells #[.string a0_0, .string a0_1, .int .u8 a0_2, .int .i64 a0_3, .int .i64 a0_4, .int .i64 a0_5, .int .i64 a0_6, (.slice A0_7 l0_7.length c0_7)] 45 (0, 0))) ∧ Aside0 (Below w.heap.size w wc))
 case first =>
  have H := HC2.out
  clear HC2
  replace H := Option.bind_eq_some_iff.mp H
  obtain ⟨t225, A40, H⟩ := H
  replace H : (if t225 = true then ((bindleref08_Meta.f a0_3 a0_4 a0_5 a0_6).bind fun t226 => (if t226 = true then (if (l0_7.length : Int) > 1048576 then (bindleref08_Good.j0 k true a0_0 a0_1 a0_2 a0_3 a0_4 a0_5 a0_6 l0_7) else (if a0_2 = 48 then (bindleref08_Good.j0 k false a0_0 a0_1 a0_2 a0_3 a0_4 a0_5 a0_6 l0_7) else (bindleref08_Good.j0 k (decide ((l0_7.length : Int) > 0)) a0_0 a0_1 a0_2 a0_3 a0_4 a0_5 a0_6 l0_7))) else (bindleref08_Good.j0 k true a0_0 a0_1 a0_2 a0_3 a0_4 a0_5 a0_6 l0_7))) else (bindleref08_Good.j0 k true a0_0 a0_1 a0_2 a0_3 a0_4 a0_5 a0_6 l0_7)) = some r := H
  have A4 := A0_ A40
  clear A40
  by_cases c5 : t225 = true
  rotate_left
  ·replace c5 := Bool.eq_false_iff.mpr c5
   subst c5
   have H1 : (bindleref08_Good.j0 k true a0_0 a0_1 a0_2 a0_3 a0_4 a0_5 a0_6 l0_7) = some r := by rw [if_neg (show ¬ (false = true) by decide)] at H; exact H
   clear H
   have H := H1
   clear H1
   have H' := A0_ H
   clear H
   have hcz21_0 : w3.cell? ⟨gb224, 0, none⟩ = some (.string a0_0) := (bc_ BK224.out 0).trans rfl
   have hcz21_1 : w3.cell? ⟨gb224, 1, none⟩ = some (.string a0_1) := (bc_ BK224.out 1).trans rfl
   have hcz21_2 : w3.cell? ⟨gb224, 2, none⟩ = some (.int .u8 a0_2) := (bc_ BK224.out 2).trans rfl
   have hcz21_3 : w3.cell? ⟨gb224, 3, none⟩ = some (.int .i64 a0_3) := (bc_ BK224.out 3).trans rfl
   have hcz21_4 : w3.cell? ⟨gb224, 4, none⟩ = some (.int .i64 a0_4) := (bc_ BK224.out 4).trans rfl
   have hcz21_5 : w3.cell? ⟨gb224, 5, none⟩ = some (.int .i64 a0_5) := (bc_ BK224.out 5).trans rfl
   have hcz21_6 : w3.cell? ⟨gb224, 6, none⟩ = some (.int .i64 a0_6) := (bc_ BK224.out 6).trans rfl
   have hcz21_7 : w3.cell? ⟨gb224, 7, none⟩ = some (.slice A0_7 l0_7.length c0_7) := (bc_ BK224.out 7).trans rfl
   have hfz21_0 := bf_ BK224.out 0
   have hfz21_1 := bf_ BK224.out 1
   have hfz21_2 := bf_ BK224.out 2
   have hfz21_3 := bf_ BK224.out 3
   have hfz21_4 := bf_ BK224.out 4
   have hfz21_5 := bf_ BK224.out 5
   have hfz21_6 := bf_ BK224.out 6
   have hfz21_7 := bf_ BK224.out 7
   go_wp2_with (first | ((with_reducible refine gate_callee (f := 53) rfl ?_); refine goesL_ (some 5) rfl rfl Tryd.func53 (by kernel_rfl) rfl #[.string a0_0] rfl wm_ ?_; (with_reducible refine (bindleref08_clean.calls k a0_0 false _ A4.out).mono ?_); rintro e w' ⟨rfl, ⟨nd, rfl⟩⟩; refine ⟨_, rfl, ?_⟩))
   go_meet
   case rel => exact ⟨_, (true), wr_, H', ⟨by first | omega | exact Nat.le_refl _⟩, ⟨wB_ BK224.out⟩, ⟨wb1_ HB.out GE224.out⟩⟩
  subst c5
  have H1 : ((bindleref08_Meta.f a0_3 a0_4 a0_5 a0_6).bind fun t226 => (if t226 = true then (if (l0_7.length : Int) > 1048576 then (bindleref08_Good.j0 k true a0_0 a0_1 a0_2 a0_3 a0_4 a0_5 a0_6 l0_7) else (if a0_2 = 48 then (bindleref08_Good.j0 k false a0_0 a0_1 a0_2 a0_3 a0_4 a0_5 a0_6 l0_7) else (bindleref08_Good.j0 k (decide ((l0_7.length : Int) > 0)) a0_0 a0_1 a0_2 a0_3 a0_4 a0_5 a0_6 l0_7))) else (bindleref08_Good.j0 k true a0_0 a0_1 a0_2 a0_3 a0_4 a0_5 a0_6 l0_7))) = some r := by rw [if_pos rfl] at H; exact H
  clear H
  have H := H1
  clear H1
  replace H := Option.bind_eq_some_iff.mp H
  obtain ⟨t226, A60, H⟩ := H
  replace H : (if t226 = true then (if (l0_7.length : Int) > 1048576 then (bindleref08_Good.j0 k true a0_0 a0_1 a0_2 a0_3 a0_4 a0_5 a0_6 l0_7) else (if a0_2 = 48 then (bindleref08_Good.j0 k false a0_0 a0_1 a0_2 a0_3 a0_4 a0_5 a0_6 l0_7) else (bindleref08_Good.j0 k (decide ((l0_7.length : Int) > 0)) a0_0 a0_1 a0_2 a0_3 a0_4 a0_5 a0_6 l0_7))) else (bindleref08_Good.j0 k true a0_0 a0_1 a0_2 a0_3 a0_4 a0_5 a0_6 l0_7)) = some r := H
  have A6 := A0_ A60
  clear A60
  by_cases c7 : t226 = true
  rotate_left
  ·replace c7 := Bool.eq_false_iff.mpr c7
   subst c7
   have H1 : (bindleref08_Good.j0 k true a0_0 a0_1 a0_2 a0_3 a0_4 a0_5 a0_6 l0_7) = some r := by rw [if_neg (show ¬ (false = true) by decide)] at H; exact H
   clear H
   have H := H1
   clear H1
   have H' := A0_ H
   clear H
   have hcz19_0 : w3.cell? ⟨gb224, 0, none⟩ = some (.string a0_0) := (bc_ BK224.out 0).trans rfl
   have hcz19_1 : w3.cell? ⟨gb224, 1, none⟩ = some (.string a0_1) := (bc_ BK224.out 1).trans rfl
   have hcz19_2 : w3.cell? ⟨gb224, 2, none⟩ = some (.int .u8 a0_2) := (bc_ BK224.out 2).trans rfl
   have hcz19_3 : w3.cell? ⟨gb224, 3, none⟩ = some (.int .i64 a0_3) := (bc_ BK224.out 3).trans rfl
   have hcz19_4 : w3.cell? ⟨gb224, 4, none⟩ = some (.int .i64 a0_4) := (bc_ BK224.out 4).trans rfl
   have hcz19_5 : w3.cell? ⟨gb224, 5, none⟩ = some (.int .i64 a0_5) := (bc_ BK224.out 5).trans rfl
   have hcz19_6 : w3.cell? ⟨gb224, 6, none⟩ = some (.int .i64 a0_6) := (bc_ BK224.out 6).trans rfl
   have hcz19_7 : w3.cell? ⟨gb224, 7, none⟩ = some (.slice A0_7 l0_7.length c0_7) := (bc_ BK224.out 7).trans rfl
   have hfz19_0 := bf_ BK224.out 0
   have hfz19_1 := bf_ BK224.out 1
   have hfz19_2 := bf_ BK224.out 2
   have hfz19_3 := bf_ BK224.out 3
   have hfz19_4 := bf_ BK224.out 4
   have hfz19_5 := bf_ BK224.out 5
   have hfz19_6 := bf_ BK224.out 6
   have hfz19_7 := bf_ BK224.out 7
   go_wp2_with (first | ((with_reducible refine gate_callee (f := 53) rfl ?_); refine goesL_ (some 5) rfl rfl Tryd.func53 (by kernel_rfl) rfl #[.string a0_0] rfl wm_ ?_; (with_reducible refine (bindleref08_clean.calls k a0_0 true _ A4.out).mono ?_); rintro e w' ⟨rfl, ⟨nd, rfl⟩⟩; refine ⟨_, rfl, ?_⟩) | (go_at_call 54; (with_reducible refine (bindleref08_Meta.calls a0_3 a0_4 a0_5 a0_6 false _ A6.out).mono ?_); rintro e w20 ⟨rfl, hb⟩; have n0_ := A0_ (blk_below (g := gb224) (o := .cells #[.string a0_0, .string a0_1, .int .u8 a0_2, .int .i64 a0_3, .int .i64 a0_4, .int .i64 a0_5, .int .i64 a0_6, .slice A0_7 l0_7.length c0_7] 45 (0, 0)) (wB_ BK224.out) hb); have n1_ := A0_ (below_step (wb1_ HB.out GE224.out) hb); clear BK224; clear HB; have BK224 := n0_; have HB := n1_; clear n0_ n1_; (try clear hb); (try clear hb2); (try clear hk); (try clear hi)))
   go_meet
   case rel => exact ⟨_, (true), wr_, H', ⟨by first | omega | exact Nat.le_refl _⟩, ⟨wB_ BK224.out⟩, ⟨wb1_ HB.out GE224.out⟩⟩
  subst c7
  have H1 : (if (l0_7.length : Int) > 1048576 then (bindleref08_Good.j0 k true a0_0 a0_1 a0_2 a0_3 a0_4 a0_5 a0_6 l0_7) else (if a0_2 = 48 then (bindleref08_Good.j0 k false a0_0 a0_1 a0_2 a0_3 a0_4 a0_5 a0_6 l0_7) else (bindleref08_Good.j0 k (decide ((l0_7.length : Int) > 0)) a0_0 a0_1 a0_2 a0_3 a0_4 a0_5 a0_6 l0_7))) = some r := by rw [if_pos rfl] at H; exact H
  clear H
  have H := H1
  clear H1
  by_cases c8 : (l0_7.length : Int) > 1048576
  ·rw [if_pos c8] at H
   have c8b0 : decide (1048576 < (l0_7.length : Int)) = true := decide_eq_true c8
   have c8b1 : decide (1048576 < l0_7.length) = true := decide_eq_true (by omega)
   clear c8
   (first | rw [c8b0] | (simp only [i64_w, i32_w]; rw [c8b0]) | skip)
   have H' := A0_ H
   clear H
   have hcz9_0 : w3.cell? ⟨gb224, 0, none⟩ = some (.string a0_0) := (bc_ BK224.out 0).trans rfl
   have hcz9_1 : w3.cell? ⟨gb224, 1, none⟩ = some (.string a0_1) := (bc_ BK224.out 1).trans rfl
   have hcz9_2 : w3.cell? ⟨gb224, 2, none⟩ = some (.int .u8 a0_2) := (bc_ BK224.out 2).trans rfl
   have hcz9_3 : w3.cell? ⟨gb224, 3, none⟩ = some (.int .i64 a0_3) := (bc_ BK224.out 3).trans rfl
   have hcz9_4 : w3.cell? ⟨gb224, 4, none⟩ = some (.int .i64 a0_4) := (bc_ BK224.out 4).trans rfl
   have hcz9_5 : w3.cell? ⟨gb224, 5, none⟩ = some (.int .i64 a0_5) := (bc_ BK224.out 5).trans rfl
   have hcz9_6 : w3.cell? ⟨gb224, 6, none⟩ = some (.int .i64 a0_6) := (bc_ BK224.out 6).trans rfl
   have hcz9_7 : w3.cell? ⟨gb224, 7, none⟩ = some (.slice A0_7 l0_7.length c0_7) := (bc_ BK224.out 7).trans rfl
   have hfz9_0 := bf_ BK224.out 0
   have hfz9_1 := bf_ BK224.out 1
   have hfz9_2 := bf_ BK224.out 2
   have hfz9_3 := bf_ BK224.out 3
   have hfz9_4 := bf_ BK224.out 4
   have hfz9_5 := bf_ BK224.out 5
   have hfz9_6 := bf_ BK224.out 6
   have hfz9_7 := bf_ BK224.out 7
   go_wp2_with (first | ((with_reducible refine gate_callee (f := 53) rfl ?_); refine goesL_ (some 5) rfl rfl Tryd.func53 (by kernel_rfl) rfl #[.string a0_0] rfl wm_ ?_; (with_reducible refine (bindleref08_clean.calls k a0_0 true _ A4.out).mono ?_); rintro e w' ⟨rfl, ⟨nd, rfl⟩⟩; refine ⟨_, rfl, ?_⟩) | (go_at_call 54; (with_reducible refine (bindleref08_Meta.calls a0_3 a0_4 a0_5 a0_6 true _ A6.out).mono ?_); rintro e w10 ⟨rfl, hb⟩; have n0_ := A0_ (blk_below (g := gb224) (o := .cells #[.string a0_0, .string a0_1, .int .u8 a0_2, .int .i64 a0_3, .int .i64 a0_4, .int .i64 a0_5, .int .i64 a0_6, .slice A0_7 l0_7.length c0_7] 45 (0, 0)) (wB_ BK224.out) hb); have n1_ := A0_ (below_step (wb1_ HB.out GE224.out) hb); clear BK224; clear HB; have BK224 := n0_; have HB := n1_; clear n0_ n1_; (try clear hb); (try clear hb2); (try clear hk); (try clear hi); have hcz11_0 : w10.cell? ⟨gb224, 0, none⟩ = some (.string a0_0) := (bc_ BK224.out 0).trans rfl; have hcz11_1 : w10.cell? ⟨gb224, 1, none⟩ = some (.string a0_1) := (bc_ BK224.out 1).trans rfl; have hcz11_2 : w10.cell? ⟨gb224, 2, none⟩ = some (.int .u8 a0_2) := (bc_ BK224.out 2).trans rfl; have hcz11_3 : w10.cell? ⟨gb224, 3, none⟩ = some (.int .i64 a0_3) := (bc_ BK224.out 3).trans rfl; have hcz11_4 : w10.cell? ⟨gb224, 4, none⟩ = some (.int .i64 a0_4) := (bc_ BK224.out 4).trans rfl; have hcz11_5 : w10.cell? ⟨gb224, 5, none⟩ = some (.int .i64 a0_5) := (bc_ BK224.out 5).trans rfl; have hcz11_6 : w10.cell? ⟨gb224, 6, none⟩ = some (.int .i64 a0_6) := (bc_ BK224.out 6).trans rfl; have hcz11_7 : w10.cell? ⟨gb224, 7, none⟩ = some (.slice A0_7 l0_7.length c0_7) := (bc_ BK224.out 7).trans rfl; have hfz11_0 := bf_ BK224.out 0; have hfz11_1 := bf_ BK224.out 1; have hfz11_2 := bf_ BK224.out 2; have hfz11_3 := bf_ BK224.out 3; have hfz11_4 := bf_ BK224.out 4; have hfz11_5 := bf_ BK224.out 5; have hfz11_6 := bf_ BK224.out 6; have hfz11_7 := bf_ BK224.out 7))
   go_meet
   case rel => exact ⟨_, (true), wr_, H', ⟨by first | omega | exact Nat.le_refl _⟩, ⟨wB_ BK224.out⟩, ⟨wb1_ HB.out GE224.out⟩⟩
  rw [if_neg c8] at H
  have c8b0 : decide (1048576 < (l0_7.length : Int)) = false := decide_eq_false c8
  have c8b1 : decide (1048576 < l0_7.length) = false := decide_eq_false (by omega)
  clear c8
  (first | rw [c8b0] | (simp only [i64_w, i32_w]; rw [c8b0]) | skip)
  by_cases c12 : a0_2 = 48
  ·rw [if_pos c12] at H
   have c12b0 : (a0_2 == 48) = true := beq_iff_eq.mpr c12
   have c12b1 : (a0_2 != 48) = false := bne_eq_false_iff_eq.mpr c12
   clear c12
   have H' := A0_ H
   clear H
   have hcz13_0 : w3.cell? ⟨gb224, 0, none⟩ = some (.string a0_0) := (bc_ BK224.out 0).trans rfl
   have hcz13_1 : w3.cell? ⟨gb224, 1, none⟩ = some (.string a0_1) := (bc_ BK224.out 1).trans rfl
   have hcz13_2 : w3.cell? ⟨gb224, 2, none⟩ = some (.int .u8 a0_2) := (bc_ BK224.out 2).trans rfl
   have hcz13_3 : w3.cell? ⟨gb224, 3, none⟩ = some (.int .i64 a0_3) := (bc_ BK224.out 3).trans rfl
   have hcz13_4 : w3.cell? ⟨gb224, 4, none⟩ = some (.int .i64 a0_4) := (bc_ BK224.out 4).trans rfl
   have hcz13_5 : w3.cell? ⟨gb224, 5, none⟩ = some (.int .i64 a0_5) := (bc_ BK224.out 5).trans rfl
   have hcz13_6 : w3.cell? ⟨gb224, 6, none⟩ = some (.int .i64 a0_6) := (bc_ BK224.out 6).trans rfl
   have hcz13_7 : w3.cell? ⟨gb224, 7, none⟩ = some (.slice A0_7 l0_7.length c0_7) := (bc_ BK224.out 7).trans rfl
   have hfz13_0 := bf_ BK224.out 0
   have hfz13_1 := bf_ BK224.out 1
   have hfz13_2 := bf_ BK224.out 2
   have hfz13_3 := bf_ BK224.out 3
   have hfz13_4 := bf_ BK224.out 4
   have hfz13_5 := bf_ BK224.out 5
   have hfz13_6 := bf_ BK224.out 6
   have hfz13_7 := bf_ BK224.out 7
   go_wp2_with (first | ((with_reducible refine gate_callee (f := 53) rfl ?_); refine goesL_ (some 5) rfl rfl Tryd.func53 (by kernel_rfl) rfl #[.string a0_0] rfl wm_ ?_; (with_reducible refine (bindleref08_clean.calls k a0_0 true _ A4.out).mono ?_); rintro e w' ⟨rfl, ⟨nd, rfl⟩⟩; refine ⟨_, rfl, ?_⟩) | (go_at_call 54; (with_reducible refine (bindleref08_Meta.calls a0_3 a0_4 a0_5 a0_6 true _ A6.out).mono ?_); rintro e w14 ⟨rfl, hb⟩; have n0_ := A0_ (blk_below (g := gb224) (o := .cells #[.string a0_0, .string a0_1, .int .u8 a0_2, .int .i64 a0_3, .int .i64 a0_4, .int .i64 a0_5, .int .i64 a0_6, .slice A0_7 l0_7.length c0_7] 45 (0, 0)) (wB_ BK224.out) hb); have n1_ := A0_ (below_step (wb1_ HB.out GE224.out) hb); clear BK224; clear HB; have BK224 := n0_; have HB := n1_; clear n0_ n1_; (try clear hb); (try clear hb2); (try clear hk); (try clear hi); have hcz15_0 : w14.cell? ⟨gb224, 0, none⟩ = some (.string a0_0) := (bc_ BK224.out 0).trans rfl; have hcz15_1 : w14.cell? ⟨gb224, 1, none⟩ = some (.string a0_1) := (bc_ BK224.out 1).trans rfl; have hcz15_2 : w14.cell? ⟨gb224, 2, none⟩ = some (.int .u8 a0_2) := (bc_ BK224.out 2).trans rfl; have hcz15_3 : w14.cell? ⟨gb224, 3, none⟩ = some (.int .i64 a0_3) := (bc_ BK224.out 3).trans rfl; have hcz15_4 : w14.cell? ⟨gb224, 4, none⟩ = some (.int .i64 a0_4) := (bc_ BK224.out 4).trans rfl; have hcz15_5 : w14.cell? ⟨gb224, 5, none⟩ = some (.int .i64 a0_5) := (bc_ BK224.out 5).trans rfl; have hcz15_6 : w14.cell? ⟨gb224, 6, none⟩ = some (.int .i64 a0_6) := (bc_ BK224.out 6).trans rfl; have hcz15_7 : w14.cell? ⟨gb224, 7, none⟩ = some (.slice A0_7 l0_7.length c0_7) := (bc_ BK224.out 7).trans rfl; have hfz15_0 := bf_ BK224.out 0; have hfz15_1 := bf_ BK224.out 1; have hfz15_2 := bf_ BK224.out 2; have hfz15_3 := bf_ BK224.out 3; have hfz15_4 := bf_ BK224.out 4; have hfz15_5 := bf_ BK224.out 5; have hfz15_6 := bf_ BK224.out 6; have hfz15_7 := bf_ BK224.out 7))
   go_meet
   case rel => exact ⟨_, (false), wr_, H', ⟨by first | omega | exact Nat.le_refl _⟩, ⟨wB_ BK224.out⟩, ⟨wb1_ HB.out GE224.out⟩⟩
  rw [if_neg c12] at H
  have c12b0 : (a0_2 == 48) = false := beq_eq_false_iff_ne.mpr c12
  have c12b1 : (a0_2 != 48) = true := bne_iff_ne.mpr c12
  have H' := A0_ H
  clear H
  have hcz16_0 : w3.cell? ⟨gb224, 0, none⟩ = some (.string a0_0) := (bc_ BK224.out 0).trans rfl
  have hcz16_1 : w3.cell? ⟨gb224, 1, none⟩ = some (.string a0_1) := (bc_ BK224.out 1).trans rfl
  have hcz16_2 : w3.cell? ⟨gb224, 2, none⟩ = some (.int .u8 a0_2) := (bc_ BK224.out 2).trans rfl
  have hcz16_3 : w3.cell? ⟨gb224, 3, none⟩ = some (.int .i64 a0_3) := (bc_ BK224.out 3).trans rfl
  have hcz16_4 : w3.cell? ⟨gb224, 4, none⟩ = some (.int .i64 a0_4) := (bc_ BK224.out 4).trans rfl
  have hcz16_5 : w3.cell? ⟨gb224, 5, none⟩ = some (.int .i64 a0_5) := (bc_ BK224.out 5).trans rfl
  have hcz16_6 : w3.cell? ⟨gb224, 6, none⟩ = some (.int .i64 a0_6) := (bc_ BK224.out 6).trans rfl
  have hcz16_7 : w3.cell? ⟨gb224, 7, none⟩ = some (.slice A0_7 l0_7.length c0_7) := (bc_ BK224.out 7).trans rfl
  have hfz16_0 := bf_ BK224.out 0
  have hfz16_1 := bf_ BK224.out 1
  have hfz16_2 := bf_ BK224.out 2
  have hfz16_3 := bf_ BK224.out 3
  have hfz16_4 := bf_ BK224.out 4
  have hfz16_5 := bf_ BK224.out 5
  have hfz16_6 := bf_ BK224.out 6
  have hfz16_7 := bf_ BK224.out 7
  go_wp2_with (first | ((with_reducible refine gate_callee (f := 53) rfl ?_); refine goesL_ (some 5) rfl rfl Tryd.func53 (by kernel_rfl) rfl #[.string a0_0] rfl wm_ ?_; (with_reducible refine (bindleref08_clean.calls k a0_0 true _ A4.out).mono ?_); rintro e w' ⟨rfl, ⟨nd, rfl⟩⟩; refine ⟨_, rfl, ?_⟩) | (go_at_call 54; (with_reducible refine (bindleref08_Meta.calls a0_3 a0_4 a0_5 a0_6 true _ A6.out).mono ?_); rintro e w17 ⟨rfl, hb⟩; have n0_ := A0_ (blk_below (g := gb224) (o := .cells #[.string a0_0, .string a0_1, .int .u8 a0_2, .int .i64 a0_3, .int .i64 a0_4, .int .i64 a0_5, .int .i64 a0_6, .slice A0_7 l0_7.length c0_7] 45 (0, 0)) (wB_ BK224.out) hb); have n1_ := A0_ (below_step (wb1_ HB.out GE224.out) hb); clear BK224; clear HB; have BK224 := n0_; have HB := n1_; clear n0_ n1_; (try clear hb); (try clear hb2); (try clear hk); (try clear hi); have hcz18_0 : w17.cell? ⟨gb224, 0, none⟩ = some (.string a0_0) := (bc_ BK224.out 0).trans rfl; have hcz18_1 : w17.cell? ⟨gb224, 1, none⟩ = some (.string a0_1) := (bc_ BK224.out 1).trans rfl; have hcz18_2 : w17.cell? ⟨gb224, 2, none⟩ = some (.int .u8 a0_2) := (bc_ BK224.out 2).trans rfl; have hcz18_3 : w17.cell? ⟨gb224, 3, none⟩ = some (.int .i64 a0_3) := (bc_ BK224.out 3).trans rfl; have hcz18_4 : w17.cell? ⟨gb224, 4, none⟩ = some (.int .i64 a0_4) := (bc_ BK224.out 4).trans rfl; have hcz18_5 : w17.cell? ⟨gb224, 5, none⟩ = some (.int .i64 a0_5) := (bc_ BK224.out 5).trans rfl; have hcz18_6 : w17.cell? ⟨gb224, 6, none⟩ = some (.int .i64 a0_6) := (bc_ BK224.out 6).trans rfl; have hcz18_7 : w17.cell? ⟨gb224, 7, none⟩ = some (.slice A0_7 l0_7.length c0_7) := (bc_ BK224.out 7).trans rfl; have hfz18_0 := bf_ BK224.out 0; have hfz18_1 := bf_ BK224.out 1; have hfz18_2 := bf_ BK224.out 2; have hfz18_3 := bf_ BK224.out 3; have hfz18_4 := bf_ BK224.out 4; have hfz18_5 := bf_ BK224.out 5; have hfz18_6 := bf_ BK224.out 6; have hfz18_7 := bf_ BK224.out 7))
  go_meet
  case rel => exact ⟨_, (decide ((l0_7.length : Int) > 0)), wr_, H', ⟨by first | omega | exact Nat.le_refl _⟩, ⟨wB_ BK224.out⟩, ⟨wb1_ HB.out GE224.out⟩⟩
 case rest =>
  clear HC2
  try clear c1
  try clear p2
  try clear c3
  try clear c5
  try clear c7
  try clear c8
  try clear c8b0
  try clear c8b1
  try clear c12
  try clear c12b0
  try clear c12b1
  try clear hcz11_0
  try clear hcz11_1
  try clear hcz11_2
  try clear hcz11_3
  try clear hcz11_4
  try clear hcz11_5
  try clear hcz11_6
  try clear hcz11_7
  try clear hcz13_0
  try clear hcz13_1
  try clear hcz13_2
  try clear hcz13_3
  try clear hcz13_4
  try clear hcz13_5
  try clear hcz13_6
  try clear hcz13_7
  try clear hcz15_0
  try clear hcz15_1
  try clear hcz15_2
  try clear hcz15_3
  try clear hcz15_4
  try clear hcz15_5
  try clear hcz15_6
  try clear hcz15_7
  try clear hcz16_0
  try clear hcz16_1
  try clear hcz16_2
  try clear hcz16_3
  try clear hcz16_4
  try clear hcz16_5
  try clear hcz16_6
  try clear hcz16_7
  try clear hcz18_0
  try clear hcz18_1
  try clear hcz18_2
  try clear hcz18_3
  try clear hcz18_4
  try clear hcz18_5
  try clear hcz18_6
  try clear hcz18_7
  try clear hcz19_0
  try clear hcz19_1
  try clear hcz19_2
  try clear hcz19_3
  try clear hcz19_4
  try clear hcz19_5
  try clear hcz19_6
  try clear hcz19_7
  try clear hcz21_0
  try clear hcz21_1
  try clear hcz21_2
  try clear hcz21_3
  try clear hcz21_4
  try clear hcz21_5
  try clear hcz21_6
  try clear hcz21_7
  try clear hcz9_0
  try clear hcz9_1
  try clear hcz9_2
  try clear hcz9_3
  try clear hcz9_4
  try clear hcz9_5
  try clear hcz9_6
  try clear hcz9_7
  try clear hfz11_0
  try clear hfz11_1
  try clear hfz11_2
  try clear hfz11_3
  try clear hfz11_4
  try clear hfz11_5
  try clear hfz11_6
  try clear hfz11_7
  try clear hfz13_0
  try clear hfz13_1
  try clear hfz13_2
  try clear hfz13_3
  try clear hfz13_4
  try clear hfz13_5
  try clear hfz13_6
  try clear hfz13_7
  try clear hfz15_0
  try clear hfz15_1
  try clear hfz15_2
  try clear hfz15_3
  try clear hfz15_4
  try clear hfz15_5
  try clear hfz15_6
  try clear hfz15_7
  try clear hfz16_0
  try clear hfz16_1
  try clear hfz16_2
  try clear hfz16_3
  try clear hfz16_4
  try clear hfz16_5
  try clear hfz16_6
  try clear hfz16_7
  try clear hfz18_0
  try clear hfz18_1
  try clear hfz18_2
  try clear hfz18_3
  try clear hfz18_4
  try clear hfz18_5
  try clear hfz18_6
  try clear hfz18_7
  try clear hfz19_0
  try clear hfz19_1
  try clear hfz19_2
  try clear hfz19_3
  try clear hfz19_4
  try clear hfz19_5
  try clear hfz19_6
  try clear hfz19_7
  try clear hfz21_0
  try clear hfz21_1
  try clear hfz21_2
  try clear hfz21_3
  try clear hfz21_4
  try clear hfz21_5
  try clear hfz21_6
  try clear hfz21_7
  try clear hfz9_0
  try clear hfz9_1
  try clear hfz9_2
  try clear hfz9_3
  try clear hfz9_4
  try clear hfz9_5
  try clear hfz9_6
  try clear hfz9_7
  obtain ⟨kq, x29_1, rfl, HA, HJ1, BK224, HB⟩ := hcut
  cases kq with
  | zero => exact absurd HA.out (by simp [bindleref08_Good.j0])
  | succ kj1 =>
   have H := HA.out
   clear HA
   simp only [bindleref08_Good.j0] at H
   by_cases c22 : x29_1 = true
   ·subst c22
    have H1 : (some false) = some r := by rw [if_pos rfl] at H; exact H
    clear H
    have H := H1
    clear H1
    obtain rfl := Option.some.inj H
    go_wp2
    go_ret
    exact ⟨we_, wb1_ HB.out GE224.out⟩
   replace c22 := Bool.eq_false_iff.mpr c22
   subst c22
   have H1 : (if a0_2 = 48 then (bindleref08_Good.j1 kj1 a0_2 (a0_2 == 48) a0_0 a0_1 a0_2 a0_3 a0_4 a0_5 a0_6 l0_7) else (bindleref08_Good.j1 kj1 a0_2 (a0_2 == 53) a0_0 a0_1 a0_2 a0_3 a0_4 a0_5 a0_6 l0_7)) = some r := by rw [if_neg (show ¬ (false = true) by decide)] at H; exact H
   clear H
   have H := H1
   clear H1
   have HC23 := A0_ H
   clear H
   have hcz24_0 : wc.cell? ⟨gb224, 0, none⟩ = some (.string a0_0) := (bc_ BK224.out 0).trans rfl
   have hcz24_1 : wc.cell? ⟨gb224, 1, none⟩ = some (.string a0_1) := (bc_ BK224.out 1).trans rfl
   have hcz24_2 : wc.cell? ⟨gb224, 2, none⟩ = some (.int .u8 a0_2) := (bc_ BK224.out 2).trans rfl
   have hcz24_3 : wc.cell? ⟨gb224, 3, none⟩ = some (.int .i64 a0_3) := (bc_ BK224.out 3).trans rfl
   have hcz24_4 : wc.cell? ⟨gb224, 4, none⟩ = some (.int .i64 a0_4) := (bc_ BK224.out 4).trans rfl
   have hcz24_5 : wc.cell? ⟨gb224, 5, none⟩ = some (.int .i64 a0_5) := (bc_ BK224.out 5).trans rfl
   have hcz24_6 : wc.cell? ⟨gb224, 6, none⟩ = some (.int .i64 a0_6) := (bc_ BK224.out 6).trans rfl
   have hcz24_7 : wc.cell? ⟨gb224, 7, none⟩ = some (.slice A0_7 l0_7.length c0_7) := (bc_ BK224.out 7).trans rfl
   have hfz24_0 := bf_ BK224.out 0
   have hfz24_1 := bf_ BK224.out 1
   have hfz24_2 := bf_ BK224.out 2
   have hfz24_3 := bf_ BK224.out 3
   have hfz24_4 := bf_ BK224.out 4
   have hfz24_5 := bf_ BK224.out 5
   have hfz24_6 := bf_ BK224.out 6
   have hfz24_7 := bf_ BK224.out 7
   go_upto_if 32 with (fail)
   go_cut [32] (fun v32 wc => ∃ (kq : Nat) (x32_22 : Bool), v32 = .bool x32_22 ∧ Aside0 (bindleref08_Good.j1 kq a0_2 x32_22 a0_0 a0_1 a0_2 a0_3 a0_4 a0_5 a0_6 l0_7 = some r) ∧ Aside0 (kq ≤ kj1) ∧ Aside0 (wc.heap[gb224]? = some (.cells #[.string a0_0, .string a0_1, .int .u8 a0_2, .int .i64 a0_3, .int .i64 a0_4, .int .i64 a0_5, .int .i64 a0_6, (.slice A0_7 l0_7.length c0_7)] 45 (0, 0))) ∧ Aside0 (Below w.heap.size w wc))
   case first =>
    have H := HC23.out
    clear HC23
    by_cases c25 : a0_2 = 48
    rotate_left
    ·rw [if_neg c25] at H
     have c25b0 : (a0_2 == 48) = false := beq_eq_false_iff_ne.mpr c25
     have c25b1 : (a0_2 != 48) = true := bne_iff_ne.mpr c25
     (first | rw [c25b0] | (simp only [i64_w, i32_w]; rw [c25b0]) | skip)
     have H' := A0_ H
     clear H
     go_wp2
     go_meet
     case rel => exact ⟨_, ((a0_2 == 53)), wr_, H', ⟨by have := HJ1.out; first | omega | exact Nat.le_refl _⟩, ⟨wB_ BK224.out⟩, ⟨wb1_ HB.out GE224.out⟩⟩
    rw [if_pos c25] at H
    have c25b0 : (a0_2 == 48) = true := beq_iff_eq.mpr c25
    have c25b1 : (a0_2 != 48) = false := bne_eq_false_iff_eq.mpr c25
    clear c25
    (first | rw [c25b0] | (simp only [i64_w, i32_w]; rw [c25b0]) | skip)
    have H' := A0_ H
    clear H
    go_wp2
    go_meet
    case rel => exact ⟨_, ((a0_2 == 48)), wr_, H', ⟨by have := HJ1.out; first | omega | exact Nat.le_refl _⟩, ⟨wB_ BK224.out⟩, ⟨wb1_ HB.out GE224.out⟩⟩
   case rest =>
    clear HC23
    try clear c1
    try clear c2
    try clear p2
    try clear c3
    try clear c5
    try clear c7
    try clear c8
    try clear c8b0
    try clear c8b1
    try clear c12
    try clear c12b0
    try clear c12b1
    try clear c22
    try clear c25
    try clear c25b0
    try clear c25b1
    try clear hcz11_0
    try clear hcz11_1
    try clear hcz11_2
    try clear hcz11_3
    try clear hcz11_4
    try clear hcz11_5
    try clear hcz11_6
    try clear hcz11_7
    try clear hcz13_0
    try clear hcz13_1
    try clear hcz13_2
    try clear hcz13_3
    try clear hcz13_4
    try clear hcz13_5
    try clear hcz13_6
    try clear hcz13_7
    try clear hcz15_0
    try clear hcz15_1
    try clear hcz15_2
    try clear hcz15_3
    try clear hcz15_4
    try clear hcz15_5
    try clear hcz15_6
    try clear hcz15_7
    try clear hcz16_0
    try clear hcz16_1
    try clear hcz16_2
    try clear hcz16_3
    try clear hcz16_4
    try clear hcz16_5
    try clear hcz16_6
    try clear hcz16_7
    try clear hcz18_0
    try clear hcz18_1
    try clear hcz18_2
    try clear hcz18_3
    try clear hcz18_4
    try clear hcz18_5
    try clear hcz18_6
    try clear hcz18_7
    try clear hcz19_0
    try clear hcz19_1
    try clear hcz19_2
    try clear hcz19_3
    try clear hcz19_4
    try clear hcz19_5
    try clear hcz19_6
    try clear hcz19_7
    try clear hcz21_0
    try clear hcz21_1
    try clear hcz21_2
    try clear hcz21_3
    try clear hcz21_4
    try clear hcz21_5
    try clear hcz21_6
    try clear hcz21_7
    try clear hcz24_0
    try clear hcz24_1
    try clear hcz24_2
    try clear hcz24_3
    try clear hcz24_4
    try clear hcz24_5
    try clear hcz24_6
    try clear hcz24_7
    try clear hcz9_0
    try clear hcz9_1
    try clear hcz9_2
    try clear hcz9_3
    try clear hcz9_4
    try clear hcz9_5
    try clear hcz9_6
    try clear hcz9_7
    try clear hfz11_0
    try clear hfz11_1
    try clear hfz11_2
    try clear hfz11_3
    try clear hfz11_4
    try clear hfz11_5
    try clear hfz11_6
    try clear hfz11_7
    try clear hfz13_0
    try clear hfz13_1
    try clear hfz13_2
    try clear hfz13_3
    try clear hfz13_4
    try clear hfz13_5
    try clear hfz13_6
    try clear hfz13_7
    try clear hfz15_0
    try clear hfz15_1
    try clear hfz15_2
    try clear hfz15_3
    try clear hfz15_4
    try clear hfz15_5
    try clear hfz15_6
    try clear hfz15_7
    try clear hfz16_0
    try clear hfz16_1
    try clear hfz16_2
    try clear hfz16_3
    try clear hfz16_4
    try clear hfz16_5
    try clear hfz16_6
    try clear hfz16_7
    try clear hfz18_0
    try clear hfz18_1
    try clear hfz18_2
    try clear hfz18_3
    try clear hfz18_4
    try clear hfz18_5
    try clear hfz18_6
    try clear hfz18_7
    try clear hfz19_0
    try clear hfz19_1
    try clear hfz19_2
    try clear hfz19_3
    try clear hfz19_4
    try clear hfz19_5
    try clear hfz19_6
    try clear hfz19_7
    try clear hfz21_0
    try clear hfz21_1
    try clear hfz21_2
    try clear hfz21_3
    try clear hfz21_4
    try clear hfz21_5
    try clear hfz21_6
    try clear hfz21_7
    try clear hfz24_0
    try clear hfz24_1
    try clear hfz24_2
    try clear hfz24_3
    try clear hfz24_4
    try clear hfz24_5
    try clear hfz24_6
    try clear hfz24_7
    try clear hfz9_0
    try clear hfz9_1
    try clear hfz9_2
    try clear hfz9_3
    try clear hfz9_4
    try clear hfz9_5
    try clear hfz9_6
    try clear hfz9_7
    try clear p2
    obtain ⟨kq, x32_22, rfl, HA, HJ22, BK224, HB⟩ := hcut
    cases kq with
    | zero => exact absurd HA.out (by simp [bindleref08_Good.j1])
    | succ kj22 =>
     have H := HA.out
     clear HA
     simp only [bindleref08_Good.j1] at H
     by_cases c26 : x32_22 = true
     ·subst c26
      have H1 : (some (a0_1.toList == ([] : List UInt8))) = some r := by rw [if_pos rfl] at H; exact H
      clear H
      have H := H1
      clear H1
      obtain rfl := Option.some.inj H
      have hcz27_0 : wc.cell? ⟨gb224, 0, none⟩ = some (.string a0_0) := (bc_ BK224.out 0).trans rfl
      have hcz27_1 : wc.cell? ⟨gb224, 1, none⟩ = some (.string a0_1) := (bc_ BK224.out 1).trans rfl
      have hcz27_2 : wc.cell? ⟨gb224, 2, none⟩ = some (.int .u8 a0_2) := (bc_ BK224.out 2).trans rfl
      have hcz27_3 : wc.cell? ⟨gb224, 3, none⟩ = some (.int .i64 a0_3) := (bc_ BK224.out 3).trans rfl
      have hcz27_4 : wc.cell? ⟨gb224, 4, none⟩ = some (.int .i64 a0_4) := (bc_ BK224.out 4).trans rfl
      have hcz27_5 : wc.cell? ⟨gb224, 5, none⟩ = some (.int .i64 a0_5) := (bc_ BK224.out 5).trans rfl
      have hcz27_6 : wc.cell? ⟨gb224, 6, none⟩ = some (.int .i64 a0_6) := (bc_ BK224.out 6).trans rfl
      have hcz27_7 : wc.cell? ⟨gb224, 7, none⟩ = some (.slice A0_7 l0_7.length c0_7) := (bc_ BK224.out 7).trans rfl
      have hfz27_0 := bf_ BK224.out 0
      have hfz27_1 := bf_ BK224.out 1
      have hfz27_2 := bf_ BK224.out 2
      have hfz27_3 := bf_ BK224.out 3
      have hfz27_4 := bf_ BK224.out 4
      have hfz27_5 := bf_ BK224.out 5
      have hfz27_6 := bf_ BK224.out 6
      have hfz27_7 := bf_ BK224.out 7
      go_wp2
      go_ret
      exact ⟨we_, wb1_ HB.out GE224.out⟩
     replace c26 := Bool.eq_false_iff.mpr c26
     subst c26
     have H1 : (if a0_2 = 49 then ((bindleref08_clean.f kj22 a0_1).bind fun t227 => (some t227)) else (if a0_2 = 50 then ((bindleref08_Target.f kj22 a0_1).bind fun t228 => (some (t228 == 0))) else (some false))) = some r := by rw [if_neg (show ¬ (false = true) by decide)] at H; exact H
     clear H
     have H := H1
     clear H1
     by_cases c28 : a0_2 = 49
     ·rw [if_pos c28] at H
      have c28b0 : (a0_2 == 49) = true := beq_iff_eq.mpr c28
      have c28b1 : (a0_2 != 49) = false := bne_eq_false_iff_eq.mpr c28
      clear c28
      replace H := Option.bind_eq_some_iff.mp H
      obtain ⟨t227, A290, H⟩ := H
      replace H : (some t227) = some r := H
      have A29 := A0_ A290
      clear A290
      obtain rfl := Option.some.inj H
      have hcz30_0 : wc.cell? ⟨gb224, 0, none⟩ = some (.string a0_0) := (bc_ BK224.out 0).trans rfl
      have hcz30_1 : wc.cell? ⟨gb224, 1, none⟩ = some (.string a0_1) := (bc_ BK224.out 1).trans rfl
      have hcz30_2 : wc.cell? ⟨gb224, 2, none⟩ = some (.int .u8 a0_2) := (bc_ BK224.out 2).trans rfl
      have hcz30_3 : wc.cell? ⟨gb224, 3, none⟩ = some (.int .i64 a0_3) := (bc_ BK224.out 3).trans rfl
      have hcz30_4 : wc.cell? ⟨gb224, 4, none⟩ = some (.int .i64 a0_4) := (bc_ BK224.out 4).trans rfl
      have hcz30_5 : wc.cell? ⟨gb224, 5, none⟩ = some (.int .i64 a0_5) := (bc_ BK224.out 5).trans rfl
      have hcz30_6 : wc.cell? ⟨gb224, 6, none⟩ = some (.int .i64 a0_6) := (bc_ BK224.out 6).trans rfl
      have hcz30_7 : wc.cell? ⟨gb224, 7, none⟩ = some (.slice A0_7 l0_7.length c0_7) := (bc_ BK224.out 7).trans rfl
      have hfz30_0 := bf_ BK224.out 0
      have hfz30_1 := bf_ BK224.out 1
      have hfz30_2 := bf_ BK224.out 2
      have hfz30_3 := bf_ BK224.out 3
      have hfz30_4 := bf_ BK224.out 4
      have hfz30_5 := bf_ BK224.out 5
      have hfz30_6 := bf_ BK224.out 6
      have hfz30_7 := bf_ BK224.out 7
      go_wp2_with (first | ((with_reducible refine gate_callee (f := 53) rfl ?_); refine goesL_ (some 42) rfl rfl Tryd.func53 (by kernel_rfl) rfl #[.string a0_1] rfl wm_ ?_; (with_reducible refine (bindleref08_clean.calls kj22 a0_1 t227 _ A29.out).mono ?_); rintro e w' ⟨rfl, ⟨nd, rfl⟩⟩; refine ⟨_, rfl, ?_⟩))
      go_ret
      exact ⟨we_, wb1_ HB.out GE224.out⟩
     rw [if_neg c28] at H
     have c28b0 : (a0_2 == 49) = false := beq_eq_false_iff_ne.mpr c28
     have c28b1 : (a0_2 != 49) = true := bne_iff_ne.mpr c28
     by_cases c31 : a0_2 = 50
     rotate_left
     ·rw [if_neg c31] at H
      have c31b0 : (a0_2 == 50) = false := beq_eq_false_iff_ne.mpr c31
      have c31b1 : (a0_2 != 50) = true := bne_iff_ne.mpr c31
      obtain rfl := Option.some.inj H
      go_wp2
      go_ret
      exact ⟨we_, wb1_ HB.out GE224.out⟩
     rw [if_pos c31] at H
     have c31b0 : (a0_2 == 50) = true := beq_iff_eq.mpr c31
     have c31b1 : (a0_2 != 50) = false := bne_eq_false_iff_eq.mpr c31
     clear c31
     replace H := Option.bind_eq_some_iff.mp H
     obtain ⟨t228, A320, H⟩ := H
     replace H : (some (t228 == 0)) = some r := H
     have A32 := A0_ A320
     clear A320
     obtain rfl := Option.some.inj H
     have hcz33_0 : wc.cell? ⟨gb224, 0, none⟩ = some (.string a0_0) := (bc_ BK224.out 0).trans rfl
     have hcz33_1 : wc.cell? ⟨gb224, 1, none⟩ = some (.string a0_1) := (bc_ BK224.out 1).trans rfl
     have hcz33_2 : wc.cell? ⟨gb224, 2, none⟩ = some (.int .u8 a0_2) := (bc_ BK224.out 2).trans rfl
     have hcz33_3 : wc.cell? ⟨gb224, 3, none⟩ = some (.int .i64 a0_3) := (bc_ BK224.out 3).trans rfl
     have hcz33_4 : wc.cell? ⟨gb224, 4, none⟩ = some (.int .i64 a0_4) := (bc_ BK224.out 4).trans rfl
     have hcz33_5 : wc.cell? ⟨gb224, 5, none⟩ = some (.int .i64 a0_5) := (bc_ BK224.out 5).trans rfl
     have hcz33_6 : wc.cell? ⟨gb224, 6, none⟩ = some (.int .i64 a0_6) := (bc_ BK224.out 6).trans rfl
     have hcz33_7 : wc.cell? ⟨gb224, 7, none⟩ = some (.slice A0_7 l0_7.length c0_7) := (bc_ BK224.out 7).trans rfl
     have hfz33_0 := bf_ BK224.out 0
     have hfz33_1 := bf_ BK224.out 1
     have hfz33_2 := bf_ BK224.out 2
     have hfz33_3 := bf_ BK224.out 3
     have hfz33_4 := bf_ BK224.out 4
     have hfz33_5 := bf_ BK224.out 5
     have hfz33_6 := bf_ BK224.out 6
     have hfz33_7 := bf_ BK224.out 7
     go_wp2_with (first | ((with_reducible refine gate_callee (f := 55) rfl ?_); refine goesL_ (some 47) rfl rfl Tryd.func55 (by kernel_rfl) rfl #[.string a0_1] rfl wm_ ?_; (with_reducible refine (bindleref08_Target.calls kj22 a0_1 t228 _ A32.out).mono ?_); rintro e w' ⟨rfl, ⟨nd, rfl⟩⟩; refine ⟨_, rfl, ?_⟩))
     go_ret
     exact ⟨we_, wb1_ HB.out GE224.out⟩
end Go.Proofs.YtfljbidecljlcaaDoor.Print

namespace Go.Proofs.YtfljbidecljlcaaDoor
open Go.RowKit Go.Proofs.YtfljbidecljlcaaDoor.Print Go.Proofs.YtfljbidecljlcaaDoorW.PrintWords
theorem beq_dec {α : Type} [BEq α] [LawfulBEq α] [DecidableEq α] (a b : α) : (a == b) = decide (a = b) := by
 rw [Bool.eq_iff_iff, beq_iff_eq, decide_eq_true_eq]
theorem mclean_f (s : ByteArray) (h2 : s.size ≤ 8000000000000) : member_clean.f s = some (cleanOk s) := by
 have e : path_Clean.f s = some (cleanF s) := by unfold path_Clean.f; rw [if_pos h2]
 unfold member_clean.f cleanOk
 rw [e, Option.bind_some, beq_dec]
 by_cases h0 : (cleanF s).2 = 0
 ·rw [if_pos h0, decide_eq_true h0, Bool.true_and]
  congr 1
  exact decide_eq_decide.2 ⟨fun h => h.symm, fun h => h.symm⟩
 ·rw [if_neg h0, decide_eq_false h0]; rfl
theorem rclean_f (s : ByteArray) (h : s.size ≤ 140737488351232) : Ev (fun k => bindleref08_clean.f k s) (cleanOk s) := by
 refine Ev.congr (f := fun k => (bindleref01_Clean.f k s).bind fun bt => (if bt.2 = 0 then (some (s.toList == bt.1.toList)) else (some false))) (fun k => rfl) (Ev.bind (RefClean_eq s (by omega)) ?_)
 refine Ev.congr (fun k => ?_) (Ev.now _)
 unfold cleanOk
 rw [beq_dec]
 by_cases h0 : (cleanF s).2 = 0
 ·rw [if_pos h0, decide_eq_true h0, Bool.true_and]
 ·rw [if_neg h0, decide_eq_false h0]; rfl
theorem mmeta_f (m : Met) : member_meta.f m.f0 m.f1 m.f2 m.f3 = some (metaOk m) := by
 unfold member_meta.f num_In.f metaOk
 have hd : ∀ (a b c : Int), (if a ≥ b then some (decide (a ≤ c)) else some false) = some (decide (b ≤ a ∧ a ≤ c)) := by
  intro a b c
  split
  ·congr 1; exact decide_eq_decide.2 (by omega)
  ·congr 1; symm; simp; omega
 simp only [hd, Option.bind_some]
 split
 ·split
  ·split
   ·congr 1
    simp only [decide_eq_true_eq] at *
    exact decide_eq_decide.2 (by omega)
   all_goals (congr 1; simp only [decide_eq_true_eq] at *; symm; simp; omega)
  all_goals (congr 1; simp only [decide_eq_true_eq] at *; symm; simp; omega)
 all_goals (congr 1; simp only [decide_eq_true_eq] at *; symm; simp; omega)
theorem rmeta_f (m : Met) : bindleref08_Meta.f m.f0 m.f1 m.f2 m.f3 = some (metaOk m) := by
 unfold bindleref08_Meta.f metaOk
 repeat' split
 all_goals (congr 1; first | (symm; simp; omega) | (apply decide_eq_decide.2; omega))
theorem mtarget_f (s : ByteArray) (h2 : s.size ≤ 8000000000000) : ∃ r, path_Target.f s = some r ∧ (r == 0) = targetOk s := by
 have e : path_right.f s = some (rightB s) := by unfold path_right.f; rw [if_pos h2]
 have hz : s.toList = [] ↔ s.size = 0 := by rw [Lib.toList_data, ← List.length_eq_zero_iff]; simp
 unfold path_Target.f targetOk
 rw [e, Option.bind_some]
 cases rightB s with
 | false => exact ⟨9, rfl, rfl⟩
 | true =>
  rw [if_pos rfl]
  by_cases h0 : s.toList = []
  ·rw [if_pos h0]
   refine ⟨6, rfl, ?_⟩
   have := hz.1 h0
   simp [this]
  ·rw [if_neg h0]
   have h1 : s.size ≠ 0 := fun e => h0 (hz.2 e)
   by_cases h3 : (s.size : Int) > 200
   ·rw [if_pos h3]
    refine ⟨6, rfl, ?_⟩
    simp
    omega
   ·rw [if_neg h3]
    refine ⟨0, rfl, ?_⟩
    simp
    omega
theorem rtarget_f (s : ByteArray) (h : s.size ≤ 140737488351232) : ∃ r, Ev (fun k => bindleref08_Target.f k s) r ∧ (r == 0) = targetOk s := by
 have e := Text_eq s (by omega)
 have hz : s.toList = [] ↔ s.size = 0 := by rw [Lib.toList_data, ← List.length_eq_zero_iff]; simp
 have start : ∀ r, Ev (fun _ => if rightB s = true then (if s.toList = ([] : List UInt8) then (some 6) else (if (s.size : Int) > 200 then (some 6) else (some 0))) else (some 9)) r → Ev (fun k => bindleref08_Target.f k s) r := fun r hr =>
  Ev.congr (f := fun k => (bindleref01_Text.f k s).bind fun t => (if t = true then (if s.toList = ([] : List UInt8) then (some 6) else (if (s.size : Int) > 200 then (some 6) else (some 0))) else (some 9))) (fun k => rfl) (Ev.bind e hr)
 unfold targetOk
 cases hr : rightB s with
 | false => exact ⟨9, start _ (Ev.congr (fun k => by rw [hr]; rfl) (Ev.now _)), rfl⟩
 | true =>
  by_cases h0 : s.toList = []
  ·refine ⟨6, start _ (Ev.congr (fun k => by rw [hr, if_pos rfl, if_pos h0]) (Ev.now _)), ?_⟩
   have := hz.1 h0
   simp [this]
  ·have h1 : s.size ≠ 0 := fun e => h0 (hz.2 e)
   by_cases h3 : (s.size : Int) > 200
   ·refine ⟨6, start _ (Ev.congr (fun k => by rw [hr, if_pos rfl, if_neg h0, if_pos h3]) (Ev.now _)), ?_⟩
    simp
    omega
   ·refine ⟨0, start _ (Ev.congr (fun k => by rw [hr, if_pos rfl, if_neg h0, if_neg h3]) (Ev.now _)), ?_⟩
    simp
    omega
def kindB (m : Mem) : Bool := if m.f2 = 48 ∨ m.f2 = 53 then decide (m.f1.toList = []) else if m.f2 = 49 then cleanOk m.f1 else if m.f2 = 50 then targetOk m.f1 else false
theorem mj0_f (m : Mem) (b : Bool) (hz : MemZ m) : Ev (fun k => member_Good.j0 k b m.f0 m.f1 m.f2 m.f3.f0 m.f3.f1 m.f3.f2 m.f3.f3 m.f4) (!b && kindB m) := by
 obtain ⟨r, h1, h3⟩ := mtarget_f m.f1 hz.2.1
 have hj1 : Ev (fun k => member_Good.j1 k m.f2 (if m.f2 = 48 then (m.f2 == 48) else (m.f2 == 53)) m.f0 m.f1 m.f2 m.f3.f0 m.f3.f1 m.f3.f2 m.f3.f3 m.f4) (kindB m) := by
  refine Ev.step (f := fun _ => some (kindB m)) (fun k => ?_) (Ev.now _)
  rw [member_Good.j1]
  unfold kindB
  by_cases a : m.f2 = 48
  ·rw [if_pos a, if_pos (by rw [beq_iff_eq]; exact a), if_pos (.inl a), beq_dec]
  ·rw [if_neg a]
   by_cases b : m.f2 = 53
   ·rw [if_pos (by rw [beq_iff_eq]; exact b), if_pos (.inr b), beq_dec]
   ·rw [if_neg (by rw [beq_iff_eq]; exact b), if_neg (show ¬ (m.f2 = 48 ∨ m.f2 = 53) from fun h => h.elim a b)]
    by_cases c : m.f2 = 49
    ·rw [if_pos c, if_pos c, mclean_f _ hz.2.1]; rfl
    ·rw [if_neg c, if_neg c]
     by_cases d : m.f2 = 50
     ·rw [if_pos d, if_pos d, h1, Option.bind_some, h3]
     ·rw [if_neg d, if_neg d]
 cases b with
 | true => exact Ev.step (f := fun _ => some false) (fun k => by rw [member_Good.j0, if_pos rfl]) (Ev.now _)
 | false =>
  refine Ev.step (fun k => ?_) hj1
  rw [member_Good.j0, if_neg (by decide)]
  by_cases a : m.f2 = 48
  ·rw [if_pos a, if_pos a]
  ·rw [if_neg a, if_neg a]
theorem goodM_eq (m : Mem) : goodM m = (cleanOk m.f0 && metaOk m.f3 && !(decide (1048576 < m.f4.length) || (!decide (m.f2 = 48) && decide (0 < m.f4.length))) && kindB m) := by
 unfold goodM kindB
 congr 1
 rw [Bool.and_assoc, Bool.and_assoc, Bool.and_assoc]
 congr 2
 by_cases a : m.f2 = 48 <;> by_cases b : m.f4.length ≤ 1048576 <;> by_cases c : m.f4.length = 0 <;> simp [a, b, c] <;> omega
theorem member_Good_eq (m : Mem) (hz : MemZ m) : Ev (fun k => member_Good.f k m.f0 m.f1 m.f2 m.f3.f0 m.f3.f1 m.f3.f2 m.f3.f3 m.f4) (goodM m) := by
 rw [goodM_eq]
 cases hc : cleanOk m.f0 with
 | false => exact Ev.congr (fun k => by unfold member_Good.f; rw [mclean_f _ hz.1, Option.bind_some, hc, if_neg (by decide)]) (mj0_f m true hz)
 | true =>
  cases hm : metaOk m.f3 with
  | false => exact Ev.congr (fun k => by unfold member_Good.f; rw [mclean_f _ hz.1, Option.bind_some, hc, if_pos rfl, mmeta_f, Option.bind_some, hm, if_neg (by decide)]) (mj0_f m true hz)
  | true =>
   by_cases a : (m.f4.length : Int) > 1048576
   ·rw [decide_eq_true (show 1048576 < m.f4.length by omega)]
    exact Ev.congr (fun k => by unfold member_Good.f; rw [mclean_f _ hz.1, Option.bind_some, hc, if_pos rfl, mmeta_f, Option.bind_some, hm, if_pos rfl, if_pos a]) (mj0_f m true hz)
   ·by_cases b : m.f2 = 48
    ·rw [decide_eq_false (show ¬ 1048576 < m.f4.length by omega), decide_eq_true b]
     exact Ev.congr (fun k => by unfold member_Good.f; rw [mclean_f _ hz.1, Option.bind_some, hc, if_pos rfl, mmeta_f, Option.bind_some, hm, if_pos rfl, if_neg a, if_pos b]) (mj0_f m false hz)
    ·have e : decide ((m.f4.length : Int) > 0) = decide (0 < m.f4.length) := decide_eq_decide.2 (by omega)
     rw [decide_eq_false (show ¬ 1048576 < m.f4.length by omega), decide_eq_false b]
     simp only [Bool.true_and, Bool.false_or, Bool.not_false]
     refine Ev.congr (fun k => ?_) (mj0_f m (decide (0 < m.f4.length)) hz)
     unfold member_Good.f
     rw [mclean_f _ hz.1, Option.bind_some, hc, if_pos rfl, mmeta_f, Option.bind_some, hm, if_pos rfl, if_neg a, if_neg b, e]
theorem rj0_f (m : Mem) (b : Bool) (hz : MemR m) : Ev (fun k => bindleref08_Good.j0 k b m.f0 m.f1 m.f2 m.f3.f0 m.f3.f1 m.f3.f2 m.f3.f3 m.f4) (!b && kindB m) := by
 obtain ⟨r, ⟨K1, h1⟩, h3⟩ := rtarget_f m.f1 hz.2.1
 obtain ⟨K2, h2⟩ := rclean_f m.f1 hz.2.1
 have hj1 : Ev (fun k => bindleref08_Good.j1 k m.f2 (if m.f2 = 48 then (m.f2 == 48) else (m.f2 == 53)) m.f0 m.f1 m.f2 m.f3.f0 m.f3.f1 m.f3.f2 m.f3.f3 m.f4) (kindB m) := by
  refine ⟨K1 + K2 + 1, fun k hk => ?_⟩
  obtain ⟨k, rfl⟩ : ∃ m, k = m + 1 := ⟨k - 1, by omega⟩
  dsimp only at *
  rw [bindleref08_Good.j1]
  unfold kindB
  by_cases a : m.f2 = 48
  ·rw [if_pos a, if_pos (by rw [beq_iff_eq]; exact a), if_pos (.inl a), beq_dec]
  ·rw [if_neg a]
   by_cases b : m.f2 = 53
   ·rw [if_pos (by rw [beq_iff_eq]; exact b), if_pos (.inr b), beq_dec]
   ·rw [if_neg (by rw [beq_iff_eq]; exact b), if_neg (show ¬ (m.f2 = 48 ∨ m.f2 = 53) from fun h => h.elim a b)]
    by_cases c : m.f2 = 49
    ·rw [if_pos c, if_pos c, h2 k (by omega)]; rfl
    ·rw [if_neg c, if_neg c]
     by_cases d : m.f2 = 50
     ·rw [if_pos d, if_pos d, h1 k (by omega), Option.bind_some, h3]
     ·rw [if_neg d, if_neg d]
 cases b with
 | true => exact Ev.step (f := fun _ => some false) (fun k => by rw [bindleref08_Good.j0, if_pos rfl]) (Ev.now _)
 | false =>
  refine Ev.step (fun k => ?_) hj1
  rw [bindleref08_Good.j0, if_neg (by decide)]
  by_cases a : m.f2 = 48
  ·rw [if_pos a, if_pos a]
  ·rw [if_neg a, if_neg a]
theorem refGood_eq (m : Mem) (hz : MemR m) : Ev (fun k => bindleref08_Good.f k m.f0 m.f1 m.f2 m.f3.f0 m.f3.f1 m.f3.f2 m.f3.f3 m.f4) (goodM m) := by
 rw [goodM_eq]
 refine Ev.bind (f := fun k t175 => (if t175 = true then ((bindleref08_Meta.f m.f3.f0 m.f3.f1 m.f3.f2 m.f3.f3).bind fun t176 => (if t176 = true then (if (m.f4.length : Int) > 1048576 then (bindleref08_Good.j0 k true m.f0 m.f1 m.f2 m.f3.f0 m.f3.f1 m.f3.f2 m.f3.f3 m.f4) else (if m.f2 = 48 then (bindleref08_Good.j0 k false m.f0 m.f1 m.f2 m.f3.f0 m.f3.f1 m.f3.f2 m.f3.f3 m.f4) else (bindleref08_Good.j0 k (decide ((m.f4.length : Int) > 0)) m.f0 m.f1 m.f2 m.f3.f0 m.f3.f1 m.f3.f2 m.f3.f3 m.f4))) else (bindleref08_Good.j0 k true m.f0 m.f1 m.f2 m.f3.f0 m.f3.f1 m.f3.f2 m.f3.f3 m.f4))) else (bindleref08_Good.j0 k true m.f0 m.f1 m.f2 m.f3.f0 m.f3.f1 m.f3.f2 m.f3.f3 m.f4))) (rclean_f m.f0 hz.1) ?_
 cases hc : cleanOk m.f0 with
 | false => exact Ev.congr (fun k => by rw [if_neg (by decide)]) (rj0_f m true hz)
 | true =>
  cases hm : metaOk m.f3 with
  | false => exact Ev.congr (fun k => by rw [if_pos rfl, rmeta_f, Option.bind_some, hm, if_neg (by decide)]) (rj0_f m true hz)
  | true =>
   by_cases a : (m.f4.length : Int) > 1048576
   ·rw [decide_eq_true (show 1048576 < m.f4.length by omega)]
    exact Ev.congr (fun k => by rw [if_pos rfl, rmeta_f, Option.bind_some, hm, if_pos rfl, if_pos a]) (rj0_f m true hz)
   ·by_cases b : m.f2 = 48
    ·rw [decide_eq_false (show ¬ 1048576 < m.f4.length by omega), decide_eq_true b]
     exact Ev.congr (fun k => by rw [if_pos rfl, rmeta_f, Option.bind_some, hm, if_pos rfl, if_neg a, if_pos b]) (rj0_f m false hz)
    ·have e : decide ((m.f4.length : Int) > 0) = decide (0 < m.f4.length) := decide_eq_decide.2 (by omega)
     rw [decide_eq_false (show ¬ 1048576 < m.f4.length by omega), decide_eq_false b]
     change Ev _ (!decide (0 < m.f4.length) && kindB m)
     refine Ev.congr (fun k => ?_) (rj0_f m (decide (0 < m.f4.length)) hz)
     rw [if_pos rfl, rmeta_f, Option.bind_some, hm, if_pos rfl, if_neg a, if_neg b, e]
end Go.Proofs.YtfljbidecljlcaaDoor

namespace Go.Proofs.YtfljbidecljlcaaDoor
open Go.RowKit Go.Maps Go.Proofs.YtfljbidecljlcaaDoor.Print Go.Proofs.YtfljbidecljlcaaDoorW.PrintWords Go.Proofs.YtfljbidecljlcaaDoorW.PrintLast Go.Proofs.YtfljbidecljlcaaDoorW.PrintMore
set_option linter.unusedVariables false
set_option linter.unusedSimpArgs false
theorem rdM_at (l : List Mem) (i : Int) (h0 : 0 ≤ i) (h1 : i < l.length) : rd_T45 l i = l[i.toNat]'(by omega) := by
 unfold rd_T45
 rw [List.getD_eq_getElem?_getD, List.getElem?_eq_getElem (by omega)]
 rfl
theorem bcell {W w1 : World} (hb : Below W.heap.size W w1) : (∀ b o, b < W.heap.size → w1.cell? ⟨b, o, none⟩ = W.cell? ⟨b, o, none⟩) ∧ (∀ b o, b < W.heap.size → w1.frozen? ⟨b, o, none⟩ = W.frozen? ⟨b, o, none⟩) :=
 ⟨fun b o h => hb.cell (p := ⟨b, o, none⟩) h, fun b o h => hb.frozen (p := ⟨b, o, none⟩) h⟩
end Go.Proofs.YtfljbidecljlcaaDoor

namespace Go.Proofs.YtfljbidecljlcaaDoor
open Go.RowKit Go.Maps Go.Proofs.YtfljbidecljlcaaDoor.Print Go.Proofs.YtfljbidecljlcaaDoorW.PrintWords Go.Proofs.YtfljbidecljlcaaDoorW.PrintLast Go.Proofs.YtfljbidecljlcaaDoorW.PrintMore
set_option linter.unusedVariables false
set_option linter.unusedSimpArgs false
set_option maxRecDepth 100000 in
set_option maxHeartbeats 1000000 in
theorem Clone_calls (A : Option Addr) (c : Nat) (xs : List Int) (W : World) (hC : Kd.C (Kd.int .u8) W A xs.length xs) (hl : xs.length ≤ 140737488351232) :
  Calls Tryd.prog 59 #[.slice A xs.length c] W fun e W' => ∃ v, e = .returned v ∧ Kd.R (Kd.int .u8) 5 W' W.heap.size (fun _ => True) v xs ∧ Below W.heap.size W W' := by
 rcases A with _ | ad
 ·have h0 : xs = [] := by
   rcases Nat.eq_zero_or_pos xs.length with h | h
   ·exact List.eq_nil_of_length_eq_zero h
   ·obtain ⟨ad, h1, _⟩ := hC.2.2 h
    cases h1
  subst h0
  have hcmp := fun (w : World) => Lib.run_eql_slice_nil (P := Tryd.prog) w 23 5 none 0 c 0 0 Tryd.underlying23
  go_enter Tryd.func59, Tryd.ntmps59
  go_wp2
  go_ret
  exact ⟨_, rfl, Kd.R_nil _ _ _ _ _, Below.refl _ _⟩
 ·have hcmp := fun (w : World) => Lib.run_eql_slice_nil (P := Tryd.prog) w 23 5 (some ad) xs.length c 0 0 Tryd.underlying23
  have hown := own_lit W W.heap.size 5 .u8 [] (Nat.le_refl _) (by decide)
  have HC := Aside0.mk hC
  have HO := Aside0.mk hown
  clear hC hown
  go_enter Tryd.func59, Tryd.ntmps59
  go_wp2_with (at_builtin; refine Kd.R_append_row (Value.int .u8) (0 : Int) (h1 := fun _ => rfl) (w0 := W) W.heap.size rfl _ _ 23 5 (.int .u8 0) 1 rfl Tryd.underlying23 info5 rfl (by decide) (.slice (some ⟨W.heap.size, 0, none⟩) 0 0) [] xs (some ad) xs.length c (fun _ => True) rfl rfl (fun _ _ => trivial) (Kd.R_of_own (enc := Value.int .u8) (h1 := fun _ => rfl) HO.out (fun _ _ => trivial)) (Kd.C_alloc HC.out _) ((Below.refl _ _).alloc (Nat.le_refl _) _) (by simp) (by simp; omega) ?_; intro v1 w1 hr1 hb1 hg1 hat1)
  go_ret
  exact ⟨_, rfl, hr1, hb1⟩
end Go.Proofs.YtfljbidecljlcaaDoor

namespace Go.Proofs.YtfljbidecljlcaaDoor
open Go.RowKit Go.Maps Go.Proofs.YtfljbidecljlcaaDoor.Print Go.Proofs.YtfljbidecljlcaaDoorW.PrintWords Go.Proofs.YtfljbidecljlcaaDoorW.PrintLast Go.Proofs.YtfljbidecljlcaaDoorW.PrintMore
set_option linter.unusedVariables false
set_option linter.unusedSimpArgs false
theorem Find1_calls (x : Node) (A : Option Addr) (n c : Nat) (p : ByteArray) (W : World) :
  Calls Tryd.prog 57 #[.agg #[.string x.f0, .string x.f1, .string x.f2, .int .u8 x.f3, .int .i64 x.f4.f0, .int .i64 x.f4.f1, .int .i64 x.f4.f2, .int .i64 x.f4.f3, .slice A n c], .string p] W fun e W' =>
   e = .returned (.int .i64 (Lib.compareBytes x.f0.data.toList p.data.toList)) ∧ Below W.heap.size W W' := by
 go_enter Tryd.func57, Tryd.ntmps57
 go_wp2_with (go_at_call 58; refine (Tryd.strings_Compare _ _ _).mono ?_; rintro e w' ⟨rfl, rfl⟩)
 go_ret
 exact ⟨rfl, (Below.refl _ _).alloc (Nat.le_refl _) _⟩
theorem rdN_at (l : List Node) (i : Int) (h0 : 0 ≤ i) (h1 : i < l.length) : rd_T40 l i = l[i.toNat]'(by omega) := by
 unfold rd_T40
 rw [List.getD_eq_getElem?_getD, List.getElem?_eq_getElem (by omega)]
 rfl
def FoundAt (l : List Node) (p : ByteArray) (n : Int) (b : Bool) : Prop :=
 0 ≤ n ∧ n ≤ l.length ∧ (b = true ↔ ∃ h : n.toNat < l.length, l[n.toNat].f0.toList = p.toList) ∧ (b = false → ∀ (i : Nat) (hi : i < l.length), l[i].f0.toList ≠ p.toList)
def SearchRel (l : List Node) (p : ByteArray) (W : World) (i j : Int) (wr : World) : Prop :=
 0 ≤ i ∧ i ≤ j ∧ j ≤ l.length ∧ (∀ (t : Nat) (ht : t < l.length), (t : Int) < i → lt l[t].f0 p = true) ∧ (∀ (t : Nat) (ht : t < l.length), j ≤ (t : Int) → lt l[t].f0 p = false) ∧ Below W.heap.size W wr
set_option maxRecDepth 100000 in
set_option maxHeartbeats 2000000 in
theorem Search_calls (A0 : Option Addr) (c0 : Nat) (l : List Node) (p : ByteArray) (W : World) (hC : Kd.C k40 W A0 l.length l) (hr : riseB l = true) (hz : NodesZ l) :
  Calls Tryd.prog 56 #[.slice A0 l.length c0, .string p, .func (.func 57) #[] #[]] W fun e W' => ∃ n b, e = .returned (.tuple #[.int .i64 n, .bool b]) ∧ FoundAt l p n b ∧ Below W.heap.size W W' := by
 have HC := Aside0.mk hC
 have HZ := Aside0.mk hz
 have HRI := Aside0.mk hr
 have hlen : (l.length : Int) ≤ 1000000000000 := by have := hz.1; omega
 clear hC hr hz
 generalize hpost : (fun (e : Ending) (W' : World) => ∃ n b, e = .returned (.tuple #[.int .i64 n, .bool b]) ∧ FoundAt l p n b ∧ Below W.heap.size W W') = Q
 have hQ := Aside0.mk hpost
 clear hpost
 go_enter Tryd.func56, Tryd.ntmps56
 go_wp2
 go_loopw [9, 10] (fun i j wr => ∃ n m : Int, i = .int .i64 n ∧ j = .int .i64 m ∧ Aside0 (SearchRel l p W n m wr)) (fun i j _ => (intOf j - intOf i).toNat)
 case atStart => exact ⟨0, _, rfl, rfl, ⟨⟨by omega, by omega, by omega, fun t ht h => by omega, fun t ht h => by omega, Below.refl _ _⟩⟩⟩
 case round =>
  obtain ⟨n, m, rfl, rfl, HR⟩ := hrel
  have h0 := HR.out.1
  have h1 := HR.out.2.1
  have h2 := HR.out.2.2.1
  have HB := Aside0.mk HR.out.2.2.2.2.2
  by_cases hlt : n < m
  ·have c1 : decide (n < m) = true := decide_eq_true hlt
   have hh0 : 0 ≤ (n + m) / 2 := by omega
   have hh1 : (n + m) / 2 < (l.length : Int) := by omega
   obtain ⟨ad, A7, c7, rfl, x0, x1, x2, x3, x4, x5, x6, x7, x8, hl7, hC7⟩ := at_T40 (Kd.C_below HC.out HB.out) ((n + m) / 2) hh0 hh1
   have hx := rdN_at l _ hh0 hh1
   generalize rd_T40 l ((n + m) / 2) = x at hx x0 x1 x2 x3 x4 x5 x6 x7 x8 hl7 hC7
   have HX := Aside0.mk hx
   clear hx hC7 hl7
   go_wp2_with (go_at_call 57; refine (Find1_calls x A7 x.f5.length c7 p _).mono ?_; rintro e w' ⟨rfl, hb⟩)
   ·have hn : Lib.compareBytes x.f0.data.toList p.data.toList < 0 := by assumption
    have hltx : lt x.f0 p = true := by rw [lt_data]; exact (cmp_neg _ _).1 hn
    have hfin : SearchRel l p W ((n + m) / 2 + 1) m w' := by
     refine ⟨by omega, by omega, h2, fun t ht h => ?_, HR.out.2.2.2.2.1, HB.out.trans (hb.mono HB.out.size)⟩
     rcases Nat.lt_or_ge t ((n + m) / 2).toNat with h3 | h3
     ·have := riseB_at HRI.out t ((n + m) / 2).toNat ht (by omega) h3
      rw [← HX.out] at this
      exact lt_trans this hltx
     ·have e : t = ((n + m) / 2).toNat := by omega
      subst e
      rw [← HX.out]; exact hltx
    clear hltx hn hb
    go_roundw
    case rel => exact ⟨_, _, rfl, rfl, ⟨hfin⟩⟩
    case measure => simp [intOf]; omega
   ·have hn : 0 ≤ Lib.compareBytes x.f0.data.toList p.data.toList := by assumption
    have hltx : lt x.f0 p = false := by
     rw [lt_data, Bool.eq_false_iff]
     intro h
     have := (cmp_neg _ _).2 h
     omega
    have hfin : SearchRel l p W n ((n + m) / 2) w' := by
     refine ⟨h0, by omega, by omega, HR.out.2.2.2.1, fun t ht h => ?_, HB.out.trans (hb.mono HB.out.size)⟩
     rcases Nat.lt_or_ge ((n + m) / 2).toNat t with h3 | h3
     ·have := riseB_at HRI.out ((n + m) / 2).toNat t (by omega) ht h3
      rw [← HX.out] at this
      cases h4 : lt l[t].f0 p with
      | false => rfl
      | true =>
       have := lt_trans this h4
       rw [hltx] at this
       cases this
     ·have e : t = ((n + m) / 2).toNat := by omega
      subst e
      rw [← HX.out]; exact hltx
    clear hltx hn hb
    go_roundw
    case rel => exact ⟨_, _, rfl, rfl, ⟨hfin⟩⟩
    case measure => simp [intOf]; omega
  ·have c1 : decide (n < m) = false := decide_eq_false hlt
   obtain rfl : n = m := by omega
   by_cases hnl : n < (l.length : Int)
   ·have c2 : decide (n < (l.length : Int)) = true := decide_eq_true hnl
    obtain ⟨ad, A7, c7, rfl, x0, x1, x2, x3, x4, x5, x6, x7, x8, hl7, hC7⟩ := at_T40 (Kd.C_below HC.out HB.out) n h0 hnl
    have hx := rdN_at l _ h0 hnl
    generalize rd_T40 l n = x at hx x0 x1 x2 x3 x4 x5 x6 x7 x8 hl7 hC7
    have HX := Aside0.mk hx
    clear hx hC7 hl7
    go_wp2_with (go_at_call 57; refine (Find1_calls x A7 x.f5.length c7 p _).mono ?_; rintro e w' ⟨rfl, hb⟩)
    rw [← hQ.out]
    refine ⟨n, _, rfl, ⟨h0, h2, ?_, ?_⟩, HB.out.trans (hb.mono HB.out.size)⟩
    ·rw [beq_iff_eq, cmp_zero, ← Lib.toList_data, ← Lib.toList_data]
     constructor
     ·intro h; exact ⟨by omega, by rw [← HX.out]; exact h⟩
     ·rintro ⟨_, h⟩; rw [← HX.out] at h; exact h
    ·intro h i hi he
     rw [beq_eq_false_iff_ne, ne_eq, cmp_zero, ← Lib.toList_data, ← Lib.toList_data] at h
     rcases Nat.lt_trichotomy i n.toNat with h3 | h3 | h3
     ·exact lt_ne (HR.out.2.2.2.1 i hi (by omega)) he
     ·subst h3; rw [← HX.out] at he; exact h he
     ·have h4 := riseB_at HRI.out n.toNat i (by omega) hi h3
      have h5 := HR.out.2.2.2.2.1 n.toNat (by omega) (by omega)
      have h6 : lt l[n.toNat].f0 p = lt l[n.toNat].f0 l[i].f0 := by unfold lt; rw [he]
      rw [h6, h4] at h5
      cases h5
   ·have c2 : decide (n < (l.length : Int)) = false := decide_eq_false hnl
    go_wp2
    rw [← hQ.out]
    refine ⟨n, false, rfl, ⟨h0, h2, ⟨fun h => (by cases h), fun ⟨h, _⟩ => absurd h (by omega)⟩, fun _ i hi he => ?_⟩, HB.out⟩
    exact lt_ne (HR.out.2.2.2.1 i hi (by omega)) he
theorem below_put {B : Nat} {a w : World} (h : Below B a w) (g j : Nat) (hg : B ≤ g) (u : Value) : Below B a (w.setCell ⟨g, j, none⟩ u) := h.setCell (p := ⟨g, j, none⟩) hg u
theorem row_put {α : Type} {d : Kd α} {e base B : Nat} {w : World} {v : Value} {xs : List α} (h : d.R e w base (fun k => B ≤ k) v xs) (g j : Nat) (hg : g < B) (u : Value) : d.R e (w.setCell ⟨g, j, none⟩ u) base (fun k => B ≤ k) v xs :=
 Kd.R_far h (p := ⟨g, j, none⟩) (fun k hk e => by have : k = g := e; omega) u
def nodeCells (x : Node) (v : Value) : Array Value := #[.string x.f0, .string x.f1, .string x.f2, .int .u8 x.f3, .int .i64 x.f4.f0, .int .i64 x.f4.f1, .int .i64 x.f4.f2, .int .i64 x.f4.f3, v]
set_option maxRecDepth 100000 in
set_option maxHeartbeats 2000000 in
theorem Find_calls (A0 : Option Addr) (c0 : Nat) (l : List Node) (p : ByteArray) (W : World) (hC : Kd.C k40 W A0 l.length l) (hr : riseB l = true) (hz : NodesZ l) :
  Calls Tryd.prog 36 #[.slice A0 l.length c0, .string p] W fun e W' => ∃ x b v, (match findF l p with | some y => x = y ∧ b = true | none => x = z40 ∧ b = false) ∧ e = .returned (.tuple #[.agg (nodeCells x v), .bool b]) ∧ Kd.R (Kd.int .u8) 5 W' W.heap.size (fun _ => True) v x.f5 ∧ Below W.heap.size W W' := by
 have cS := fun W2 (h : Kd.C k40 W2 A0 l.length l) => Search_calls A0 c0 l p W2 h hr hz
 have HC := Aside0.mk hC
 have HZ := Aside0.mk hz
 have HS := Aside0.mk cS
 have HRI := Aside0.mk hr
 have hlen : (l.length : Int) ≤ 1000000000000 := by have := hz.1; omega
 clear hC hz cS hr
 generalize hpost : (fun (e : Ending) (W' : World) => ∃ x b v, (match findF l p with | some y => x = y ∧ b = true | none => x = z40 ∧ b = false) ∧ e = .returned (.tuple #[.agg (nodeCells x v), .bool b]) ∧ Kd.R (Kd.int .u8) 5 W' W.heap.size (fun _ => True) v x.f5 ∧ Below W.heap.size W W') = Q
 have hQ := Aside0.mk hpost
 clear hpost
 go_enter Tryd.func36, Tryd.ntmps36
 go_wp2_with (first
  | (go_at_call 56; refine (HS.out _ (Kd.C_alloc HC.out _)).mono ?_; rintro e w1 ⟨n, b, rfl, hF, hb1⟩; have HF := Aside0.mk hF; clear hF; obtain ⟨hc1, hf1⟩ := bcell hb1; have hz1 : W.heap.size < w1.heap.size := Nat.lt_of_lt_of_le (by simp) hb1.size; have HB1 := Aside0.mk hb1; clear hb1; cases b; all_goals (first | (obtain ⟨hnl, he⟩ := HF.out.2.2.1.1 rfl; have h0 := HF.out.1; have h1 : n < (l.length : Int) := (by omega); have HE := Aside0.mk he; clear he; obtain ⟨ad, A7, c7, rfl, x0, x1, x2, x3, x4, x5, x6, x7, x8, hl7, hC7⟩ := at_T40 (Kd.C_below HC.out (((Below.refl _ _).alloc (Nat.le_refl _) _).trans (HB1.out.mono (by simp)))) n h0 h1; have hx := rdN_at l _ h0 h1; generalize rd_T40 l n = x at hx x0 x1 x2 x3 x4 x5 x6 x7 x8 hl7 hC7; have HX := Aside0.mk hx; have HC7 := Aside0.mk hC7; clear hx hC7) | skip))
  | (go_at_call 59; refine (Clone_calls A7 c7 x.f5 _ (Kd.C_alloc HC7.out _) (by rw [HX.out]; exact (HZ.out.2 _ (List.getElem_mem _)).2.2.2)).mono ?_; rintro e w2 ⟨v, rfl, hR2, hb2⟩; obtain ⟨Av, cv, rfl, hlv, hCv⟩ := Kd.R_reads hR2; clear hlv hCv; obtain ⟨hc2, hf2⟩ := bcell hb2; have HR2 := Aside0.mk hR2; have HB2 := Aside0.mk hb2; clear hR2 hb2))
 ·have hB1 := ((Below.refl W.heap.size W).alloc (Nat.le_refl _) _).trans (HB1.out.mono (by simp))
  refine bodyPost_ret (v := .tuple #[.agg (nodeCells z40 (.slice none 0 0)), .bool false]) (by simp [results, Tryd.results36, go_sem, hc1, hz1, nodeCells, z40, z38]) rfl ?_
  have hfn := findF_none p (HF.out.2.2.2 rfl)
  rw [← hQ.out]
  refine ⟨z40, false, .slice none 0 0, by rw [hfn]; exact ⟨rfl, rfl⟩, rfl, Kd.R_nil _ _ _ _ _, ?_⟩
  repeat (with_reducible refine below_put ?_ _ _ (Nat.le_refl _) _)
  exact hB1
 ·have hB1 := ((Below.refl W.heap.size W).alloc (Nat.le_refl _) _).trans (HB1.out.mono (by simp))
  have hB2 := (hB1.alloc (by have := hB1.size; omega) _).trans (HB2.out.mono (by have := hB1.size; simp; omega))
  have hw2 := fun j => (hc2 W.heap.size j (by simp; omega)).trans ((((Below.refl w1.heap.size w1).alloc (Nat.le_refl _) _).cell (p := ⟨W.heap.size, j, none⟩) hz1).trans (hc1 W.heap.size j (by simp)))
  have hne1 : ¬ w1.heap.size = W.heap.size := by omega
  have hne2 : ¬ W.heap.size = w1.heap.size := by omega
  clear hc1 hf1 hc2 hf2
  refine bodyPost_ret (v := .tuple #[.agg (nodeCells x (.slice Av x.f5.length cv)), .bool true]) (by simp [results, Tryd.results36, go_sem, hw2, hne1, hne2, nodeCells]) rfl ?_
  have hfn := findF_at HRI.out p n.toNat hnl HE.out
  rw [← hQ.out]
  refine ⟨x, true, .slice Av x.f5.length cv, by rw [hfn, ← HX.out]; exact ⟨rfl, rfl⟩, rfl, ?_, ?_⟩
  ·have hR : (Kd.int .u8).R 5 w2 (w1.heap.size + 1) (fun k => w1.heap.size + 1 ≤ k) (.slice Av x.f5.length cv) x.f5 := Kd.R_mono (Kd.R_bound (by have := HR2.out; simpa using this)) (fun k hk => hk.2.1)
   refine Kd.R_lower (base := w1.heap.size + 1) (Kd.R_mono (ok := fun k => w1.heap.size + 1 ≤ k) ?_ (fun _ _ => trivial)) (by omega)
   repeat (with_reducible refine row_put ?_ _ _ (by omega) _)
   exact hR
  ·repeat (with_reducible refine below_put ?_ _ _ (by omega) _)
   exact hB2
end Go.Proofs.YtfljbidecljlcaaDoor

namespace Go.Proofs.YtfljbidecljlcaaDoor.Print
open Go.RowKit Go.Proofs.YtfljbidecljlcaaDoorW.PrintWords Go.Proofs.YtfljbidecljlcaaDoorW.PrintLast Go.Proofs.YtfljbidecljlcaaDoorW.PrintMore
attribute [local go_sem] max2_int min2_int max_two min_two max_three min_three max_four min_four   -- for this text's walks alone
set_option linter.unusedVariables false
set_option linter.unusedSimpArgs false
attribute [local go_sem high] eqA38
def bindleref08_Equal.f (a0_0 : ByteArray) (a0_1 : ByteArray) (a0_2 : ByteArray) (a0_3 : Int) (a0_4 : Int) (a0_5 : Int) (a0_6 : Int) (a0_7 : Int) (l0_8 : List Int) (a1_0 : ByteArray) (a1_1 : ByteArray) (a1_2 : ByteArray) (a1_3 : Int) (a1_4 : Int) (a1_5 : Int) (a1_6 : Int) (a1_7 : Int) (l1_8 : List Int) : Option (Bool) := if a0_0.toList = a1_0.toList then (if a0_3 = a1_3 then (if (a0_4 == a1_4 && (a0_5 == a1_5 && (a0_6 == a1_6 && (a0_7 == a1_7)))) = true then (if a0_1.toList = a1_1.toList then (some ((strOfNums l0_8).toList == (strOfNums l1_8).toList)) else (some false)) else (some false)) else (some false)) else (some false)
set_option maxHeartbeats 8000000 in
set_option maxRecDepth 100000 in
theorem bindleref08_Equal.calls (a0_0 : ByteArray) (a0_1 : ByteArray) (a0_2 : ByteArray) (a0_3 : Int) (a0_4 : Int) (a0_5 : Int) (a0_6 : Int) (a0_7 : Int) (A0_8 : Option Addr) (c0_8 : Nat) (l0_8 : List Int) (a1_0 : ByteArray) (a1_1 : ByteArray) (a1_2 : ByteArray) (a1_3 : Int) (a1_4 : Int) (a1_5 : Int) (a1_6 : Int) (a1_7 : Int) (A1_8 : Option Addr) (c1_8 : Nat) (l1_8 : List Int) (r : Bool) (w : World) (hr0_8 : Kd.C (Kd.int .u8) w A0_8 l0_8.length l0_8) (hc0_8 : l0_8.length ≤ c0_8) (hr1_8 : Kd.C (Kd.int .u8) w A1_8 l1_8.length l1_8) (hc1_8 : l1_8.length ≤ c1_8) (h : bindleref08_Equal.f a0_0 a0_1 a0_2 a0_3 a0_4 a0_5 a0_6 a0_7 l0_8 a1_0 a1_1 a1_2 a1_3 a1_4 a1_5 a1_6 a1_7 l1_8 = some r) :
  Calls Tryd.prog 35 #[.agg #[.string a0_0, .string a0_1, .string a0_2, .int .u8 a0_3, .int .i64 a0_4, .int .i64 a0_5, .int .i64 a0_6, .int .i64 a0_7, .slice A0_8 l0_8.length c0_8], .agg #[.string a1_0, .string a1_1, .string a1_2, .int .u8 a1_3, .int .i64 a1_4, .int .i64 a1_5, .int .i64 a1_6, .int .i64 a1_7, .slice A1_8 l1_8.length c1_8]] w fun e w' => e = .returned (.bool r) ∧ Below w.heap.size w w' := by
 have hu40 := Tryd.underlying40
 have hu38 := Tryd.underlying38
 have HR0_8 := A0_ hr0_8
 have HC0_8 := A0_ hc0_8
 clear hr0_8 hc0_8
 have HR1_8 := A0_ hr1_8
 have HC1_8 := A0_ hc1_8
 clear hr1_8 hc1_8
 have HB := A0_ (Below.refl w.heap.size w)
 have H : (if a0_0.toList = a1_0.toList then (if a0_3 = a1_3 then (if (a0_4 == a1_4 && (a0_5 == a1_5 && (a0_6 == a1_6 && (a0_7 == a1_7)))) = true then (if a0_1.toList = a1_1.toList then (some ((strOfNums l0_8).toList == (strOfNums l1_8).toList)) else (some false)) else (some false)) else (some false)) else (some false)) = some r := h
 clear h
 by_cases c3 : a0_0.toList = a1_0.toList
 rotate_left
 ·rw [if_neg c3] at H
  have c3b0 : (a0_0.toList == a1_0.toList) = false := beq_eq_false_iff_ne.mpr c3
  have c3b1 : (a0_0.toList != a1_0.toList) = true := bne_iff_ne.mpr c3
  obtain rfl := Option.some.inj H
  go_enter Tryd.func35, Tryd.ntmps35
  go_wp2_with (first | ((with_reducible refine gate_dst (N := 2) rfl ?_); refine box_event ?hg (N := 2) ?hd (cs := #[.string a0_0, .string a0_1, .string a0_2, .int .u8 a0_3, .int .i64 a0_4, .int .i64 a0_5, .int .i64 a0_6, .int .i64 a0_7, .slice A0_8 l0_8.length c0_8]) (t := 40) ?hr ?_; (case hd => rfl); (case hg => rfl); (case hr => first | (go_simp; done) | (go_simp; rfl)); intro gb391 hg w29 hbox hb; have n0_ := A0_ (below_step (wb_ HB.out) hb); have n1_ := A0_ (hbox); have n2_ := A0_ ((by rw [hg]; exact (below_size (wb_ HB.out)) : w.heap.size ≤ gb391)); have n3_ := A0_ ((by rw [hg]; exact (below_size (wb_ HB.out)) : w.heap.size ≤ gb391)); clear HB; have HB := n0_; have BK391 := n1_; have GW391 := n2_; have GE391 := n3_; clear n0_ n1_ n2_ n3_; clear hb hbox hg) | ((with_reducible refine gate_dst (N := 3) rfl ?_); refine box_event ?hg (N := 3) ?hd (cs := #[.string a1_0, .string a1_1, .string a1_2, .int .u8 a1_3, .int .i64 a1_4, .int .i64 a1_5, .int .i64 a1_6, .int .i64 a1_7, .slice A1_8 l1_8.length c1_8]) (t := 40) ?hr ?_; (case hd => rfl); (case hg => rfl); (case hr => first | (go_simp; done) | (go_simp; rfl)); intro gb392 hg w30 hbox hb; have n0_ := A0_ (blk_below (g := gb391) (o := .cells #[.string a0_0, .string a0_1, .string a0_2, .int .u8 a0_3, .int .i64 a0_4, .int .i64 a0_5, .int .i64 a0_6, .int .i64 a0_7, .slice A0_8 l0_8.length c0_8] 40 (0, 0)) (wB_ BK391.out) hb); have n1_ := A0_ (below_step (wb1_ HB.out GE391.out) hb); have n2_ := A0_ (hbox); have n3_ := A0_ ((by rw [hg]; exact (below_size (wb1_ HB.out GE391.out)) : w.heap.size ≤ gb392)); have n4_ := A0_ ((by rw [hg]; exact (below_size (wb1_ HB.out GE391.out)) : w.heap.size ≤ gb392)); have n5_ := A0_ ((by rw [hg]; exact Nat.ne_of_lt (blk_lt (g := gb391) (o := .cells #[.string a0_0, .string a0_1, .string a0_2, .int .u8 a0_3, .int .i64 a0_4, .int .i64 a0_5, .int .i64 a0_6, .int .i64 a0_7, .slice A0_8 l0_8.length c0_8] 40 (0, 0)) (wB_ BK391.out)) : gb391 ≠ gb392)); have n6_ := A0_ ((by rw [hg]; exact Nat.ne_of_gt (blk_lt (g := gb391) (o := .cells #[.string a0_0, .string a0_1, .string a0_2, .int .u8 a0_3, .int .i64 a0_4, .int .i64 a0_5, .int .i64 a0_6, .int .i64 a0_7, .slice A0_8 l0_8.length c0_8] 40 (0, 0)) (wB_ BK391.out)) : gb392 ≠ gb391)); clear BK391; clear HB; have BK391 := n0_; have HB := n1_; have BK392 := n2_; have GW392 := n3_; have GE392 := n4_; have NB391_392 := n5_; have NB392_391 := n6_; clear n0_ n1_ n2_ n3_ n4_ n5_ n6_; clear hb hbox hg; have hnb31 := NB391_392.out; have hnc31 := NB392_391.out; have hcz32_0 : w30.cell? ⟨gb391, 0, none⟩ = some (.string a0_0) := (bc_ BK391.out 0).trans rfl; have hcz32_1 : w30.cell? ⟨gb391, 1, none⟩ = some (.string a0_1) := (bc_ BK391.out 1).trans rfl; have hcz32_2 : w30.cell? ⟨gb391, 2, none⟩ = some (.string a0_2) := (bc_ BK391.out 2).trans rfl; have hcz32_3 : w30.cell? ⟨gb391, 3, none⟩ = some (.int .u8 a0_3) := (bc_ BK391.out 3).trans rfl; have hcz32_4 : w30.cell? ⟨gb391, 4, none⟩ = some (.int .i64 a0_4) := (bc_ BK391.out 4).trans rfl; have hcz32_5 : w30.cell? ⟨gb391, 5, none⟩ = some (.int .i64 a0_5) := (bc_ BK391.out 5).trans rfl; have hcz32_6 : w30.cell? ⟨gb391, 6, none⟩ = some (.int .i64 a0_6) := (bc_ BK391.out 6).trans rfl; have hcz32_7 : w30.cell? ⟨gb391, 7, none⟩ = some (.int .i64 a0_7) := (bc_ BK391.out 7).trans rfl; have hcz32_8 : w30.cell? ⟨gb391, 8, none⟩ = some (.slice A0_8 l0_8.length c0_8) := (bc_ BK391.out 8).trans rfl; have hfz32_0 := bf_ BK391.out 0; have hfz32_1 := bf_ BK391.out 1; have hfz32_2 := bf_ BK391.out 2; have hfz32_3 := bf_ BK391.out 3; have hfz32_4 := bf_ BK391.out 4; have hfz32_5 := bf_ BK391.out 5; have hfz32_6 := bf_ BK391.out 6; have hfz32_7 := bf_ BK391.out 7; have hfz32_8 := bf_ BK391.out 8; have hcz33_0 : w30.cell? ⟨gb392, 0, none⟩ = some (.string a1_0) := (bc_ BK392.out 0).trans rfl; have hcz33_1 : w30.cell? ⟨gb392, 1, none⟩ = some (.string a1_1) := (bc_ BK392.out 1).trans rfl; have hcz33_2 : w30.cell? ⟨gb392, 2, none⟩ = some (.string a1_2) := (bc_ BK392.out 2).trans rfl; have hcz33_3 : w30.cell? ⟨gb392, 3, none⟩ = some (.int .u8 a1_3) := (bc_ BK392.out 3).trans rfl; have hcz33_4 : w30.cell? ⟨gb392, 4, none⟩ = some (.int .i64 a1_4) := (bc_ BK392.out 4).trans rfl; have hcz33_5 : w30.cell? ⟨gb392, 5, none⟩ = some (.int .i64 a1_5) := (bc_ BK392.out 5).trans rfl; have hcz33_6 : w30.cell? ⟨gb392, 6, none⟩ = some (.int .i64 a1_6) := (bc_ BK392.out 6).trans rfl; have hcz33_7 : w30.cell? ⟨gb392, 7, none⟩ = some (.int .i64 a1_7) := (bc_ BK392.out 7).trans rfl; have hcz33_8 : w30.cell? ⟨gb392, 8, none⟩ = some (.slice A1_8 l1_8.length c1_8) := (bc_ BK392.out 8).trans rfl; have hfz33_0 := bf_ BK392.out 0; have hfz33_1 := bf_ BK392.out 1; have hfz33_2 := bf_ BK392.out 2; have hfz33_3 := bf_ BK392.out 3; have hfz33_4 := bf_ BK392.out 4; have hfz33_5 := bf_ BK392.out 5; have hfz33_6 := bf_ BK392.out 6; have hfz33_7 := bf_ BK392.out 7; have hfz33_8 := bf_ BK392.out 8))
  go_ret
  exact ⟨we_, wb2_ HB.out GE391.out GE392.out⟩
 rw [if_pos c3] at H
 have c3b0 : (a0_0.toList == a1_0.toList) = true := beq_iff_eq.mpr c3
 have c3b1 : (a0_0.toList != a1_0.toList) = false := bne_eq_false_iff_eq.mpr c3
 clear c3
 by_cases c4 : a0_3 = a1_3
 rotate_left
 ·rw [if_neg c4] at H
  have c4b0 : (a0_3 == a1_3) = false := beq_eq_false_iff_ne.mpr c4
  have c4b1 : (a0_3 != a1_3) = true := bne_iff_ne.mpr c4
  obtain rfl := Option.some.inj H
  go_enter Tryd.func35, Tryd.ntmps35
  go_wp2_with (first | ((with_reducible refine gate_dst (N := 2) rfl ?_); refine box_event ?hg (N := 2) ?hd (cs := #[.string a0_0, .string a0_1, .string a0_2, .int .u8 a0_3, .int .i64 a0_4, .int .i64 a0_5, .int .i64 a0_6, .int .i64 a0_7, .slice A0_8 l0_8.length c0_8]) (t := 40) ?hr ?_; (case hd => rfl); (case hg => rfl); (case hr => first | (go_simp; done) | (go_simp; rfl)); intro gb391 hg w24 hbox hb; have n0_ := A0_ (below_step (wb_ HB.out) hb); have n1_ := A0_ (hbox); have n2_ := A0_ ((by rw [hg]; exact (below_size (wb_ HB.out)) : w.heap.size ≤ gb391)); have n3_ := A0_ ((by rw [hg]; exact (below_size (wb_ HB.out)) : w.heap.size ≤ gb391)); clear HB; have HB := n0_; have BK391 := n1_; have GW391 := n2_; have GE391 := n3_; clear n0_ n1_ n2_ n3_; clear hb hbox hg) | ((with_reducible refine gate_dst (N := 3) rfl ?_); refine box_event ?hg (N := 3) ?hd (cs := #[.string a1_0, .string a1_1, .string a1_2, .int .u8 a1_3, .int .i64 a1_4, .int .i64 a1_5, .int .i64 a1_6, .int .i64 a1_7, .slice A1_8 l1_8.length c1_8]) (t := 40) ?hr ?_; (case hd => rfl); (case hg => rfl); (case hr => first | (go_simp; done) | (go_simp; rfl)); intro gb392 hg w25 hbox hb; have n0_ := A0_ (blk_below (g := gb391) (o := .cells #[.string a0_0, .string a0_1, .string a0_2, .int .u8 a0_3, .int .i64 a0_4, .int .i64 a0_5, .int .i64 a0_6, .int .i64 a0_7, .slice A0_8 l0_8.length c0_8] 40 (0, 0)) (wB_ BK391.out) hb); have n1_ := A0_ (below_step (wb1_ HB.out GE391.out) hb); have n2_ := A0_ (hbox); have n3_ := A0_ ((by rw [hg]; exact (below_size (wb1_ HB.out GE391.out)) : w.heap.size ≤ gb392)); have n4_ := A0_ ((by rw [hg]; exact (below_size (wb1_ HB.out GE391.out)) : w.heap.size ≤ gb392)); have n5_ := A0_ ((by rw [hg]; exact Nat.ne_of_lt (blk_lt (g := gb391) (o := .cells #[.string a0_0, .string a0_1, .string a0_2, .int .u8 a0_3, .int .i64 a0_4, .int .i64 a0_5, .int .i64 a0_6, .int .i64 a0_7, .slice A0_8 l0_8.length c0_8] 40 (0, 0)) (wB_ BK391.out)) : gb391 ≠ gb392)); have n6_ := A0_ ((by rw [hg]; exact Nat.ne_of_gt (blk_lt (g := gb391) (o := .cells #[.string a0_0, .string a0_1, .string a0_2, .int .u8 a0_3, .int .i64 a0_4, .int .i64 a0_5, .int .i64 a0_6, .int .i64 a0_7, .slice A0_8 l0_8.length c0_8] 40 (0, 0)) (wB_ BK391.out)) : gb392 ≠ gb391)); clear BK391; clear HB; have BK391 := n0_; have HB := n1_; have BK392 := n2_; have GW392 := n3_; have GE392 := n4_; have NB391_392 := n5_; have NB392_391 := n6_; clear n0_ n1_ n2_ n3_ n4_ n5_ n6_; clear hb hbox hg; have hnb26 := NB391_392.out; have hnc26 := NB392_391.out; have hcz27_0 : w25.cell? ⟨gb391, 0, none⟩ = some (.string a0_0) := (bc_ BK391.out 0).trans rfl; have hcz27_1 : w25.cell? ⟨gb391, 1, none⟩ = some (.string a0_1) := (bc_ BK391.out 1).trans rfl; have hcz27_2 : w25.cell? ⟨gb391, 2, none⟩ = some (.string a0_2) := (bc_ BK391.out 2).trans rfl; have hcz27_3 : w25.cell? ⟨gb391, 3, none⟩ = some (.int .u8 a0_3) := (bc_ BK391.out 3).trans rfl; have hcz27_4 : w25.cell? ⟨gb391, 4, none⟩ = some (.int .i64 a0_4) := (bc_ BK391.out 4).trans rfl; have hcz27_5 : w25.cell? ⟨gb391, 5, none⟩ = some (.int .i64 a0_5) := (bc_ BK391.out 5).trans rfl; have hcz27_6 : w25.cell? ⟨gb391, 6, none⟩ = some (.int .i64 a0_6) := (bc_ BK391.out 6).trans rfl; have hcz27_7 : w25.cell? ⟨gb391, 7, none⟩ = some (.int .i64 a0_7) := (bc_ BK391.out 7).trans rfl; have hcz27_8 : w25.cell? ⟨gb391, 8, none⟩ = some (.slice A0_8 l0_8.length c0_8) := (bc_ BK391.out 8).trans rfl; have hfz27_0 := bf_ BK391.out 0; have hfz27_1 := bf_ BK391.out 1; have hfz27_2 := bf_ BK391.out 2; have hfz27_3 := bf_ BK391.out 3; have hfz27_4 := bf_ BK391.out 4; have hfz27_5 := bf_ BK391.out 5; have hfz27_6 := bf_ BK391.out 6; have hfz27_7 := bf_ BK391.out 7; have hfz27_8 := bf_ BK391.out 8; have hcz28_0 : w25.cell? ⟨gb392, 0, none⟩ = some (.string a1_0) := (bc_ BK392.out 0).trans rfl; have hcz28_1 : w25.cell? ⟨gb392, 1, none⟩ = some (.string a1_1) := (bc_ BK392.out 1).trans rfl; have hcz28_2 : w25.cell? ⟨gb392, 2, none⟩ = some (.string a1_2) := (bc_ BK392.out 2).trans rfl; have hcz28_3 : w25.cell? ⟨gb392, 3, none⟩ = some (.int .u8 a1_3) := (bc_ BK392.out 3).trans rfl; have hcz28_4 : w25.cell? ⟨gb392, 4, none⟩ = some (.int .i64 a1_4) := (bc_ BK392.out 4).trans rfl; have hcz28_5 : w25.cell? ⟨gb392, 5, none⟩ = some (.int .i64 a1_5) := (bc_ BK392.out 5).trans rfl; have hcz28_6 : w25.cell? ⟨gb392, 6, none⟩ = some (.int .i64 a1_6) := (bc_ BK392.out 6).trans rfl; have hcz28_7 : w25.cell? ⟨gb392, 7, none⟩ = some (.int .i64 a1_7) := (bc_ BK392.out 7).trans rfl; have hcz28_8 : w25.cell? ⟨gb392, 8, none⟩ = some (.slice A1_8 l1_8.length c1_8) := (bc_ BK392.out 8).trans rfl; have hfz28_0 := bf_ BK392.out 0; have hfz28_1 := bf_ BK392.out 1; have hfz28_2 := bf_ BK392.out 2; have hfz28_3 := bf_ BK392.out 3; have hfz28_4 := bf_ BK392.out 4; have hfz28_5 := bf_ BK392.out 5; have hfz28_6 := bf_ BK392.out 6; have hfz28_7 := bf_ BK392.out 7; have hfz28_8 := bf_ BK392.out 8))
  go_ret
  exact ⟨we_, wb2_ HB.out GE391.out GE392.out⟩
 rw [if_pos c4] at H
 have c4b0 : (a0_3 == a1_3) = true := beq_iff_eq.mpr c4
 have c4b1 : (a0_3 != a1_3) = false := bne_eq_false_iff_eq.mpr c4
 clear c4
 by_cases c5 : (a0_4 == a1_4 && (a0_5 == a1_5 && (a0_6 == a1_6 && (a0_7 == a1_7)))) = true
 rotate_left
 ·rw [if_neg c5] at H
  have c5b0 : (a0_4 == a1_4 && (a0_5 == a1_5 && (a0_6 == a1_6 && (a0_7 == a1_7)))) = false := by simpa using c5
  (try (have c5b1 : decide (a0_4 = a1_4 && (a0_5 == a1_5 && (a0_6 == a1_6 && (a0_7 == a1_7)))) = false := by simpa using c5))
  (try (have c5b2 : (a0_4 == a1_4 && (a0_5 == a1_5 && (a0_6 == a1_6 && (a0_7 == a1_7)))) = false := by simpa using c5))
  (try (have c5b3 : ¬ (a0_4 = a1_4 && (a0_5 == a1_5 && (a0_6 == a1_6 && (a0_7 == a1_7)))) := by simpa using c5))
  clear c5
  obtain rfl := Option.some.inj H
  go_enter Tryd.func35, Tryd.ntmps35
  go_wp2_with (first | ((with_reducible refine gate_dst (N := 2) rfl ?_); refine box_event ?hg (N := 2) ?hd (cs := #[.string a0_0, .string a0_1, .string a0_2, .int .u8 a0_3, .int .i64 a0_4, .int .i64 a0_5, .int .i64 a0_6, .int .i64 a0_7, .slice A0_8 l0_8.length c0_8]) (t := 40) ?hr ?_; (case hd => rfl); (case hg => rfl); (case hr => first | (go_simp; done) | (go_simp; rfl)); intro gb391 hg w19 hbox hb; have n0_ := A0_ (below_step (wb_ HB.out) hb); have n1_ := A0_ (hbox); have n2_ := A0_ ((by rw [hg]; exact (below_size (wb_ HB.out)) : w.heap.size ≤ gb391)); have n3_ := A0_ ((by rw [hg]; exact (below_size (wb_ HB.out)) : w.heap.size ≤ gb391)); clear HB; have HB := n0_; have BK391 := n1_; have GW391 := n2_; have GE391 := n3_; clear n0_ n1_ n2_ n3_; clear hb hbox hg) | ((with_reducible refine gate_dst (N := 3) rfl ?_); refine box_event ?hg (N := 3) ?hd (cs := #[.string a1_0, .string a1_1, .string a1_2, .int .u8 a1_3, .int .i64 a1_4, .int .i64 a1_5, .int .i64 a1_6, .int .i64 a1_7, .slice A1_8 l1_8.length c1_8]) (t := 40) ?hr ?_; (case hd => rfl); (case hg => rfl); (case hr => first | (go_simp; done) | (go_simp; rfl)); intro gb392 hg w20 hbox hb; have n0_ := A0_ (blk_below (g := gb391) (o := .cells #[.string a0_0, .string a0_1, .string a0_2, .int .u8 a0_3, .int .i64 a0_4, .int .i64 a0_5, .int .i64 a0_6, .int .i64 a0_7, .slice A0_8 l0_8.length c0_8] 40 (0, 0)) (wB_ BK391.out) hb); have n1_ := A0_ (below_step (wb1_ HB.out GE391.out) hb); have n2_ := A0_ (hbox); have n3_ := A0_ ((by rw [hg]; exact (below_size (wb1_ HB.out GE391.out)) : w.heap.size ≤ gb392)); have n4_ := A0_ ((by rw [hg]; exact (below_size (wb1_ HB.out GE391.out)) : w.heap.size ≤ gb392)); have n5_ := A0_ ((by rw [hg]; exact Nat.ne_of_lt (blk_lt (g := gb391) (o := .cells #[.string a0_0, .string a0_1, .string a0_2, .int .u8 a0_3, .int .i64 a0_4, .int .i64 a0_5, .int .i64 a0_6, .int .i64 a0_7, .slice A0_8 l0_8.length c0_8] 40 (0, 0)) (wB_ BK391.out)) : gb391 ≠ gb392)); have n6_ := A0_ ((by rw [hg]; exact Nat.ne_of_gt (blk_lt (g := gb391) (o := .cells #[.string a0_0, .string a0_1, .string a0_2, .int .u8 a0_3, .int .i64 a0_4, .int .i64 a0_5, .int .i64 a0_6, .int .i64 a0_7, .slice A0_8 l0_8.length c0_8] 40 (0, 0)) (wB_ BK391.out)) : gb392 ≠ gb391)); clear BK391; clear HB; have BK391 := n0_; have HB := n1_; have BK392 := n2_; have GW392 := n3_; have GE392 := n4_; have NB391_392 := n5_; have NB392_391 := n6_; clear n0_ n1_ n2_ n3_ n4_ n5_ n6_; clear hb hbox hg; have hnb21 := NB391_392.out; have hnc21 := NB392_391.out; have hcz22_0 : w20.cell? ⟨gb391, 0, none⟩ = some (.string a0_0) := (bc_ BK391.out 0).trans rfl; have hcz22_1 : w20.cell? ⟨gb391, 1, none⟩ = some (.string a0_1) := (bc_ BK391.out 1).trans rfl; have hcz22_2 : w20.cell? ⟨gb391, 2, none⟩ = some (.string a0_2) := (bc_ BK391.out 2).trans rfl; have hcz22_3 : w20.cell? ⟨gb391, 3, none⟩ = some (.int .u8 a0_3) := (bc_ BK391.out 3).trans rfl; have hcz22_4 : w20.cell? ⟨gb391, 4, none⟩ = some (.int .i64 a0_4) := (bc_ BK391.out 4).trans rfl; have hcz22_5 : w20.cell? ⟨gb391, 5, none⟩ = some (.int .i64 a0_5) := (bc_ BK391.out 5).trans rfl; have hcz22_6 : w20.cell? ⟨gb391, 6, none⟩ = some (.int .i64 a0_6) := (bc_ BK391.out 6).trans rfl; have hcz22_7 : w20.cell? ⟨gb391, 7, none⟩ = some (.int .i64 a0_7) := (bc_ BK391.out 7).trans rfl; have hcz22_8 : w20.cell? ⟨gb391, 8, none⟩ = some (.slice A0_8 l0_8.length c0_8) := (bc_ BK391.out 8).trans rfl; have hfz22_0 := bf_ BK391.out 0; have hfz22_1 := bf_ BK391.out 1; have hfz22_2 := bf_ BK391.out 2; have hfz22_3 := bf_ BK391.out 3; have hfz22_4 := bf_ BK391.out 4; have hfz22_5 := bf_ BK391.out 5; have hfz22_6 := bf_ BK391.out 6; have hfz22_7 := bf_ BK391.out 7; have hfz22_8 := bf_ BK391.out 8; have hcz23_0 : w20.cell? ⟨gb392, 0, none⟩ = some (.string a1_0) := (bc_ BK392.out 0).trans rfl; have hcz23_1 : w20.cell? ⟨gb392, 1, none⟩ = some (.string a1_1) := (bc_ BK392.out 1).trans rfl; have hcz23_2 : w20.cell? ⟨gb392, 2, none⟩ = some (.string a1_2) := (bc_ BK392.out 2).trans rfl; have hcz23_3 : w20.cell? ⟨gb392, 3, none⟩ = some (.int .u8 a1_3) := (bc_ BK392.out 3).trans rfl; have hcz23_4 : w20.cell? ⟨gb392, 4, none⟩ = some (.int .i64 a1_4) := (bc_ BK392.out 4).trans rfl; have hcz23_5 : w20.cell? ⟨gb392, 5, none⟩ = some (.int .i64 a1_5) := (bc_ BK392.out 5).trans rfl; have hcz23_6 : w20.cell? ⟨gb392, 6, none⟩ = some (.int .i64 a1_6) := (bc_ BK392.out 6).trans rfl; have hcz23_7 : w20.cell? ⟨gb392, 7, none⟩ = some (.int .i64 a1_7) := (bc_ BK392.out 7).trans rfl; have hcz23_8 : w20.cell? ⟨gb392, 8, none⟩ = some (.slice A1_8 l1_8.length c1_8) := (bc_ BK392.out 8).trans rfl; have hfz23_0 := bf_ BK392.out 0; have hfz23_1 := bf_ BK392.out 1; have hfz23_2 := bf_ BK392.out 2; have hfz23_3 := bf_ BK392.out 3; have hfz23_4 := bf_ BK392.out 4; have hfz23_5 := bf_ BK392.out 5; have hfz23_6 := bf_ BK392.out 6; have hfz23_7 := bf_ BK392.out 7; have hfz23_8 := bf_ BK392.out 8))
  go_ret
  exact ⟨we_, wb2_ HB.out GE391.out GE392.out⟩
 rw [if_pos c5] at H
 have c5b0 : (a0_4 == a1_4 && (a0_5 == a1_5 && (a0_6 == a1_6 && (a0_7 == a1_7)))) = true := c5
 (try (have c5b1 : decide (a0_4 = a1_4 && (a0_5 == a1_5 && (a0_6 == a1_6 && (a0_7 == a1_7)))) = true := by simpa using c5))
 (try (have c5b2 : (a0_4 == a1_4 && (a0_5 == a1_5 && (a0_6 == a1_6 && (a0_7 == a1_7)))) = true := by simpa using c5))
 clear c5
 by_cases c6 : a0_1.toList = a1_1.toList
 rotate_left
 ·rw [if_neg c6] at H
  have c6b0 : (a0_1.toList == a1_1.toList) = false := beq_eq_false_iff_ne.mpr c6
  have c6b1 : (a0_1.toList != a1_1.toList) = true := bne_iff_ne.mpr c6
  obtain rfl := Option.some.inj H
  go_enter Tryd.func35, Tryd.ntmps35
  go_wp2_with (first | ((with_reducible refine gate_dst (N := 2) rfl ?_); refine box_event ?hg (N := 2) ?hd (cs := #[.string a0_0, .string a0_1, .string a0_2, .int .u8 a0_3, .int .i64 a0_4, .int .i64 a0_5, .int .i64 a0_6, .int .i64 a0_7, .slice A0_8 l0_8.length c0_8]) (t := 40) ?hr ?_; (case hd => rfl); (case hg => rfl); (case hr => first | (go_simp; done) | (go_simp; rfl)); intro gb391 hg w14 hbox hb; have n0_ := A0_ (below_step (wb_ HB.out) hb); have n1_ := A0_ (hbox); have n2_ := A0_ ((by rw [hg]; exact (below_size (wb_ HB.out)) : w.heap.size ≤ gb391)); have n3_ := A0_ ((by rw [hg]; exact (below_size (wb_ HB.out)) : w.heap.size ≤ gb391)); clear HB; have HB := n0_; have BK391 := n1_; have GW391 := n2_; have GE391 := n3_; clear n0_ n1_ n2_ n3_; clear hb hbox hg) | ((with_reducible refine gate_dst (N := 3) rfl ?_); refine box_event ?hg (N := 3) ?hd (cs := #[.string a1_0, .string a1_1, .string a1_2, .int .u8 a1_3, .int .i64 a1_4, .int .i64 a1_5, .int .i64 a1_6, .int .i64 a1_7, .slice A1_8 l1_8.length c1_8]) (t := 40) ?hr ?_; (case hd => rfl); (case hg => rfl); (case hr => first | (go_simp; done) | (go_simp; rfl)); intro gb392 hg w15 hbox hb; have n0_ := A0_ (blk_below (g := gb391) (o := .cells #[.string a0_0, .string a0_1, .string a0_2, .int .u8 a0_3, .int .i64 a0_4, .int .i64 a0_5, .int .i64 a0_6, .int .i64 a0_7, .slice A0_8 l0_8.length c0_8] 40 (0, 0)) (wB_ BK391.out) hb); have n1_ := A0_ (below_step (wb1_ HB.out GE391.out) hb); have n2_ := A0_ (hbox); have n3_ := A0_ ((by rw [hg]; exact (below_size (wb1_ HB.out GE391.out)) : w.heap.size ≤ gb392)); have n4_ := A0_ ((by rw [hg]; exact (below_size (wb1_ HB.out GE391.out)) : w.heap.size ≤ gb392)); have n5_ := A0_ ((by rw [hg]; exact Nat.ne_of_lt (blk_lt (g := gb391) (o := .cells #[.string a0_0, .string a0_1, .string a0_2, .int .u8 a0_3, .int .i64 a0_4, .int .i64 a0_5, .int .i64 a0_6, .int .i64 a0_7, .slice A0_8 l0_8.length c0_8] 40 (0, 0)) (wB_ BK391.out)) : gb391 ≠ gb392)); have n6_ := A0_ ((by rw [hg]; exact Nat.ne_of_gt (blk_lt (g := gb391) (o := .cells #[.string a0_0, .string a0_1, .string a0_2, .int .u8 a0_3, .int .i64 a0_4, .int .i64 a0_5, .int .i64 a0_6, .int .i64 a0_7, .slice A0_8 l0_8.length c0_8] 40 (0, 0)) (wB_ BK391.out)) : gb392 ≠ gb391)); clear BK391; clear HB; have BK391 := n0_; have HB := n1_; have BK392 := n2_; have GW392 := n3_; have GE392 := n4_; have NB391_392 := n5_; have NB392_391 := n6_; clear n0_ n1_ n2_ n3_ n4_ n5_ n6_; clear hb hbox hg; have hnb16 := NB391_392.out; have hnc16 := NB392_391.out; have hcz17_0 : w15.cell? ⟨gb391, 0, none⟩ = some (.string a0_0) := (bc_ BK391.out 0).trans rfl; have hcz17_1 : w15.cell? ⟨gb391, 1, none⟩ = some (.string a0_1) := (bc_ BK391.out 1).trans rfl; have hcz17_2 : w15.cell? ⟨gb391, 2, none⟩ = some (.string a0_2) := (bc_ BK391.out 2).trans rfl; have hcz17_3 : w15.cell? ⟨gb391, 3, none⟩ = some (.int .u8 a0_3) := (bc_ BK391.out 3).trans rfl; have hcz17_4 : w15.cell? ⟨gb391, 4, none⟩ = some (.int .i64 a0_4) := (bc_ BK391.out 4).trans rfl; have hcz17_5 : w15.cell? ⟨gb391, 5, none⟩ = some (.int .i64 a0_5) := (bc_ BK391.out 5).trans rfl; have hcz17_6 : w15.cell? ⟨gb391, 6, none⟩ = some (.int .i64 a0_6) := (bc_ BK391.out 6).trans rfl; have hcz17_7 : w15.cell? ⟨gb391, 7, none⟩ = some (.int .i64 a0_7) := (bc_ BK391.out 7).trans rfl; have hcz17_8 : w15.cell? ⟨gb391, 8, none⟩ = some (.slice A0_8 l0_8.length c0_8) := (bc_ BK391.out 8).trans rfl; have hfz17_0 := bf_ BK391.out 0; have hfz17_1 := bf_ BK391.out 1; have hfz17_2 := bf_ BK391.out 2; have hfz17_3 := bf_ BK391.out 3; have hfz17_4 := bf_ BK391.out 4; have hfz17_5 := bf_ BK391.out 5; have hfz17_6 := bf_ BK391.out 6; have hfz17_7 := bf_ BK391.out 7; have hfz17_8 := bf_ BK391.out 8; have hcz18_0 : w15.cell? ⟨gb392, 0, none⟩ = some (.string a1_0) := (bc_ BK392.out 0).trans rfl; have hcz18_1 : w15.cell? ⟨gb392, 1, none⟩ = some (.string a1_1) := (bc_ BK392.out 1).trans rfl; have hcz18_2 : w15.cell? ⟨gb392, 2, none⟩ = some (.string a1_2) := (bc_ BK392.out 2).trans rfl; have hcz18_3 : w15.cell? ⟨gb392, 3, none⟩ = some (.int .u8 a1_3) := (bc_ BK392.out 3).trans rfl; have hcz18_4 : w15.cell? ⟨gb392, 4, none⟩ = some (.int .i64 a1_4) := (bc_ BK392.out 4).trans rfl; have hcz18_5 : w15.cell? ⟨gb392, 5, none⟩ = some (.int .i64 a1_5) := (bc_ BK392.out 5).trans rfl; have hcz18_6 : w15.cell? ⟨gb392, 6, none⟩ = some (.int .i64 a1_6) := (bc_ BK392.out 6).trans rfl; have hcz18_7 : w15.cell? ⟨gb392, 7, none⟩ = some (.int .i64 a1_7) := (bc_ BK392.out 7).trans rfl; have hcz18_8 : w15.cell? ⟨gb392, 8, none⟩ = some (.slice A1_8 l1_8.length c1_8) := (bc_ BK392.out 8).trans rfl; have hfz18_0 := bf_ BK392.out 0; have hfz18_1 := bf_ BK392.out 1; have hfz18_2 := bf_ BK392.out 2; have hfz18_3 := bf_ BK392.out 3; have hfz18_4 := bf_ BK392.out 4; have hfz18_5 := bf_ BK392.out 5; have hfz18_6 := bf_ BK392.out 6; have hfz18_7 := bf_ BK392.out 7; have hfz18_8 := bf_ BK392.out 8))
  go_ret
  exact ⟨we_, wb2_ HB.out GE391.out GE392.out⟩
 rw [if_pos c6] at H
 have c6b0 : (a0_1.toList == a1_1.toList) = true := beq_iff_eq.mpr c6
 have c6b1 : (a0_1.toList != a1_1.toList) = false := bne_eq_false_iff_eq.mpr c6
 clear c6
 obtain rfl := Option.some.inj H
 go_enter Tryd.func35, Tryd.ntmps35
 go_wp2_with (first | ((with_reducible refine gate_dst (N := 2) rfl ?_); refine box_event ?hg (N := 2) ?hd (cs := #[.string a0_0, .string a0_1, .string a0_2, .int .u8 a0_3, .int .i64 a0_4, .int .i64 a0_5, .int .i64 a0_6, .int .i64 a0_7, .slice A0_8 l0_8.length c0_8]) (t := 40) ?hr ?_; (case hd => rfl); (case hg => rfl); (case hr => first | (go_simp; done) | (go_simp; rfl)); intro gb391 hg w7 hbox hb; have n0_ := A0_ (below_step (wb_ HB.out) hb); have n1_ := A0_ (hbox); have n2_ := A0_ ((by rw [hg]; exact (below_size (wb_ HB.out)) : w.heap.size ≤ gb391)); have n3_ := A0_ ((by rw [hg]; exact (below_size (wb_ HB.out)) : w.heap.size ≤ gb391)); clear HB; have HB := n0_; have BK391 := n1_; have GW391 := n2_; have GE391 := n3_; clear n0_ n1_ n2_ n3_; clear hb hbox hg) | ((with_reducible refine gate_dst (N := 3) rfl ?_); refine box_event ?hg (N := 3) ?hd (cs := #[.string a1_0, .string a1_1, .string a1_2, .int .u8 a1_3, .int .i64 a1_4, .int .i64 a1_5, .int .i64 a1_6, .int .i64 a1_7, .slice A1_8 l1_8.length c1_8]) (t := 40) ?hr ?_; (case hd => rfl); (case hg => rfl); (case hr => first | (go_simp; done) | (go_simp; rfl)); intro gb392 hg w8 hbox hb; have n0_ := A0_ (blk_below (g := gb391) (o := .cells #[.string a0_0, .string a0_1, .string a0_2, .int .u8 a0_3, .int .i64 a0_4, .int .i64 a0_5, .int .i64 a0_6, .int .i64 a0_7, .slice A0_8 l0_8.length c0_8] 40 (0, 0)) (wB_ BK391.out) hb); have n1_ := A0_ (below_step (wb1_ HB.out GE391.out) hb); have n2_ := A0_ (hbox); have n3_ := A0_ ((by rw [hg]; exact (below_size (wb1_ HB.out GE391.out)) : w.heap.size ≤ gb392)); have n4_ := A0_ ((by rw [hg]; exact (below_size (wb1_ HB.out GE391.out)) : w.heap.size ≤ gb392)); have n5_ := A0_ ((by rw [hg]; exact Nat.ne_of_lt (blk_lt (g := gb391) (o := .cells #[.string a0_0, .string a0_1, .string a0_2, .int .u8 a0_3, .int .i64 a0_4, .int .i64 a0_5, .int .i64 a0_6, .int .i64 a0_7, .slice A0_8 l0_8.length c0_8] 40 (0, 0)) (wB_ BK391.out)) : gb391 ≠ gb392)); have n6_ := A0_ ((by rw [hg]; exact Nat.ne_of_gt (blk_lt (g := gb391) (o := .cells #[.string a0_0, .string a0_1, .string a0_2, .int .u8 a0_3, .int .i64 a0_4, .int .i64 a0_5, .int .i64 a0_6, .int .i64 a0_7, .slice A0_8 l0_8.length c0_8] 40 (0, 0)) (wB_ BK391.out)) : gb392 ≠ gb391)); clear BK391; clear HB; have BK391 := n0_; have HB := n1_; have BK392 := n2_; have GW392 := n3_; have GE392 := n4_; have NB391_392 := n5_; have NB392_391 := n6_; clear n0_ n1_ n2_ n3_ n4_ n5_ n6_; clear hb hbox hg; have hnb9 := NB391_392.out; have hnc9 := NB392_391.out; have hcz10_0 : w8.cell? ⟨gb391, 0, none⟩ = some (.string a0_0) := (bc_ BK391.out 0).trans rfl; have hcz10_1 : w8.cell? ⟨gb391, 1, none⟩ = some (.string a0_1) := (bc_ BK391.out 1).trans rfl; have hcz10_2 : w8.cell? ⟨gb391, 2, none⟩ = some (.string a0_2) := (bc_ BK391.out 2).trans rfl; have hcz10_3 : w8.cell? ⟨gb391, 3, none⟩ = some (.int .u8 a0_3) := (bc_ BK391.out 3).trans rfl; have hcz10_4 : w8.cell? ⟨gb391, 4, none⟩ = some (.int .i64 a0_4) := (bc_ BK391.out 4).trans rfl; have hcz10_5 : w8.cell? ⟨gb391, 5, none⟩ = some (.int .i64 a0_5) := (bc_ BK391.out 5).trans rfl; have hcz10_6 : w8.cell? ⟨gb391, 6, none⟩ = some (.int .i64 a0_6) := (bc_ BK391.out 6).trans rfl; have hcz10_7 : w8.cell? ⟨gb391, 7, none⟩ = some (.int .i64 a0_7) := (bc_ BK391.out 7).trans rfl; have hcz10_8 : w8.cell? ⟨gb391, 8, none⟩ = some (.slice A0_8 l0_8.length c0_8) := (bc_ BK391.out 8).trans rfl; have hfz10_0 := bf_ BK391.out 0; have hfz10_1 := bf_ BK391.out 1; have hfz10_2 := bf_ BK391.out 2; have hfz10_3 := bf_ BK391.out 3; have hfz10_4 := bf_ BK391.out 4; have hfz10_5 := bf_ BK391.out 5; have hfz10_6 := bf_ BK391.out 6; have hfz10_7 := bf_ BK391.out 7; have hfz10_8 := bf_ BK391.out 8; have hcz11_0 : w8.cell? ⟨gb392, 0, none⟩ = some (.string a1_0) := (bc_ BK392.out 0).trans rfl; have hcz11_1 : w8.cell? ⟨gb392, 1, none⟩ = some (.string a1_1) := (bc_ BK392.out 1).trans rfl; have hcz11_2 : w8.cell? ⟨gb392, 2, none⟩ = some (.string a1_2) := (bc_ BK392.out 2).trans rfl; have hcz11_3 : w8.cell? ⟨gb392, 3, none⟩ = some (.int .u8 a1_3) := (bc_ BK392.out 3).trans rfl; have hcz11_4 : w8.cell? ⟨gb392, 4, none⟩ = some (.int .i64 a1_4) := (bc_ BK392.out 4).trans rfl; have hcz11_5 : w8.cell? ⟨gb392, 5, none⟩ = some (.int .i64 a1_5) := (bc_ BK392.out 5).trans rfl; have hcz11_6 : w8.cell? ⟨gb392, 6, none⟩ = some (.int .i64 a1_6) := (bc_ BK392.out 6).trans rfl; have hcz11_7 : w8.cell? ⟨gb392, 7, none⟩ = some (.int .i64 a1_7) := (bc_ BK392.out 7).trans rfl; have hcz11_8 : w8.cell? ⟨gb392, 8, none⟩ = some (.slice A1_8 l1_8.length c1_8) := (bc_ BK392.out 8).trans rfl; have hfz11_0 := bf_ BK392.out 0; have hfz11_1 := bf_ BK392.out 1; have hfz11_2 := bf_ BK392.out 2; have hfz11_3 := bf_ BK392.out 3; have hfz11_4 := bf_ BK392.out 4; have hfz11_5 := bf_ BK392.out 5; have hfz11_6 := bf_ BK392.out 6; have hfz11_7 := bf_ BK392.out 7; have hfz11_8 := bf_ BK392.out 8; have hcv12 := Kd.C_string (P := Tryd.prog) (A := A0_8) (c := c0_8) Tryd.underlying23 Tryd.underlying5 Tryd.underlying9 (Kd.C_below HR0_8.out HB.out); have hcv13 := Kd.C_string (P := Tryd.prog) (A := A1_8) (c := c1_8) Tryd.underlying23 Tryd.underlying5 Tryd.underlying9 (Kd.C_below HR1_8.out HB.out)))
 go_ret
 exact ⟨we_, wb2_ HB.out GE391.out GE392.out⟩
end Go.Proofs.YtfljbidecljlcaaDoor.Print

namespace Go.Proofs.YtfljbidecljlcaaDoor.Print
open Go.RowKit Go.Proofs.YtfljbidecljlcaaDoorW.PrintWords Go.Proofs.YtfljbidecljlcaaDoorW.PrintLast Go.Proofs.YtfljbidecljlcaaDoorW.PrintMore
attribute [local go_sem] max2_int min2_int max_two min_two max_three min_three max_four min_four   -- for this text's walks alone
set_option linter.unusedVariables false
set_option linter.unusedSimpArgs false
abbrev q30_0 : Array Bool := #[false, false, false, false, false, false, false, false, false, false, false, false, false, false, false, false, false, false, false, false, false, false, false]
abbrev q30_1 : Array Bool := #[true, false, false, false, false, false, false, false, false, false, false, false, false, false, false, false, false, false, false, false, false, false, false]
abbrev q30_2 : Array Bool := #[true, true, false, false, false, false, false, false, false, false, false, false, false, false, false, false, false, false, false, false, false, false, false]
abbrev q30_3 : Array Bool := #[true, true, true, false, false, false, false, false, false, false, false, false, false, false, false, false, false, false, false, false, false, false, false]
abbrev q30_4 : Array Bool := #[true, true, true, true, false, false, false, false, false, false, false, false, false, false, false, false, false, false, false, false, false, false, false]
abbrev q30_5 : Array Bool := #[true, true, true, true, false, true, false, false, false, false, false, false, false, false, false, false, false, false, false, false, false, false, false]
abbrev q30_6 : Array Bool := #[true, true, true, true, false, true, true, false, false, false, false, false, false, false, false, false, false, false, false, false, false, false, false]
abbrev q30_7 : Array Bool := #[true, true, true, true, false, true, true, true, false, false, false, false, false, false, false, false, false, false, false, false, false, false, false]
abbrev q30_8 : Array Bool := #[true, true, true, true, false, true, true, true, true, false, false, false, false, false, false, false, false, false, false, false, false, false, false]
abbrev q30_9 : Array Bool := #[true, true, true, true, true, true, true, true, true, false, false, false, false, false, false, false, false, false, false, false, false, false, false]
abbrev q30_10 : Array Bool := #[true, true, true, true, true, true, true, true, true, true, false, false, false, false, false, false, false, false, false, false, false, false, false]
abbrev q30_11 : Array Bool := #[true, true, true, true, true, true, true, true, true, true, true, false, false, false, false, false, false, false, false, false, false, false, false]
abbrev q30_12 : Array Bool := #[true, true, true, true, true, true, true, true, true, true, true, true, false, false, false, false, false, false, false, false, false, false, false]
abbrev q30_13 : Array Bool := #[true, true, true, true, true, true, true, true, true, true, true, true, true, false, false, false, false, false, false, false, false, false, false]
abbrev q30_14 : Array Bool := #[true, true, true, true, true, true, true, true, true, true, true, true, true, true, false, false, false, false, false, false, false, false, false]
abbrev q30_15 : Array Bool := #[true, true, true, true, true, true, true, true, true, true, true, true, true, true, true, false, false, false, false, false, false, false, false]
abbrev q30_16 : Array Bool := #[true, true, true, true, true, true, true, true, true, true, true, true, true, true, true, true, false, false, false, false, false, false, false]
abbrev q30_17 : Array Bool := #[true, true, true, true, true, true, true, true, true, true, true, true, true, true, true, true, true, false, false, false, false, false, false]
abbrev q30_18 : Array Bool := #[true, true, true, true, true, true, true, true, true, true, true, true, true, true, true, true, true, true, false, false, false, false, false]
abbrev q30_19 : Array Bool := #[true, true, true, true, true, true, true, true, true, true, true, true, true, true, true, true, true, true, true, false, false, false, false]
abbrev q30_20 : Array Bool := #[true, true, true, true, true, true, true, true, true, true, true, true, true, true, true, true, true, true, true, true, false, false, false]
abbrev q30_21 : Array Bool := #[true, true, true, true, true, true, true, true, true, true, true, true, true, true, true, true, true, true, true, true, true, false, false]
abbrev q30_22 : Array Bool := #[true, true, true, true, true, true, true, true, true, true, true, true, true, true, true, true, true, true, true, true, true, true, false]
abbrev q30_23 : Array Bool := #[true, true, true, true, true, true, true, true, true, true, true, true, true, true, true, true, true, true, true, true, true, true, true]
abbrev q30_24 : Array Bool := #[true, true, true, true, true, true, true, true, true, true, true, true, true, true, true, false, true, false, false, false, false, false, false]
abbrev q30_25 : Array Bool := #[true, true, true, true, true, true, true, true, true, true, true, true, true, true, true, false, true, true, false, false, false, false, false]
abbrev q30_26 : Array Bool := #[true, true, true, true, true, true, true, true, true, true, true, true, true, true, true, false, true, true, true, false, false, false, false]
def bindleref08_SameTree.l0 : Nat → List (S40) → List (S40) → Int → Option (Bool)
 | 0, _, _, _ => none
 | k + 1, x0, x1, x5 => if x5 < (x0.length : Int) then (if 0 ≤ x5 then (if x5 < (x1.length : Int) then (if ((rd_T40 x0 x5).f2).toList = ((rd_T40 x1 x5).f2).toList then ((bindleref08_Equal.f ((rd_T40 x0 x5).f0) ((rd_T40 x0 x5).f1) ((rd_T40 x0 x5).f2) ((rd_T40 x0 x5).f3) ((rd_T40 x0 x5).f4.f0) ((rd_T40 x0 x5).f4.f1) ((rd_T40 x0 x5).f4.f2) ((rd_T40 x0 x5).f4.f3) ((rd_T40 x0 x5).f5) ((rd_T40 x1 x5).f0) ((rd_T40 x1 x5).f1) ((rd_T40 x1 x5).f2) ((rd_T40 x1 x5).f3) ((rd_T40 x1 x5).f4.f0) ((rd_T40 x1 x5).f4.f1) ((rd_T40 x1 x5).f4.f2) ((rd_T40 x1 x5).f4.f3) ((rd_T40 x1 x5).f5)).bind fun t397 => (if t397 = true then (bindleref08_SameTree.l0 k x0 x1 (wrap64 (x5 + 1))) else (some false))) else (some false)) else (none)) else (none)) else (some true)
def bindleref08_SameTree.f (k : Nat) (l0 : List (S40)) (l1 : List (S40)) : Option (Bool) := if (l0.length : Int) = (l1.length : Int) then (bindleref08_SameTree.l0 k l0 l1 0) else (some false)
def bindleref08_SameTree.T6 : Bool × List (List Nat × List Nat) := (true, [([], []), ([], []), ([0, 1], [0, 1]), ([2], [2]), ([3], [3]), ([], []), ([], []), ([5, 6], [5, 6]), ([7], [7]), ([8], [8]), ([4, 9], [4, 9]), ([10], [10]), ([11], [11]), ([11], [11]), ([12, 13, 11], [11, 12, 13]), ([14, 11], [11, 14]), ([11], [11]), ([11], [11]), ([16, 17, 11], [11, 16, 17]), ([18, 11], [11, 18]), ([15, 19, 11, 11], [11, 15, 19]), ([20, 11], [11, 20]), ([11, 21], [11, 21])])
def bindleref08_SameTree.B6 : List Nat := [0, 0, 3, 7, 15, 0, 0, 96, 224, 480, 1023, 2047, 4095, 4095, 16383, 32767, 4095, 4095, 200703, 462847, 1048575, 2097151, 4194303]
theorem bindleref08_SameTree.tab6 : rtab .any (opsOf Tryd.f30 6) = bindleref08_SameTree.T6 := by kernel_rfl
theorem bindleref08_SameTree.bits6 : waitsOk bindleref08_SameTree.T6.2 bindleref08_SameTree.B6 = true := by kernel_rfl
set_option maxHeartbeats 8000000 in
set_option maxRecDepth 100000 in
theorem bindleref08_SameTree.calls (k : Nat) (A0 : Option Addr) (c0 : Nat) (l0 : List (S40)) (A1 : Option Addr) (c1 : Nat) (l1 : List (S40)) (r : Bool) (w : World) (hr0 : Kd.C k40 w A0 l0.length l0) (hc0 : l0.length ≤ c0) (hr1 : Kd.C k40 w A1 l1.length l1) (hc1 : l1.length ≤ c1) (h : bindleref08_SameTree.f k l0 l1 = some r) :
  Calls Tryd.prog 30 #[.slice A0 l0.length c0, .slice A1 l1.length c1] w fun e w' => e = .returned (.bool r) ∧ Below w.heap.size w w' := by
 have hu40 := Tryd.underlying40
 have HR0 := A0_ hr0
 have HC0 := A0_ hc0
 clear hr0 hc0
 have HR1 := A0_ hr1
 have HC1 := A0_ hc1
 clear hr1 hc1
 have HB := A0_ (Below.refl w.heap.size w)
 have H : (if (l0.length : Int) = (l1.length : Int) then (bindleref08_SameTree.l0 k l0 l1 0) else (some false)) = some r := h
 clear h
 by_cases c3 : (l0.length : Int) = (l1.length : Int)
 rotate_left
 ·rw [if_neg c3] at H
  have c3b0 : ((l0.length : Int) == (l1.length : Int)) = false := beq_eq_false_iff_ne.mpr c3
  have c3b1 : ((l0.length : Int) != (l1.length : Int)) = true := bne_iff_ne.mpr c3
  have c3b2 : (l0.length == l1.length) = false := by first | simpa using c3 | (simp at c3 ⊢; omega)
  obtain rfl := Option.some.inj H
  go_enter Tryd.func30, Tryd.ntmps30
  go_wp2
  go_ret
  exact ⟨we_, wb_ HB.out⟩
 rw [if_pos c3] at H
 have c3b0 : ((l0.length : Int) == (l1.length : Int)) = true := beq_iff_eq.mpr c3
 have c3b1 : ((l0.length : Int) != (l1.length : Int)) = false := bne_eq_false_iff_eq.mpr c3
 have c3b2 : (l0.length == l1.length) = true := by first | simpa using c3 | (simp at c3 ⊢; omega)
 clear c3
 have H' := A0_ H
 clear H
 go_enter Tryd.func30, Tryd.ntmps30
 go_wp2
 go_loopg [5] k (fun kq v5 w' => ∃ (x5_1 : Int), v5 = .int .i64 x5_1 ∧ Aside0 (bindleref08_SameTree.l0 kq l0 l1 x5_1 = some r) ∧ Aside0 (kq ≤ k) ∧ Aside0 (Below w.heap.size w w'))
 case atStart => exact ⟨(0), wr_, H', ⟨Nat.le_refl _⟩, ⟨wb_ HB.out⟩⟩
 case round =>
  clear H'
  try clear c1
  try clear p2
  try clear c3
  try clear c3b0
  try clear c3b1
  try clear c3b2
  obtain ⟨x5_1, rfl, HA, HK1, HB⟩ := hrel
  cases gk with
  | zero => exact absurd HA.out (by simp [bindleref08_SameTree.l0])
  | succ k1 =>
   have H := HA.out
   clear HA
   simp only [bindleref08_SameTree.l0] at H
   by_cases c4 : x5_1 < (l0.length : Int)
   rotate_left
   ·rw [if_neg c4] at H
    have c4b0 : decide (x5_1 < (l0.length : Int)) = false := decide_eq_false c4
    clear c4
    obtain rfl := Option.some.inj H
    go_wp2
    go_ret
    exact ⟨we_, wb_ HB.out⟩
   rw [if_pos c4] at H
   have c4b0 : decide (x5_1 < (l0.length : Int)) = true := decide_eq_true c4
   clear c4
   by_cases c5 : 0 ≤ x5_1
   rotate_left
   ·rw [if_neg c5] at H
    exact absurd H (by simp)
   rw [if_pos c5] at H
   have c5b0 : decide (0 ≤ x5_1) = true := decide_eq_true c5
   clear c5
   by_cases c6 : x5_1 < (l1.length : Int)
   rotate_left
   ·rw [if_neg c6] at H
    exact absurd H (by simp)
   rw [if_pos c6] at H
   have c6b0 : decide (x5_1 < (l1.length : Int)) = true := decide_eq_true c6
   clear c6
   by_cases c7 : ((rd_T40 l0 x5_1).f2).toList = ((rd_T40 l1 x5_1).f2).toList
   rotate_left
   ·rw [if_neg c7] at H
    have c7b0 : (((rd_T40 l0 x5_1).f2).toList == ((rd_T40 l1 x5_1).f2).toList) = false := beq_eq_false_iff_ne.mpr c7
    have c7b1 : (((rd_T40 l0 x5_1).f2).toList != ((rd_T40 l1 x5_1).f2).toList) = true := bne_iff_ne.mpr c7
    obtain rfl := Option.some.inj H
    try go_wp2
    have n0_ := A0_ (b1_ HB.out)
    clear HB
    have HB := n0_
    clear n0_
    have p393 : 0 ≤ (x5_1 : Int) := wd_
    have q393 : x5_1 < (l0.length : Int) := wd_
    obtain ⟨ad393, A393_8, c393_8, e393, hx393_0, hx393_1, hx393_2, hx393_3, hx393_4, hx393_5, hx393_6, hx393_7, hx393_8, hl393_8, hi393_8⟩ := at_T40 HR0.out x5_1 p393 q393
    have hw393_8 := hx393_8
    have hw393_7 := hx393_7
    have hw393_6 := hx393_6
    have hw393_5 := hx393_5
    have hw393_4 := hx393_4
    have hw393_3 := hx393_3
    have hw393_2 := hx393_2
    have hw393_1 := hx393_1
    have hw393_0 := hx393_0
    cases e393
    replace hx393_0 := (HB.out.cell (World.block_lt_of_cell? w _ hx393_0)).trans hx393_0
    replace hx393_1 := (HB.out.cell (World.block_lt_of_cell? w _ hx393_1)).trans hx393_1
    replace hx393_2 := (HB.out.cell (World.block_lt_of_cell? w _ hx393_2)).trans hx393_2
    replace hx393_3 := (HB.out.cell (World.block_lt_of_cell? w _ hx393_3)).trans hx393_3
    replace hx393_4 := (HB.out.cell (World.block_lt_of_cell? w _ hx393_4)).trans hx393_4
    replace hx393_5 := (HB.out.cell (World.block_lt_of_cell? w _ hx393_5)).trans hx393_5
    replace hx393_6 := (HB.out.cell (World.block_lt_of_cell? w _ hx393_6)).trans hx393_6
    replace hx393_7 := (HB.out.cell (World.block_lt_of_cell? w _ hx393_7)).trans hx393_7
    replace hx393_8 := (HB.out.cell (World.block_lt_of_cell? w _ hx393_8)).trans hx393_8
    have HR393_8 := A0_ hi393_8
    have HC393_8 := A0_ hl393_8
    clear hi393_8 hl393_8
    replace p393 := eq_true p393
    replace q393 := eq_true q393
    have p394 : 0 ≤ (x5_1 : Int) := wd_
    have q394 : x5_1 < (l1.length : Int) := wd_
    obtain ⟨ad394, A394_8, c394_8, e394, hx394_0, hx394_1, hx394_2, hx394_3, hx394_4, hx394_5, hx394_6, hx394_7, hx394_8, hl394_8, hi394_8⟩ := at_T40 HR1.out x5_1 p394 q394
    have hw394_8 := hx394_8
    have hw394_7 := hx394_7
    have hw394_6 := hx394_6
    have hw394_5 := hx394_5
    have hw394_4 := hx394_4
    have hw394_3 := hx394_3
    have hw394_2 := hx394_2
    have hw394_1 := hx394_1
    have hw394_0 := hx394_0
    cases e394
    replace hx394_0 := (HB.out.cell (World.block_lt_of_cell? w _ hx394_0)).trans hx394_0
    replace hx394_1 := (HB.out.cell (World.block_lt_of_cell? w _ hx394_1)).trans hx394_1
    replace hx394_2 := (HB.out.cell (World.block_lt_of_cell? w _ hx394_2)).trans hx394_2
    replace hx394_3 := (HB.out.cell (World.block_lt_of_cell? w _ hx394_3)).trans hx394_3
    replace hx394_4 := (HB.out.cell (World.block_lt_of_cell? w _ hx394_4)).trans hx394_4
    replace hx394_5 := (HB.out.cell (World.block_lt_of_cell? w _ hx394_5)).trans hx394_5
    replace hx394_6 := (HB.out.cell (World.block_lt_of_cell? w _ hx394_6)).trans hx394_6
    replace hx394_7 := (HB.out.cell (World.block_lt_of_cell? w _ hx394_7)).trans hx394_7
    replace hx394_8 := (HB.out.cell (World.block_lt_of_cell? w _ hx394_8)).trans hx394_8
    have HR394_8 := A0_ hi394_8
    have HC394_8 := A0_ hl394_8
    clear hi394_8 hl394_8
    replace p394 := eq_true p394
    replace q394 := eq_true q394
    refine start_ (n := 23) (S := fun w' => w'.cell? (ad393.add ((x5_1).toNat * 9)) = some (.string ((rd_T40 l0 x5_1).f0)) ∧ w'.cell? ⟨(ad393.add ((x5_1).toNat * 9)).block, (ad393.add ((x5_1).toNat * 9)).off + 1, none⟩ = some (.string ((rd_T40 l0 x5_1).f1)) ∧ w'.cell? ⟨(ad393.add ((x5_1).toNat * 9)).block, (ad393.add ((x5_1).toNat * 9)).off + 2, none⟩ = some (.string ((rd_T40 l0 x5_1).f2)) ∧ w'.cell? ⟨(ad393.add ((x5_1).toNat * 9)).block, (ad393.add ((x5_1).toNat * 9)).off + 3, none⟩ = some (.int .u8 ((rd_T40 l0 x5_1).f3)) ∧ w'.cell? ⟨(ad393.add ((x5_1).toNat * 9)).block, (ad393.add ((x5_1).toNat * 9)).off + 4, none⟩ = some (.int .i64 ((rd_T40 l0 x5_1).f4.f0)) ∧ w'.cell? ⟨(ad393.add ((x5_1).toNat * 9)).block, (ad393.add ((x5_1).toNat * 9)).off + 5, none⟩ = some (.int .i64 ((rd_T40 l0 x5_1).f4.f1)) ∧ w'.cell? ⟨(ad393.add ((x5_1).toNat * 9)).block, (ad393.add ((x5_1).toNat * 9)).off + 6, none⟩ = some (.int .i64 ((rd_T40 l0 x5_1).f4.f2)) ∧ w'.cell? ⟨(ad393.add ((x5_1).toNat * 9)).block, (ad393.add ((x5_1).toNat * 9)).off + 7, none⟩ = some (.int .i64 ((rd_T40 l0 x5_1).f4.f3)) ∧ w'.cell? ⟨(ad393.add ((x5_1).toNat * 9)).block, (ad393.add ((x5_1).toNat * 9)).off + 8, none⟩ = some (.slice A393_8 ((rd_T40 l0 x5_1).f5).length c393_8) ∧ w'.cell? (ad394.add ((x5_1).toNat * 9)) = some (.string ((rd_T40 l1 x5_1).f0)) ∧ w'.cell? ⟨(ad394.add ((x5_1).toNat * 9)).block, (ad394.add ((x5_1).toNat * 9)).off + 1, none⟩ = some (.string ((rd_T40 l1 x5_1).f1)) ∧ w'.cell? ⟨(ad394.add ((x5_1).toNat * 9)).block, (ad394.add ((x5_1).toNat * 9)).off + 2, none⟩ = some (.string ((rd_T40 l1 x5_1).f2)) ∧ w'.cell? ⟨(ad394.add ((x5_1).toNat * 9)).block, (ad394.add ((x5_1).toNat * 9)).off + 3, none⟩ = some (.int .u8 ((rd_T40 l1 x5_1).f3)) ∧ w'.cell? ⟨(ad394.add ((x5_1).toNat * 9)).block, (ad394.add ((x5_1).toNat * 9)).off + 4, none⟩ = some (.int .i64 ((rd_T40 l1 x5_1).f4.f0)) ∧ w'.cell? ⟨(ad394.add ((x5_1).toNat * 9)).block, (ad394.add ((x5_1).toNat * 9)).off + 5, none⟩ = some (.int .i64 ((rd_T40 l1 x5_1).f4.f1)) ∧ w'.cell? ⟨(ad394.add ((x5_1).toNat * 9)).block, (ad394.add ((x5_1).toNat * 9)).off + 6, none⟩ = some (.int .i64 ((rd_T40 l1 x5_1).f4.f2)) ∧ w'.cell? ⟨(ad394.add ((x5_1).toNat * 9)).block, (ad394.add ((x5_1).toNat * 9)).off + 7, none⟩ = some (.int .i64 ((rd_T40 l1 x5_1).f4.f3)) ∧ w'.cell? ⟨(ad394.add ((x5_1).toNat * 9)).block, (ad394.add ((x5_1).toNat * 9)).off + 8, none⟩ = some (.slice A394_8 ((rd_T40 l1 x5_1).f5).length c394_8)) (ds := []) q30_0 (by kernel_rfl) rfl rfl ⟨((HB.out.cell (World.block_lt_of_cell? w _ hw393_0)).trans hw393_0), ((HB.out.cell (World.block_lt_of_cell? w _ hw393_1)).trans hw393_1), ((HB.out.cell (World.block_lt_of_cell? w _ hw393_2)).trans hw393_2), ((HB.out.cell (World.block_lt_of_cell? w _ hw393_3)).trans hw393_3), ((HB.out.cell (World.block_lt_of_cell? w _ hw393_4)).trans hw393_4), ((HB.out.cell (World.block_lt_of_cell? w _ hw393_5)).trans hw393_5), ((HB.out.cell (World.block_lt_of_cell? w _ hw393_6)).trans hw393_6), ((HB.out.cell (World.block_lt_of_cell? w _ hw393_7)).trans hw393_7), ((HB.out.cell (World.block_lt_of_cell? w _ hw393_8)).trans hw393_8), ((HB.out.cell (World.block_lt_of_cell? w _ hw394_0)).trans hw394_0), ((HB.out.cell (World.block_lt_of_cell? w _ hw394_1)).trans hw394_1), ((HB.out.cell (World.block_lt_of_cell? w _ hw394_2)).trans hw394_2), ((HB.out.cell (World.block_lt_of_cell? w _ hw394_3)).trans hw394_3), ((HB.out.cell (World.block_lt_of_cell? w _ hw394_4)).trans hw394_4), ((HB.out.cell (World.block_lt_of_cell? w _ hw394_5)).trans hw394_5), ((HB.out.cell (World.block_lt_of_cell? w _ hw394_6)).trans hw394_6), ((HB.out.cell (World.block_lt_of_cell? w _ hw394_7)).trans hw394_7), ((HB.out.cell (World.block_lt_of_cell? w _ hw394_8)).trans hw394_8)⟩ (fun hHeld => ?_); refine with_tabW bindleref08_SameTree.tab6 bindleref08_SameTree.bits6 (fun HT_ HW_ => ?_)
    generalize wr.drew = w14 at HB HR393_8 HR394_8 hx393_0 hx393_1 hx393_2 hx393_3 hx393_4 hx393_5 hx393_6 hx393_7 hx393_8 hx394_0 hx394_1 hx394_2 hx394_3 hx394_4 hx394_5 hx394_6 hx394_7 hx394_8 hHeld ⊢
    refine pur_ (i := 0) (N := some 17) q30_1 (any_of HT_.out (by kernel_rfl)) ?_
    refine pur_ (i := 1) (N := some 18) q30_2 (any_of HT_.out (by kernel_rfl)) ?_
    refine pur_ (i := 2) (N := some 19) q30_3 (any_of HT_.out (by kernel_rfl)) ?_
    refine pur_ (i := 3) (N := some 20) q30_4 (any_of HT_.out (by kernel_rfl)) ?_
    refine pur_ (i := 5) (N := some 22) q30_5 (any_of HT_.out (by kernel_rfl)) ?_
    refine pur_ (i := 6) (N := some 23) q30_6 (any_of HT_.out (by kernel_rfl)) ?_
    refine pur_ (i := 7) (N := some 24) q30_7 (any_of HT_.out (by kernel_rfl)) ?_
    refine pur_ (i := 8) (N := some 25) q30_8 (any_of HT_.out (by kernel_rfl)) ?_
    refine take_ (i := 4) (N := some 21) (v := ?_) (a' := ?_) q30_9 rfl rfl (take_ofW HT_.out HW_.out (by kernel_rfl)) (fun _ _ _ h => h) (Or.inl ⟨by rfl, ?_⟩) hHeld ?_ ?_
    rotate_left
    ·rintro w' ⟨s0, s1, s2, s3, s4, s5, s6, s7, s8, s9, s10, s11, s12, s13, s14, s15, s16, s17⟩
     go_simp
     with_reducible rfl
    rotate_left
    ·simp only [Act.put, List.setIfInBounds_toArray, List.set_cons_zero, List.set_cons_succ, i64_w, i32_w]
     rfl
    refine take_ (i := 9) (N := some 26) (v := ?_) (a' := ?_) q30_10 rfl rfl (take_ofW HT_.out HW_.out (by kernel_rfl)) (fun _ _ _ h => h) (Or.inl ⟨by rfl, ?_⟩) hHeld ?_ ?_
    rotate_left
    ·rintro w' ⟨s0, s1, s2, s3, s4, s5, s6, s7, s8, s9, s10, s11, s12, s13, s14, s15, s16, s17⟩
     go_simp
     with_reducible rfl
    rotate_left
    ·simp only [Act.put, List.setIfInBounds_toArray, List.set_cons_zero, List.set_cons_succ, i64_w, i32_w]
     rfl
    refine pur_ (i := 10) (N := some 27) q30_11 (any_of HT_.out (by kernel_rfl)) ?_
    refine pur_ (i := 11) (N := some 28) q30_12 (any_of HT_.out (by kernel_rfl)) ?_
    refine puu_ (i := 12) (N := some 29) q30_13 (any_of HT_.out (by kernel_rfl)) ?_
    refine puu_ (i := 13) (N := some 30) q30_14 (any_of HT_.out (by kernel_rfl)) ?_
    refine puu_ (i := 14) (N := some 31) q30_15 (any_of HT_.out (by kernel_rfl)) ?_
    refine puu_ (i := 15) (N := some 32) q30_16 (any_of HT_.out (by kernel_rfl)) ?_
    refine puu_ (i := 16) (N := some 33) q30_17 (any_of HT_.out (by kernel_rfl)) ?_
    refine puu_ (i := 17) (N := some 34) q30_18 (any_of HT_.out (by kernel_rfl)) ?_
    refine puu_ (i := 18) (N := some 35) q30_19 (any_of HT_.out (by kernel_rfl)) ?_
    refine puu_ (i := 19) (N := some 36) q30_20 (any_of HT_.out (by kernel_rfl)) ?_
    refine puu_ (i := 20) (N := some 37) q30_21 (any_of HT_.out (by kernel_rfl)) ?_
    refine puu_ (i := 21) (N := some 38) q30_22 (any_of HT_.out (by kernel_rfl)) ?_
    refine pur_ (i := 22) (N := some 39) q30_23 (any_of HT_.out (by kernel_rfl)) ?_
    refine done_ (done_of HT_.out (by kernel_rfl)) ?_
    try go_wp2
    go_ret
    exact ⟨we_, wb_ HB.out⟩
   rw [if_pos c7] at H
   have c7b0 : (((rd_T40 l0 x5_1).f2).toList == ((rd_T40 l1 x5_1).f2).toList) = true := beq_iff_eq.mpr c7
   have c7b1 : (((rd_T40 l0 x5_1).f2).toList != ((rd_T40 l1 x5_1).f2).toList) = false := bne_eq_false_iff_eq.mpr c7
   clear c7
   replace H := Option.bind_eq_some_iff.mp H
   obtain ⟨t397, A80, H⟩ := H
   replace H : (if t397 = true then (bindleref08_SameTree.l0 k1 l0 l1 (wrap64 (x5_1 + 1))) else (some false)) = some r := H
   have A8 := A0_ A80
   clear A80
   by_cases c9 : t397 = true
   rotate_left
   ·replace c9 := Bool.eq_false_iff.mpr c9
    subst c9
    have H1 : (some false) = some r := by rw [if_neg (show ¬ (false = true) by decide)] at H; exact H
    clear H
    have H := H1
    clear H1
    obtain rfl := Option.some.inj H
    try go_wp2
    have n0_ := A0_ (b1_ HB.out)
    clear HB
    have HB := n0_
    clear n0_
    have p393 : 0 ≤ (x5_1 : Int) := wd_
    have q393 : x5_1 < (l0.length : Int) := wd_
    obtain ⟨ad393, A393_8, c393_8, e393, hx393_0, hx393_1, hx393_2, hx393_3, hx393_4, hx393_5, hx393_6, hx393_7, hx393_8, hl393_8, hi393_8⟩ := at_T40 HR0.out x5_1 p393 q393
    have hw393_8 := hx393_8
    have hw393_7 := hx393_7
    have hw393_6 := hx393_6
    have hw393_5 := hx393_5
    have hw393_4 := hx393_4
    have hw393_3 := hx393_3
    have hw393_2 := hx393_2
    have hw393_1 := hx393_1
    have hw393_0 := hx393_0
    cases e393
    replace hx393_0 := (HB.out.cell (World.block_lt_of_cell? w _ hx393_0)).trans hx393_0
    replace hx393_1 := (HB.out.cell (World.block_lt_of_cell? w _ hx393_1)).trans hx393_1
    replace hx393_2 := (HB.out.cell (World.block_lt_of_cell? w _ hx393_2)).trans hx393_2
    replace hx393_3 := (HB.out.cell (World.block_lt_of_cell? w _ hx393_3)).trans hx393_3
    replace hx393_4 := (HB.out.cell (World.block_lt_of_cell? w _ hx393_4)).trans hx393_4
    replace hx393_5 := (HB.out.cell (World.block_lt_of_cell? w _ hx393_5)).trans hx393_5
    replace hx393_6 := (HB.out.cell (World.block_lt_of_cell? w _ hx393_6)).trans hx393_6
    replace hx393_7 := (HB.out.cell (World.block_lt_of_cell? w _ hx393_7)).trans hx393_7
    replace hx393_8 := (HB.out.cell (World.block_lt_of_cell? w _ hx393_8)).trans hx393_8
    have HR393_8 := A0_ hi393_8
    have HC393_8 := A0_ hl393_8
    clear hi393_8 hl393_8
    replace p393 := eq_true p393
    replace q393 := eq_true q393
    have p394 : 0 ≤ (x5_1 : Int) := wd_
    have q394 : x5_1 < (l1.length : Int) := wd_
    obtain ⟨ad394, A394_8, c394_8, e394, hx394_0, hx394_1, hx394_2, hx394_3, hx394_4, hx394_5, hx394_6, hx394_7, hx394_8, hl394_8, hi394_8⟩ := at_T40 HR1.out x5_1 p394 q394
    have hw394_8 := hx394_8
    have hw394_7 := hx394_7
    have hw394_6 := hx394_6
    have hw394_5 := hx394_5
    have hw394_4 := hx394_4
    have hw394_3 := hx394_3
    have hw394_2 := hx394_2
    have hw394_1 := hx394_1
    have hw394_0 := hx394_0
    cases e394
    replace hx394_0 := (HB.out.cell (World.block_lt_of_cell? w _ hx394_0)).trans hx394_0
    replace hx394_1 := (HB.out.cell (World.block_lt_of_cell? w _ hx394_1)).trans hx394_1
    replace hx394_2 := (HB.out.cell (World.block_lt_of_cell? w _ hx394_2)).trans hx394_2
    replace hx394_3 := (HB.out.cell (World.block_lt_of_cell? w _ hx394_3)).trans hx394_3
    replace hx394_4 := (HB.out.cell (World.block_lt_of_cell? w _ hx394_4)).trans hx394_4
    replace hx394_5 := (HB.out.cell (World.block_lt_of_cell? w _ hx394_5)).trans hx394_5
    replace hx394_6 := (HB.out.cell (World.block_lt_of_cell? w _ hx394_6)).trans hx394_6
    replace hx394_7 := (HB.out.cell (World.block_lt_of_cell? w _ hx394_7)).trans hx394_7
    replace hx394_8 := (HB.out.cell (World.block_lt_of_cell? w _ hx394_8)).trans hx394_8
    have HR394_8 := A0_ hi394_8
    have HC394_8 := A0_ hl394_8
    clear hi394_8 hl394_8
    replace p394 := eq_true p394
    replace q394 := eq_true q394
    have p395 : 0 ≤ (x5_1 : Int) := wd_
    have q395 : x5_1 < (l0.length : Int) := wd_
    obtain ⟨ad395, A395_8, c395_8, e395, hx395_0, hx395_1, hx395_2, hx395_3, hx395_4, hx395_5, hx395_6, hx395_7, hx395_8, hl395_8, hi395_8⟩ := at_T40 HR0.out x5_1 p395 q395
    have hw395_8 := hx395_8
    have hw395_7 := hx395_7
    have hw395_6 := hx395_6
    have hw395_5 := hx395_5
    have hw395_4 := hx395_4
    have hw395_3 := hx395_3
    have hw395_2 := hx395_2
    have hw395_1 := hx395_1
    have hw395_0 := hx395_0
    obtain rfl : ad393 = ad395 := (by injection e395)
    replace hx395_0 := (HB.out.cell (World.block_lt_of_cell? w _ hx395_0)).trans hx395_0
    replace hx395_1 := (HB.out.cell (World.block_lt_of_cell? w _ hx395_1)).trans hx395_1
    replace hx395_2 := (HB.out.cell (World.block_lt_of_cell? w _ hx395_2)).trans hx395_2
    replace hx395_3 := (HB.out.cell (World.block_lt_of_cell? w _ hx395_3)).trans hx395_3
    replace hx395_4 := (HB.out.cell (World.block_lt_of_cell? w _ hx395_4)).trans hx395_4
    replace hx395_5 := (HB.out.cell (World.block_lt_of_cell? w _ hx395_5)).trans hx395_5
    replace hx395_6 := (HB.out.cell (World.block_lt_of_cell? w _ hx395_6)).trans hx395_6
    replace hx395_7 := (HB.out.cell (World.block_lt_of_cell? w _ hx395_7)).trans hx395_7
    replace hx395_8 := (HB.out.cell (World.block_lt_of_cell? w _ hx395_8)).trans hx395_8
    have HR395_8 := A0_ hi395_8
    have HC395_8 := A0_ hl395_8
    clear hi395_8 hl395_8
    replace p395 := eq_true p395
    replace q395 := eq_true q395
    have ea_ := Option.some.inj (hx393_8.symm.trans hx395_8)
    injection ea_ with ea_ en_ ec_
    subst ea_
    subst ec_
    clear en_
    have p396 : 0 ≤ (x5_1 : Int) := wd_
    have q396 : x5_1 < (l1.length : Int) := wd_
    obtain ⟨ad396, A396_8, c396_8, e396, hx396_0, hx396_1, hx396_2, hx396_3, hx396_4, hx396_5, hx396_6, hx396_7, hx396_8, hl396_8, hi396_8⟩ := at_T40 HR1.out x5_1 p396 q396
    have hw396_8 := hx396_8
    have hw396_7 := hx396_7
    have hw396_6 := hx396_6
    have hw396_5 := hx396_5
    have hw396_4 := hx396_4
    have hw396_3 := hx396_3
    have hw396_2 := hx396_2
    have hw396_1 := hx396_1
    have hw396_0 := hx396_0
    obtain rfl : ad394 = ad396 := (by injection e396)
    replace hx396_0 := (HB.out.cell (World.block_lt_of_cell? w _ hx396_0)).trans hx396_0
    replace hx396_1 := (HB.out.cell (World.block_lt_of_cell? w _ hx396_1)).trans hx396_1
    replace hx396_2 := (HB.out.cell (World.block_lt_of_cell? w _ hx396_2)).trans hx396_2
    replace hx396_3 := (HB.out.cell (World.block_lt_of_cell? w _ hx396_3)).trans hx396_3
    replace hx396_4 := (HB.out.cell (World.block_lt_of_cell? w _ hx396_4)).trans hx396_4
    replace hx396_5 := (HB.out.cell (World.block_lt_of_cell? w _ hx396_5)).trans hx396_5
    replace hx396_6 := (HB.out.cell (World.block_lt_of_cell? w _ hx396_6)).trans hx396_6
    replace hx396_7 := (HB.out.cell (World.block_lt_of_cell? w _ hx396_7)).trans hx396_7
    replace hx396_8 := (HB.out.cell (World.block_lt_of_cell? w _ hx396_8)).trans hx396_8
    have HR396_8 := A0_ hi396_8
    have HC396_8 := A0_ hl396_8
    clear hi396_8 hl396_8
    replace p396 := eq_true p396
    replace q396 := eq_true q396
    have ea_ := Option.some.inj (hx394_8.symm.trans hx396_8)
    injection ea_ with ea_ en_ ec_
    subst ea_
    subst ec_
    clear en_
    refine start_ (n := 23) (S := fun w' => w'.cell? (ad393.add ((x5_1).toNat * 9)) = some (.string ((rd_T40 l0 x5_1).f0)) ∧ w'.cell? ⟨(ad393.add ((x5_1).toNat * 9)).block, (ad393.add ((x5_1).toNat * 9)).off + 1, none⟩ = some (.string ((rd_T40 l0 x5_1).f1)) ∧ w'.cell? ⟨(ad393.add ((x5_1).toNat * 9)).block, (ad393.add ((x5_1).toNat * 9)).off + 2, none⟩ = some (.string ((rd_T40 l0 x5_1).f2)) ∧ w'.cell? ⟨(ad393.add ((x5_1).toNat * 9)).block, (ad393.add ((x5_1).toNat * 9)).off + 3, none⟩ = some (.int .u8 ((rd_T40 l0 x5_1).f3)) ∧ w'.cell? ⟨(ad393.add ((x5_1).toNat * 9)).block, (ad393.add ((x5_1).toNat * 9)).off + 4, none⟩ = some (.int .i64 ((rd_T40 l0 x5_1).f4.f0)) ∧ w'.cell? ⟨(ad393.add ((x5_1).toNat * 9)).block, (ad393.add ((x5_1).toNat * 9)).off + 5, none⟩ = some (.int .i64 ((rd_T40 l0 x5_1).f4.f1)) ∧ w'.cell? ⟨(ad393.add ((x5_1).toNat * 9)).block, (ad393.add ((x5_1).toNat * 9)).off + 6, none⟩ = some (.int .i64 ((rd_T40 l0 x5_1).f4.f2)) ∧ w'.cell? ⟨(ad393.add ((x5_1).toNat * 9)).block, (ad393.add ((x5_1).toNat * 9)).off + 7, none⟩ = some (.int .i64 ((rd_T40 l0 x5_1).f4.f3)) ∧ w'.cell? ⟨(ad393.add ((x5_1).toNat * 9)).block, (ad393.add ((x5_1).toNat * 9)).off + 8, none⟩ = some (.slice A393_8 ((rd_T40 l0 x5_1).f5).length c393_8) ∧ w'.cell? (ad394.add ((x5_1).toNat * 9)) = some (.string ((rd_T40 l1 x5_1).f0)) ∧ w'.cell? ⟨(ad394.add ((x5_1).toNat * 9)).block, (ad394.add ((x5_1).toNat * 9)).off + 1, none⟩ = some (.string ((rd_T40 l1 x5_1).f1)) ∧ w'.cell? ⟨(ad394.add ((x5_1).toNat * 9)).block, (ad394.add ((x5_1).toNat * 9)).off + 2, none⟩ = some (.string ((rd_T40 l1 x5_1).f2)) ∧ w'.cell? ⟨(ad394.add ((x5_1).toNat * 9)).block, (ad394.add ((x5_1).toNat * 9)).off + 3, none⟩ = some (.int .u8 ((rd_T40 l1 x5_1).f3)) ∧ w'.cell? ⟨(ad394.add ((x5_1).toNat * 9)).block, (ad394.add ((x5_1).toNat * 9)).off + 4, none⟩ = some (.int .i64 ((rd_T40 l1 x5_1).f4.f0)) ∧ w'.cell? ⟨(ad394.add ((x5_1).toNat * 9)).block, (ad394.add ((x5_1).toNat * 9)).off + 5, none⟩ = some (.int .i64 ((rd_T40 l1 x5_1).f4.f1)) ∧ w'.cell? ⟨(ad394.add ((x5_1).toNat * 9)).block, (ad394.add ((x5_1).toNat * 9)).off + 6, none⟩ = some (.int .i64 ((rd_T40 l1 x5_1).f4.f2)) ∧ w'.cell? ⟨(ad394.add ((x5_1).toNat * 9)).block, (ad394.add ((x5_1).toNat * 9)).off + 7, none⟩ = some (.int .i64 ((rd_T40 l1 x5_1).f4.f3)) ∧ w'.cell? ⟨(ad394.add ((x5_1).toNat * 9)).block, (ad394.add ((x5_1).toNat * 9)).off + 8, none⟩ = some (.slice A394_8 ((rd_T40 l1 x5_1).f5).length c394_8) ∧ w'.cell? (ad393.add ((x5_1).toNat * 9)) = some (.string ((rd_T40 l0 x5_1).f0)) ∧ w'.cell? ⟨(ad393.add ((x5_1).toNat * 9)).block, (ad393.add ((x5_1).toNat * 9)).off + 1, none⟩ = some (.string ((rd_T40 l0 x5_1).f1)) ∧ w'.cell? ⟨(ad393.add ((x5_1).toNat * 9)).block, (ad393.add ((x5_1).toNat * 9)).off + 2, none⟩ = some (.string ((rd_T40 l0 x5_1).f2)) ∧ w'.cell? ⟨(ad393.add ((x5_1).toNat * 9)).block, (ad393.add ((x5_1).toNat * 9)).off + 3, none⟩ = some (.int .u8 ((rd_T40 l0 x5_1).f3)) ∧ w'.cell? ⟨(ad393.add ((x5_1).toNat * 9)).block, (ad393.add ((x5_1).toNat * 9)).off + 4, none⟩ = some (.int .i64 ((rd_T40 l0 x5_1).f4.f0)) ∧ w'.cell? ⟨(ad393.add ((x5_1).toNat * 9)).block, (ad393.add ((x5_1).toNat * 9)).off + 5, none⟩ = some (.int .i64 ((rd_T40 l0 x5_1).f4.f1)) ∧ w'.cell? ⟨(ad393.add ((x5_1).toNat * 9)).block, (ad393.add ((x5_1).toNat * 9)).off + 6, none⟩ = some (.int .i64 ((rd_T40 l0 x5_1).f4.f2)) ∧ w'.cell? ⟨(ad393.add ((x5_1).toNat * 9)).block, (ad393.add ((x5_1).toNat * 9)).off + 7, none⟩ = some (.int .i64 ((rd_T40 l0 x5_1).f4.f3)) ∧ w'.cell? ⟨(ad393.add ((x5_1).toNat * 9)).block, (ad393.add ((x5_1).toNat * 9)).off + 8, none⟩ = some (.slice A393_8 ((rd_T40 l0 x5_1).f5).length c393_8) ∧ w'.cell? (ad394.add ((x5_1).toNat * 9)) = some (.string ((rd_T40 l1 x5_1).f0)) ∧ w'.cell? ⟨(ad394.add ((x5_1).toNat * 9)).block, (ad394.add ((x5_1).toNat * 9)).off + 1, none⟩ = some (.string ((rd_T40 l1 x5_1).f1)) ∧ w'.cell? ⟨(ad394.add ((x5_1).toNat * 9)).block, (ad394.add ((x5_1).toNat * 9)).off + 2, none⟩ = some (.string ((rd_T40 l1 x5_1).f2)) ∧ w'.cell? ⟨(ad394.add ((x5_1).toNat * 9)).block, (ad394.add ((x5_1).toNat * 9)).off + 3, none⟩ = some (.int .u8 ((rd_T40 l1 x5_1).f3)) ∧ w'.cell? ⟨(ad394.add ((x5_1).toNat * 9)).block, (ad394.add ((x5_1).toNat * 9)).off + 4, none⟩ = some (.int .i64 ((rd_T40 l1 x5_1).f4.f0)) ∧ w'.cell? ⟨(ad394.add ((x5_1).toNat * 9)).block, (ad394.add ((x5_1).toNat * 9)).off + 5, none⟩ = some (.int .i64 ((rd_T40 l1 x5_1).f4.f1)) ∧ w'.cell? ⟨(ad394.add ((x5_1).toNat * 9)).block, (ad394.add ((x5_1).toNat * 9)).off + 6, none⟩ = some (.int .i64 ((rd_T40 l1 x5_1).f4.f2)) ∧ w'.cell? ⟨(ad394.add ((x5_1).toNat * 9)).block, (ad394.add ((x5_1).toNat * 9)).off + 7, none⟩ = some (.int .i64 ((rd_T40 l1 x5_1).f4.f3)) ∧ w'.cell? ⟨(ad394.add ((x5_1).toNat * 9)).block, (ad394.add ((x5_1).toNat * 9)).off + 8, none⟩ = some (.slice A394_8 ((rd_T40 l1 x5_1).f5).length c394_8)) (ds := []) q30_0 (by kernel_rfl) rfl rfl ⟨((HB.out.cell (World.block_lt_of_cell? w _ hw393_0)).trans hw393_0), ((HB.out.cell (World.block_lt_of_cell? w _ hw393_1)).trans hw393_1), ((HB.out.cell (World.block_lt_of_cell? w _ hw393_2)).trans hw393_2), ((HB.out.cell (World.block_lt_of_cell? w _ hw393_3)).trans hw393_3), ((HB.out.cell (World.block_lt_of_cell? w _ hw393_4)).trans hw393_4), ((HB.out.cell (World.block_lt_of_cell? w _ hw393_5)).trans hw393_5), ((HB.out.cell (World.block_lt_of_cell? w _ hw393_6)).trans hw393_6), ((HB.out.cell (World.block_lt_of_cell? w _ hw393_7)).trans hw393_7), ((HB.out.cell (World.block_lt_of_cell? w _ hw393_8)).trans hw393_8), ((HB.out.cell (World.block_lt_of_cell? w _ hw394_0)).trans hw394_0), ((HB.out.cell (World.block_lt_of_cell? w _ hw394_1)).trans hw394_1), ((HB.out.cell (World.block_lt_of_cell? w _ hw394_2)).trans hw394_2), ((HB.out.cell (World.block_lt_of_cell? w _ hw394_3)).trans hw394_3), ((HB.out.cell (World.block_lt_of_cell? w _ hw394_4)).trans hw394_4), ((HB.out.cell (World.block_lt_of_cell? w _ hw394_5)).trans hw394_5), ((HB.out.cell (World.block_lt_of_cell? w _ hw394_6)).trans hw394_6), ((HB.out.cell (World.block_lt_of_cell? w _ hw394_7)).trans hw394_7), ((HB.out.cell (World.block_lt_of_cell? w _ hw394_8)).trans hw394_8), ((HB.out.cell (World.block_lt_of_cell? w _ hw395_0)).trans hw395_0), ((HB.out.cell (World.block_lt_of_cell? w _ hw395_1)).trans hw395_1), ((HB.out.cell (World.block_lt_of_cell? w _ hw395_2)).trans hw395_2), ((HB.out.cell (World.block_lt_of_cell? w _ hw395_3)).trans hw395_3), ((HB.out.cell (World.block_lt_of_cell? w _ hw395_4)).trans hw395_4), ((HB.out.cell (World.block_lt_of_cell? w _ hw395_5)).trans hw395_5), ((HB.out.cell (World.block_lt_of_cell? w _ hw395_6)).trans hw395_6), ((HB.out.cell (World.block_lt_of_cell? w _ hw395_7)).trans hw395_7), ((HB.out.cell (World.block_lt_of_cell? w _ hw395_8)).trans hw395_8), ((HB.out.cell (World.block_lt_of_cell? w _ hw396_0)).trans hw396_0), ((HB.out.cell (World.block_lt_of_cell? w _ hw396_1)).trans hw396_1), ((HB.out.cell (World.block_lt_of_cell? w _ hw396_2)).trans hw396_2), ((HB.out.cell (World.block_lt_of_cell? w _ hw396_3)).trans hw396_3), ((HB.out.cell (World.block_lt_of_cell? w _ hw396_4)).trans hw396_4), ((HB.out.cell (World.block_lt_of_cell? w _ hw396_5)).trans hw396_5), ((HB.out.cell (World.block_lt_of_cell? w _ hw396_6)).trans hw396_6), ((HB.out.cell (World.block_lt_of_cell? w _ hw396_7)).trans hw396_7), ((HB.out.cell (World.block_lt_of_cell? w _ hw396_8)).trans hw396_8)⟩ (fun hHeld => ?_); refine with_tabW bindleref08_SameTree.tab6 bindleref08_SameTree.bits6 (fun HT_ HW_ => ?_)
    generalize wr.drew = w12 at HB HR393_8 HR394_8 HR395_8 HR396_8 hx393_0 hx393_1 hx393_2 hx393_3 hx393_4 hx393_5 hx393_6 hx393_7 hx393_8 hx394_0 hx394_1 hx394_2 hx394_3 hx394_4 hx394_5 hx394_6 hx394_7 hx394_8 hx395_0 hx395_1 hx395_2 hx395_3 hx395_4 hx395_5 hx395_6 hx395_7 hx395_8 hx396_0 hx396_1 hx396_2 hx396_3 hx396_4 hx396_5 hx396_6 hx396_7 hx396_8 hHeld ⊢
    refine pur_ (i := 0) (N := some 17) q30_1 (any_of HT_.out (by kernel_rfl)) ?_
    refine pur_ (i := 1) (N := some 18) q30_2 (any_of HT_.out (by kernel_rfl)) ?_
    refine pur_ (i := 2) (N := some 19) q30_3 (any_of HT_.out (by kernel_rfl)) ?_
    refine pur_ (i := 3) (N := some 20) q30_4 (any_of HT_.out (by kernel_rfl)) ?_
    refine pur_ (i := 5) (N := some 22) q30_5 (any_of HT_.out (by kernel_rfl)) ?_
    refine pur_ (i := 6) (N := some 23) q30_6 (any_of HT_.out (by kernel_rfl)) ?_
    refine pur_ (i := 7) (N := some 24) q30_7 (any_of HT_.out (by kernel_rfl)) ?_
    refine pur_ (i := 8) (N := some 25) q30_8 (any_of HT_.out (by kernel_rfl)) ?_
    refine take_ (i := 4) (N := some 21) (v := ?_) (a' := ?_) q30_9 rfl rfl (take_ofW HT_.out HW_.out (by kernel_rfl)) (fun _ _ _ h => h) (Or.inl ⟨by rfl, ?_⟩) hHeld ?_ ?_
    rotate_left
    ·rintro w' ⟨s0, s1, s2, s3, s4, s5, s6, s7, s8, s9, s10, s11, s12, s13, s14, s15, s16, s17, s18, s19, s20, s21, s22, s23, s24, s25, s26, s27, s28, s29, s30, s31, s32, s33, s34, s35⟩
     go_simp
     with_reducible rfl
    rotate_left
    ·simp only [Act.put, List.setIfInBounds_toArray, List.set_cons_zero, List.set_cons_succ, i64_w, i32_w]
     rfl
    refine take_ (i := 9) (N := some 26) (v := ?_) (a' := ?_) q30_10 rfl rfl (take_ofW HT_.out HW_.out (by kernel_rfl)) (fun _ _ _ h => h) (Or.inl ⟨by rfl, ?_⟩) hHeld ?_ ?_
    rotate_left
    ·rintro w' ⟨s0, s1, s2, s3, s4, s5, s6, s7, s8, s9, s10, s11, s12, s13, s14, s15, s16, s17, s18, s19, s20, s21, s22, s23, s24, s25, s26, s27, s28, s29, s30, s31, s32, s33, s34, s35⟩
     go_simp
     with_reducible rfl
    rotate_left
    ·simp only [Act.put, List.setIfInBounds_toArray, List.set_cons_zero, List.set_cons_succ, i64_w, i32_w]
     rfl
    refine pur_ (i := 10) (N := some 27) q30_11 (any_of HT_.out (by kernel_rfl)) ?_
    refine pur_ (i := 11) (N := some 28) q30_12 (any_of HT_.out (by kernel_rfl)) ?_
    refine pur_ (i := 12) (N := some 29) q30_13 (any_of HT_.out (by kernel_rfl)) ?_
    refine pur_ (i := 13) (N := some 30) q30_14 (any_of HT_.out (by kernel_rfl)) ?_
    refine pur_ (i := 14) (N := some 31) q30_15 (any_of HT_.out (by kernel_rfl)) ?_
    refine pur_ (i := 16) (N := some 33) q30_24 (any_of HT_.out (by kernel_rfl)) ?_
    refine pur_ (i := 17) (N := some 34) q30_25 (any_of HT_.out (by kernel_rfl)) ?_
    refine pur_ (i := 18) (N := some 35) q30_26 (any_of HT_.out (by kernel_rfl)) ?_
    refine take_ (i := 15) (N := some 32) (v := ?_) (a' := ?_) q30_19 rfl rfl (take_ofW HT_.out HW_.out (by kernel_rfl)) (fun _ _ _ h => h) (Or.inl ⟨by rfl, ?_⟩) hHeld ?_ ?_
    rotate_left
    ·rintro w' ⟨s0, s1, s2, s3, s4, s5, s6, s7, s8, s9, s10, s11, s12, s13, s14, s15, s16, s17, s18, s19, s20, s21, s22, s23, s24, s25, s26, s27, s28, s29, s30, s31, s32, s33, s34, s35⟩
     go_simp
     with_reducible rfl
    rotate_left
    ·simp only [Act.put, List.setIfInBounds_toArray, List.set_cons_zero, List.set_cons_succ, i64_w, i32_w]
     rfl
    refine take_ (i := 19) (N := some 36) (v := ?_) (a' := ?_) q30_20 rfl rfl (take_ofW HT_.out HW_.out (by kernel_rfl)) (fun _ _ _ h => h) (Or.inl ⟨by rfl, ?_⟩) hHeld ?_ ?_
    rotate_left
    ·rintro w' ⟨s0, s1, s2, s3, s4, s5, s6, s7, s8, s9, s10, s11, s12, s13, s14, s15, s16, s17, s18, s19, s20, s21, s22, s23, s24, s25, s26, s27, s28, s29, s30, s31, s32, s33, s34, s35⟩
     go_simp
     with_reducible rfl
    rotate_left
    ·simp only [Act.put, List.setIfInBounds_toArray, List.set_cons_zero, List.set_cons_succ, i64_w, i32_w]
     rfl
    refine one_ (i := 20) (N := some 37) q30_21 rfl rfl (one_of HT_.out (by kernel_rfl)) (by decide) (fun K hK => ?_)
    refine goes_ Tryd.func35 (by kernel_rfl) rfl #[.agg #[.string ((rd_T40 l0 x5_1).f0), .string ((rd_T40 l0 x5_1).f1), .string ((rd_T40 l0 x5_1).f2), .int .u8 ((rd_T40 l0 x5_1).f3), .int .i64 ((rd_T40 l0 x5_1).f4.f0), .int .i64 ((rd_T40 l0 x5_1).f4.f1), .int .i64 ((rd_T40 l0 x5_1).f4.f2), .int .i64 ((rd_T40 l0 x5_1).f4.f3), .slice A393_8 ((rd_T40 l0 x5_1).f5).length c393_8], .agg #[.string ((rd_T40 l1 x5_1).f0), .string ((rd_T40 l1 x5_1).f1), .string ((rd_T40 l1 x5_1).f2), .int .u8 ((rd_T40 l1 x5_1).f3), .int .i64 ((rd_T40 l1 x5_1).f4.f0), .int .i64 ((rd_T40 l1 x5_1).f4.f1), .int .i64 ((rd_T40 l1 x5_1).f4.f2), .int .i64 ((rd_T40 l1 x5_1).f4.f3), .slice A394_8 ((rd_T40 l1 x5_1).f5).length c394_8]] (by rfl) rfl rfl wm_ ?_
    with_reducible refine (bindleref08_Equal.calls ((rd_T40 l0 x5_1).f0) ((rd_T40 l0 x5_1).f1) ((rd_T40 l0 x5_1).f2) ((rd_T40 l0 x5_1).f3) ((rd_T40 l0 x5_1).f4.f0) ((rd_T40 l0 x5_1).f4.f1) ((rd_T40 l0 x5_1).f4.f2) ((rd_T40 l0 x5_1).f4.f3) _ _ ((rd_T40 l0 x5_1).f5) ((rd_T40 l1 x5_1).f0) ((rd_T40 l1 x5_1).f1) ((rd_T40 l1 x5_1).f2) ((rd_T40 l1 x5_1).f3) ((rd_T40 l1 x5_1).f4.f0) ((rd_T40 l1 x5_1).f4.f1) ((rd_T40 l1 x5_1).f4.f2) ((rd_T40 l1 x5_1).f4.f3) _ _ ((rd_T40 l1 x5_1).f5) false _ ?side1 ?side2 ?side3 ?side4 A8.out).mono ?_
    (case side1 => exact wc_ (Kd.C_below HR395_8.out HB.out))
    (case side2 => exact HC395_8.out)
    (case side3 => exact wc_ (Kd.C_below HR396_8.out HB.out))
    (case side4 => exact HC396_8.out)
    rintro e w13 ⟨rfl, hb⟩
    refine ⟨_, rfl, ?_⟩
    have n0_ := A0_ (below_step (wb_ HB.out) hb)
    clear HB
    have HB := n0_
    clear n0_
    (try clear hb)
    (try clear hb2)
    (try clear hk)
    (try clear hi)
    refine hK.out _ _ ⟨((HB.out.cell (World.block_lt_of_cell? w _ hw393_0)).trans hw393_0), ((HB.out.cell (World.block_lt_of_cell? w _ hw393_1)).trans hw393_1), ((HB.out.cell (World.block_lt_of_cell? w _ hw393_2)).trans hw393_2), ((HB.out.cell (World.block_lt_of_cell? w _ hw393_3)).trans hw393_3), ((HB.out.cell (World.block_lt_of_cell? w _ hw393_4)).trans hw393_4), ((HB.out.cell (World.block_lt_of_cell? w _ hw393_5)).trans hw393_5), ((HB.out.cell (World.block_lt_of_cell? w _ hw393_6)).trans hw393_6), ((HB.out.cell (World.block_lt_of_cell? w _ hw393_7)).trans hw393_7), ((HB.out.cell (World.block_lt_of_cell? w _ hw393_8)).trans hw393_8), ((HB.out.cell (World.block_lt_of_cell? w _ hw394_0)).trans hw394_0), ((HB.out.cell (World.block_lt_of_cell? w _ hw394_1)).trans hw394_1), ((HB.out.cell (World.block_lt_of_cell? w _ hw394_2)).trans hw394_2), ((HB.out.cell (World.block_lt_of_cell? w _ hw394_3)).trans hw394_3), ((HB.out.cell (World.block_lt_of_cell? w _ hw394_4)).trans hw394_4), ((HB.out.cell (World.block_lt_of_cell? w _ hw394_5)).trans hw394_5), ((HB.out.cell (World.block_lt_of_cell? w _ hw394_6)).trans hw394_6), ((HB.out.cell (World.block_lt_of_cell? w _ hw394_7)).trans hw394_7), ((HB.out.cell (World.block_lt_of_cell? w _ hw394_8)).trans hw394_8), ((HB.out.cell (World.block_lt_of_cell? w _ hw395_0)).trans hw395_0), ((HB.out.cell (World.block_lt_of_cell? w _ hw395_1)).trans hw395_1), ((HB.out.cell (World.block_lt_of_cell? w _ hw395_2)).trans hw395_2), ((HB.out.cell (World.block_lt_of_cell? w _ hw395_3)).trans hw395_3), ((HB.out.cell (World.block_lt_of_cell? w _ hw395_4)).trans hw395_4), ((HB.out.cell (World.block_lt_of_cell? w _ hw395_5)).trans hw395_5), ((HB.out.cell (World.block_lt_of_cell? w _ hw395_6)).trans hw395_6), ((HB.out.cell (World.block_lt_of_cell? w _ hw395_7)).trans hw395_7), ((HB.out.cell (World.block_lt_of_cell? w _ hw395_8)).trans hw395_8), ((HB.out.cell (World.block_lt_of_cell? w _ hw396_0)).trans hw396_0), ((HB.out.cell (World.block_lt_of_cell? w _ hw396_1)).trans hw396_1), ((HB.out.cell (World.block_lt_of_cell? w _ hw396_2)).trans hw396_2), ((HB.out.cell (World.block_lt_of_cell? w _ hw396_3)).trans hw396_3), ((HB.out.cell (World.block_lt_of_cell? w _ hw396_4)).trans hw396_4), ((HB.out.cell (World.block_lt_of_cell? w _ hw396_5)).trans hw396_5), ((HB.out.cell (World.block_lt_of_cell? w _ hw396_6)).trans hw396_6), ((HB.out.cell (World.block_lt_of_cell? w _ hw396_7)).trans hw396_7), ((HB.out.cell (World.block_lt_of_cell? w _ hw396_8)).trans hw396_8)⟩ (fun hHeld => ?_)
    clear hK K
    refine norm_ (a' := ?_) ?_ ?_
    rotate_left
    ·show Act.put _ (some 37) _ = _
     simp only [Act.put, List.setIfInBounds_toArray, List.set_cons_zero, List.set_cons_succ, i64_w, i32_w]
     rfl
    refine pur_ (i := 21) (N := some 38) q30_22 (any_of HT_.out (by kernel_rfl)) ?_
    refine pur_ (i := 22) (N := some 39) q30_23 (any_of HT_.out (by kernel_rfl)) ?_
    refine done_ (done_of HT_.out (by kernel_rfl)) ?_
    try go_wp2
    go_ret
    exact ⟨we_, wb_ HB.out⟩
   subst c9
   have H1 : (bindleref08_SameTree.l0 k1 l0 l1 (wrap64 (x5_1 + 1))) = some r := by rw [if_pos rfl] at H; exact H
   clear H
   have H := H1
   clear H1
   have H' := A0_ H
   clear H
   try go_wp2
   have n0_ := A0_ (b1_ HB.out)
   clear HB
   have HB := n0_
   clear n0_
   have p393 : 0 ≤ (x5_1 : Int) := wd_
   have q393 : x5_1 < (l0.length : Int) := wd_
   obtain ⟨ad393, A393_8, c393_8, e393, hx393_0, hx393_1, hx393_2, hx393_3, hx393_4, hx393_5, hx393_6, hx393_7, hx393_8, hl393_8, hi393_8⟩ := at_T40 HR0.out x5_1 p393 q393
   have hw393_8 := hx393_8
   have hw393_7 := hx393_7
   have hw393_6 := hx393_6
   have hw393_5 := hx393_5
   have hw393_4 := hx393_4
   have hw393_3 := hx393_3
   have hw393_2 := hx393_2
   have hw393_1 := hx393_1
   have hw393_0 := hx393_0
   cases e393
   replace hx393_0 := (HB.out.cell (World.block_lt_of_cell? w _ hx393_0)).trans hx393_0
   replace hx393_1 := (HB.out.cell (World.block_lt_of_cell? w _ hx393_1)).trans hx393_1
   replace hx393_2 := (HB.out.cell (World.block_lt_of_cell? w _ hx393_2)).trans hx393_2
   replace hx393_3 := (HB.out.cell (World.block_lt_of_cell? w _ hx393_3)).trans hx393_3
   replace hx393_4 := (HB.out.cell (World.block_lt_of_cell? w _ hx393_4)).trans hx393_4
   replace hx393_5 := (HB.out.cell (World.block_lt_of_cell? w _ hx393_5)).trans hx393_5
   replace hx393_6 := (HB.out.cell (World.block_lt_of_cell? w _ hx393_6)).trans hx393_6
   replace hx393_7 := (HB.out.cell (World.block_lt_of_cell? w _ hx393_7)).trans hx393_7
   replace hx393_8 := (HB.out.cell (World.block_lt_of_cell? w _ hx393_8)).trans hx393_8
   have HR393_8 := A0_ hi393_8
   have HC393_8 := A0_ hl393_8
   clear hi393_8 hl393_8
   replace p393 := eq_true p393
   replace q393 := eq_true q393
   have p394 : 0 ≤ (x5_1 : Int) := wd_
   have q394 : x5_1 < (l1.length : Int) := wd_
   obtain ⟨ad394, A394_8, c394_8, e394, hx394_0, hx394_1, hx394_2, hx394_3, hx394_4, hx394_5, hx394_6, hx394_7, hx394_8, hl394_8, hi394_8⟩ := at_T40 HR1.out x5_1 p394 q394
   have hw394_8 := hx394_8
   have hw394_7 := hx394_7
   have hw394_6 := hx394_6
   have hw394_5 := hx394_5
   have hw394_4 := hx394_4
   have hw394_3 := hx394_3
   have hw394_2 := hx394_2
   have hw394_1 := hx394_1
   have hw394_0 := hx394_0
   cases e394
   replace hx394_0 := (HB.out.cell (World.block_lt_of_cell? w _ hx394_0)).trans hx394_0
   replace hx394_1 := (HB.out.cell (World.block_lt_of_cell? w _ hx394_1)).trans hx394_1
   replace hx394_2 := (HB.out.cell (World.block_lt_of_cell? w _ hx394_2)).trans hx394_2
   replace hx394_3 := (HB.out.cell (World.block_lt_of_cell? w _ hx394_3)).trans hx394_3
   replace hx394_4 := (HB.out.cell (World.block_lt_of_cell? w _ hx394_4)).trans hx394_4
   replace hx394_5 := (HB.out.cell (World.block_lt_of_cell? w _ hx394_5)).trans hx394_5
   replace hx394_6 := (HB.out.cell (World.block_lt_of_cell? w _ hx394_6)).trans hx394_6
   replace hx394_7 := (HB.out.cell (World.block_lt_of_cell? w _ hx394_7)).trans hx394_7
   replace hx394_8 := (HB.out.cell (World.block_lt_of_cell? w _ hx394_8)).trans hx394_8
   have HR394_8 := A0_ hi394_8
   have HC394_8 := A0_ hl394_8
   clear hi394_8 hl394_8
   replace p394 := eq_true p394
   replace q394 := eq_true q394
   have p395 : 0 ≤ (x5_1 : Int) := wd_
   have q395 : x5_1 < (l0.length : Int) := wd_
   obtain ⟨ad395, A395_8, c395_8, e395, hx395_0, hx395_1, hx395_2, hx395_3, hx395_4, hx395_5, hx395_6, hx395_7, hx395_8, hl395_8, hi395_8⟩ := at_T40 HR0.out x5_1 p395 q395
   have hw395_8 := hx395_8
   have hw395_7 := hx395_7
   have hw395_6 := hx395_6
   have hw395_5 := hx395_5
   have hw395_4 := hx395_4
   have hw395_3 := hx395_3
   have hw395_2 := hx395_2
   have hw395_1 := hx395_1
   have hw395_0 := hx395_0
   obtain rfl : ad393 = ad395 := (by injection e395)
   replace hx395_0 := (HB.out.cell (World.block_lt_of_cell? w _ hx395_0)).trans hx395_0
   replace hx395_1 := (HB.out.cell (World.block_lt_of_cell? w _ hx395_1)).trans hx395_1
   replace hx395_2 := (HB.out.cell (World.block_lt_of_cell? w _ hx395_2)).trans hx395_2
   replace hx395_3 := (HB.out.cell (World.block_lt_of_cell? w _ hx395_3)).trans hx395_3
   replace hx395_4 := (HB.out.cell (World.block_lt_of_cell? w _ hx395_4)).trans hx395_4
   replace hx395_5 := (HB.out.cell (World.block_lt_of_cell? w _ hx395_5)).trans hx395_5
   replace hx395_6 := (HB.out.cell (World.block_lt_of_cell? w _ hx395_6)).trans hx395_6
   replace hx395_7 := (HB.out.cell (World.block_lt_of_cell? w _ hx395_7)).trans hx395_7
   replace hx395_8 := (HB.out.cell (World.block_lt_of_cell? w _ hx395_8)).trans hx395_8
   have HR395_8 := A0_ hi395_8
   have HC395_8 := A0_ hl395_8
   clear hi395_8 hl395_8
   replace p395 := eq_true p395
   replace q395 := eq_true q395
   have ea_ := Option.some.inj (hx393_8.symm.trans hx395_8)
   injection ea_ with ea_ en_ ec_
   subst ea_
   subst ec_
   clear en_
   have p396 : 0 ≤ (x5_1 : Int) := wd_
   have q396 : x5_1 < (l1.length : Int) := wd_
   obtain ⟨ad396, A396_8, c396_8, e396, hx396_0, hx396_1, hx396_2, hx396_3, hx396_4, hx396_5, hx396_6, hx396_7, hx396_8, hl396_8, hi396_8⟩ := at_T40 HR1.out x5_1 p396 q396
   have hw396_8 := hx396_8
   have hw396_7 := hx396_7
   have hw396_6 := hx396_6
   have hw396_5 := hx396_5
   have hw396_4 := hx396_4
   have hw396_3 := hx396_3
   have hw396_2 := hx396_2
   have hw396_1 := hx396_1
   have hw396_0 := hx396_0
   obtain rfl : ad394 = ad396 := (by injection e396)
   replace hx396_0 := (HB.out.cell (World.block_lt_of_cell? w _ hx396_0)).trans hx396_0
   replace hx396_1 := (HB.out.cell (World.block_lt_of_cell? w _ hx396_1)).trans hx396_1
   replace hx396_2 := (HB.out.cell (World.block_lt_of_cell? w _ hx396_2)).trans hx396_2
   replace hx396_3 := (HB.out.cell (World.block_lt_of_cell? w _ hx396_3)).trans hx396_3
   replace hx396_4 := (HB.out.cell (World.block_lt_of_cell? w _ hx396_4)).trans hx396_4
   replace hx396_5 := (HB.out.cell (World.block_lt_of_cell? w _ hx396_5)).trans hx396_5
   replace hx396_6 := (HB.out.cell (World.block_lt_of_cell? w _ hx396_6)).trans hx396_6
   replace hx396_7 := (HB.out.cell (World.block_lt_of_cell? w _ hx396_7)).trans hx396_7
   replace hx396_8 := (HB.out.cell (World.block_lt_of_cell? w _ hx396_8)).trans hx396_8
   have HR396_8 := A0_ hi396_8
   have HC396_8 := A0_ hl396_8
   clear hi396_8 hl396_8
   replace p396 := eq_true p396
   replace q396 := eq_true q396
   have ea_ := Option.some.inj (hx394_8.symm.trans hx396_8)
   injection ea_ with ea_ en_ ec_
   subst ea_
   subst ec_
   clear en_
   refine start_ (n := 23) (S := fun w' => w'.cell? (ad393.add ((x5_1).toNat * 9)) = some (.string ((rd_T40 l0 x5_1).f0)) ∧ w'.cell? ⟨(ad393.add ((x5_1).toNat * 9)).block, (ad393.add ((x5_1).toNat * 9)).off + 1, none⟩ = some (.string ((rd_T40 l0 x5_1).f1)) ∧ w'.cell? ⟨(ad393.add ((x5_1).toNat * 9)).block, (ad393.add ((x5_1).toNat * 9)).off + 2, none⟩ = some (.string ((rd_T40 l0 x5_1).f2)) ∧ w'.cell? ⟨(ad393.add ((x5_1).toNat * 9)).block, (ad393.add ((x5_1).toNat * 9)).off + 3, none⟩ = some (.int .u8 ((rd_T40 l0 x5_1).f3)) ∧ w'.cell? ⟨(ad393.add ((x5_1).toNat * 9)).block, (ad393.add ((x5_1).toNat * 9)).off + 4, none⟩ = some (.int .i64 ((rd_T40 l0 x5_1).f4.f0)) ∧ w'.cell? ⟨(ad393.add ((x5_1).toNat * 9)).block, (ad393.add ((x5_1).toNat * 9)).off + 5, none⟩ = some (.int .i64 ((rd_T40 l0 x5_1).f4.f1)) ∧ w'.cell? ⟨(ad393.add ((x5_1).toNat * 9)).block, (ad393.add ((x5_1).toNat * 9)).off + 6, none⟩ = some (.int .i64 ((rd_T40 l0 x5_1).f4.f2)) ∧ w'.cell? ⟨(ad393.add ((x5_1).toNat * 9)).block, (ad393.add ((x5_1).toNat * 9)).off + 7, none⟩ = some (.int .i64 ((rd_T40 l0 x5_1).f4.f3)) ∧ w'.cell? ⟨(ad393.add ((x5_1).toNat * 9)).block, (ad393.add ((x5_1).toNat * 9)).off + 8, none⟩ = some (.slice A393_8 ((rd_T40 l0 x5_1).f5).length c393_8) ∧ w'.cell? (ad394.add ((x5_1).toNat * 9)) = some (.string ((rd_T40 l1 x5_1).f0)) ∧ w'.cell? ⟨(ad394.add ((x5_1).toNat * 9)).block, (ad394.add ((x5_1).toNat * 9)).off + 1, none⟩ = some (.string ((rd_T40 l1 x5_1).f1)) ∧ w'.cell? ⟨(ad394.add ((x5_1).toNat * 9)).block, (ad394.add ((x5_1).toNat * 9)).off + 2, none⟩ = some (.string ((rd_T40 l1 x5_1).f2)) ∧ w'.cell? ⟨(ad394.add ((x5_1).toNat * 9)).block, (ad394.add ((x5_1).toNat * 9)).off + 3, none⟩ = some (.int .u8 ((rd_T40 l1 x5_1).f3)) ∧ w'.cell? ⟨(ad394.add ((x5_1).toNat * 9)).block, (ad394.add ((x5_1).toNat * 9)).off + 4, none⟩ = some (.int .i64 ((rd_T40 l1 x5_1).f4.f0)) ∧ w'.cell? ⟨(ad394.add ((x5_1).toNat * 9)).block, (ad394.add ((x5_1).toNat * 9)).off + 5, none⟩ = some (.int .i64 ((rd_T40 l1 x5_1).f4.f1)) ∧ w'.cell? ⟨(ad394.add ((x5_1).toNat * 9)).block, (ad394.add ((x5_1).toNat * 9)).off + 6, none⟩ = some (.int .i64 ((rd_T40 l1 x5_1).f4.f2)) ∧ w'.cell? ⟨(ad394.add ((x5_1).toNat * 9)).block, (ad394.add ((x5_1).toNat * 9)).off + 7, none⟩ = some (.int .i64 ((rd_T40 l1 x5_1).f4.f3)) ∧ w'.cell? ⟨(ad394.add ((x5_1).toNat * 9)).block, (ad394.add ((x5_1).toNat * 9)).off + 8, none⟩ = some (.slice A394_8 ((rd_T40 l1 x5_1).f5).length c394_8) ∧ w'.cell? (ad393.add ((x5_1).toNat * 9)) = some (.string ((rd_T40 l0 x5_1).f0)) ∧ w'.cell? ⟨(ad393.add ((x5_1).toNat * 9)).block, (ad393.add ((x5_1).toNat * 9)).off + 1, none⟩ = some (.string ((rd_T40 l0 x5_1).f1)) ∧ w'.cell? ⟨(ad393.add ((x5_1).toNat * 9)).block, (ad393.add ((x5_1).toNat * 9)).off + 2, none⟩ = some (.string ((rd_T40 l0 x5_1).f2)) ∧ w'.cell? ⟨(ad393.add ((x5_1).toNat * 9)).block, (ad393.add ((x5_1).toNat * 9)).off + 3, none⟩ = some (.int .u8 ((rd_T40 l0 x5_1).f3)) ∧ w'.cell? ⟨(ad393.add ((x5_1).toNat * 9)).block, (ad393.add ((x5_1).toNat * 9)).off + 4, none⟩ = some (.int .i64 ((rd_T40 l0 x5_1).f4.f0)) ∧ w'.cell? ⟨(ad393.add ((x5_1).toNat * 9)).block, (ad393.add ((x5_1).toNat * 9)).off + 5, none⟩ = some (.int .i64 ((rd_T40 l0 x5_1).f4.f1)) ∧ w'.cell? ⟨(ad393.add ((x5_1).toNat * 9)).block, (ad393.add ((x5_1).toNat * 9)).off + 6, none⟩ = some (.int .i64 ((rd_T40 l0 x5_1).f4.f2)) ∧ w'.cell? ⟨(ad393.add ((x5_1).toNat * 9)).block, (ad393.add ((x5_1).toNat * 9)).off + 7, none⟩ = some (.int .i64 ((rd_T40 l0 x5_1).f4.f3)) ∧ w'.cell? ⟨(ad393.add ((x5_1).toNat * 9)).block, (ad393.add ((x5_1).toNat * 9)).off + 8, none⟩ = some (.slice A393_8 ((rd_T40 l0 x5_1).f5).length c393_8) ∧ w'.cell? (ad394.add ((x5_1).toNat * 9)) = some (.string ((rd_T40 l1 x5_1).f0)) ∧ w'.cell? ⟨(ad394.add ((x5_1).toNat * 9)).block, (ad394.add ((x5_1).toNat * 9)).off + 1, none⟩ = some (.string ((rd_T40 l1 x5_1).f1)) ∧ w'.cell? ⟨(ad394.add ((x5_1).toNat * 9)).block, (ad394.add ((x5_1).toNat * 9)).off + 2, none⟩ = some (.string ((rd_T40 l1 x5_1).f2)) ∧ w'.cell? ⟨(ad394.add ((x5_1).toNat * 9)).block, (ad394.add ((x5_1).toNat * 9)).off + 3, none⟩ = some (.int .u8 ((rd_T40 l1 x5_1).f3)) ∧ w'.cell? ⟨(ad394.add ((x5_1).toNat * 9)).block, (ad394.add ((x5_1).toNat * 9)).off + 4, none⟩ = some (.int .i64 ((rd_T40 l1 x5_1).f4.f0)) ∧ w'.cell? ⟨(ad394.add ((x5_1).toNat * 9)).block, (ad394.add ((x5_1).toNat * 9)).off + 5, none⟩ = some (.int .i64 ((rd_T40 l1 x5_1).f4.f1)) ∧ w'.cell? ⟨(ad394.add ((x5_1).toNat * 9)).block, (ad394.add ((x5_1).toNat * 9)).off + 6, none⟩ = some (.int .i64 ((rd_T40 l1 x5_1).f4.f2)) ∧ w'.cell? ⟨(ad394.add ((x5_1).toNat * 9)).block, (ad394.add ((x5_1).toNat * 9)).off + 7, none⟩ = some (.int .i64 ((rd_T40 l1 x5_1).f4.f3)) ∧ w'.cell? ⟨(ad394.add ((x5_1).toNat * 9)).block, (ad394.add ((x5_1).toNat * 9)).off + 8, none⟩ = some (.slice A394_8 ((rd_T40 l1 x5_1).f5).length c394_8)) (ds := []) q30_0 (by kernel_rfl) rfl rfl ⟨((HB.out.cell (World.block_lt_of_cell? w _ hw393_0)).trans hw393_0), ((HB.out.cell (World.block_lt_of_cell? w _ hw393_1)).trans hw393_1), ((HB.out.cell (World.block_lt_of_cell? w _ hw393_2)).trans hw393_2), ((HB.out.cell (World.block_lt_of_cell? w _ hw393_3)).trans hw393_3), ((HB.out.cell (World.block_lt_of_cell? w _ hw393_4)).trans hw393_4), ((HB.out.cell (World.block_lt_of_cell? w _ hw393_5)).trans hw393_5), ((HB.out.cell (World.block_lt_of_cell? w _ hw393_6)).trans hw393_6), ((HB.out.cell (World.block_lt_of_cell? w _ hw393_7)).trans hw393_7), ((HB.out.cell (World.block_lt_of_cell? w _ hw393_8)).trans hw393_8), ((HB.out.cell (World.block_lt_of_cell? w _ hw394_0)).trans hw394_0), ((HB.out.cell (World.block_lt_of_cell? w _ hw394_1)).trans hw394_1), ((HB.out.cell (World.block_lt_of_cell? w _ hw394_2)).trans hw394_2), ((HB.out.cell (World.block_lt_of_cell? w _ hw394_3)).trans hw394_3), ((HB.out.cell (World.block_lt_of_cell? w _ hw394_4)).trans hw394_4), ((HB.out.cell (World.block_lt_of_cell? w _ hw394_5)).trans hw394_5), ((HB.out.cell (World.block_lt_of_cell? w _ hw394_6)).trans hw394_6), ((HB.out.cell (World.block_lt_of_cell? w _ hw394_7)).trans hw394_7), ((HB.out.cell (World.block_lt_of_cell? w _ hw394_8)).trans hw394_8), ((HB.out.cell (World.block_lt_of_cell? w _ hw395_0)).trans hw395_0), ((HB.out.cell (World.block_lt_of_cell? w _ hw395_1)).trans hw395_1), ((HB.out.cell (World.block_lt_of_cell? w _ hw395_2)).trans hw395_2), ((HB.out.cell (World.block_lt_of_cell? w _ hw395_3)).trans hw395_3), ((HB.out.cell (World.block_lt_of_cell? w _ hw395_4)).trans hw395_4), ((HB.out.cell (World.block_lt_of_cell? w _ hw395_5)).trans hw395_5), ((HB.out.cell (World.block_lt_of_cell? w _ hw395_6)).trans hw395_6), ((HB.out.cell (World.block_lt_of_cell? w _ hw395_7)).trans hw395_7), ((HB.out.cell (World.block_lt_of_cell? w _ hw395_8)).trans hw395_8), ((HB.out.cell (World.block_lt_of_cell? w _ hw396_0)).trans hw396_0), ((HB.out.cell (World.block_lt_of_cell? w _ hw396_1)).trans hw396_1), ((HB.out.cell (World.block_lt_of_cell? w _ hw396_2)).trans hw396_2), ((HB.out.cell (World.block_lt_of_cell? w _ hw396_3)).trans hw396_3), ((HB.out.cell (World.block_lt_of_cell? w _ hw396_4)).trans hw396_4), ((HB.out.cell (World.block_lt_of_cell? w _ hw396_5)).trans hw396_5), ((HB.out.cell (World.block_lt_of_cell? w _ hw396_6)).trans hw396_6), ((HB.out.cell (World.block_lt_of_cell? w _ hw396_7)).trans hw396_7), ((HB.out.cell (World.block_lt_of_cell? w _ hw396_8)).trans hw396_8)⟩ (fun hHeld => ?_); refine with_tabW bindleref08_SameTree.tab6 bindleref08_SameTree.bits6 (fun HT_ HW_ => ?_)
   generalize wr.drew = w10 at HB HR393_8 HR394_8 HR395_8 HR396_8 hx393_0 hx393_1 hx393_2 hx393_3 hx393_4 hx393_5 hx393_6 hx393_7 hx393_8 hx394_0 hx394_1 hx394_2 hx394_3 hx394_4 hx394_5 hx394_6 hx394_7 hx394_8 hx395_0 hx395_1 hx395_2 hx395_3 hx395_4 hx395_5 hx395_6 hx395_7 hx395_8 hx396_0 hx396_1 hx396_2 hx396_3 hx396_4 hx396_5 hx396_6 hx396_7 hx396_8 hHeld ⊢
   refine pur_ (i := 0) (N := some 17) q30_1 (any_of HT_.out (by kernel_rfl)) ?_
   refine pur_ (i := 1) (N := some 18) q30_2 (any_of HT_.out (by kernel_rfl)) ?_
   refine pur_ (i := 2) (N := some 19) q30_3 (any_of HT_.out (by kernel_rfl)) ?_
   refine pur_ (i := 3) (N := some 20) q30_4 (any_of HT_.out (by kernel_rfl)) ?_
   refine pur_ (i := 5) (N := some 22) q30_5 (any_of HT_.out (by kernel_rfl)) ?_
   refine pur_ (i := 6) (N := some 23) q30_6 (any_of HT_.out (by kernel_rfl)) ?_
   refine pur_ (i := 7) (N := some 24) q30_7 (any_of HT_.out (by kernel_rfl)) ?_
   refine pur_ (i := 8) (N := some 25) q30_8 (any_of HT_.out (by kernel_rfl)) ?_
   refine take_ (i := 4) (N := some 21) (v := ?_) (a' := ?_) q30_9 rfl rfl (take_ofW HT_.out HW_.out (by kernel_rfl)) (fun _ _ _ h => h) (Or.inl ⟨by rfl, ?_⟩) hHeld ?_ ?_
   rotate_left
   ·rintro w' ⟨s0, s1, s2, s3, s4, s5, s6, s7, s8, s9, s10, s11, s12, s13, s14, s15, s16, s17, s18, s19, s20, s21, s22, s23, s24, s25, s26, s27, s28, s29, s30, s31, s32, s33, s34, s35⟩
    go_simp
    with_reducible rfl
   rotate_left
   ·simp only [Act.put, List.setIfInBounds_toArray, List.set_cons_zero, List.set_cons_succ, i64_w, i32_w]
    rfl
   refine take_ (i := 9) (N := some 26) (v := ?_) (a' := ?_) q30_10 rfl rfl (take_ofW HT_.out HW_.out (by kernel_rfl)) (fun _ _ _ h => h) (Or.inl ⟨by rfl, ?_⟩) hHeld ?_ ?_
   rotate_left
   ·rintro w' ⟨s0, s1, s2, s3, s4, s5, s6, s7, s8, s9, s10, s11, s12, s13, s14, s15, s16, s17, s18, s19, s20, s21, s22, s23, s24, s25, s26, s27, s28, s29, s30, s31, s32, s33, s34, s35⟩
    go_simp
    with_reducible rfl
   rotate_left
   ·simp only [Act.put, List.setIfInBounds_toArray, List.set_cons_zero, List.set_cons_succ, i64_w, i32_w]
    rfl
   refine pur_ (i := 10) (N := some 27) q30_11 (any_of HT_.out (by kernel_rfl)) ?_
   refine pur_ (i := 11) (N := some 28) q30_12 (any_of HT_.out (by kernel_rfl)) ?_
   refine pur_ (i := 12) (N := some 29) q30_13 (any_of HT_.out (by kernel_rfl)) ?_
   refine pur_ (i := 13) (N := some 30) q30_14 (any_of HT_.out (by kernel_rfl)) ?_
   refine pur_ (i := 14) (N := some 31) q30_15 (any_of HT_.out (by kernel_rfl)) ?_
   refine pur_ (i := 16) (N := some 33) q30_24 (any_of HT_.out (by kernel_rfl)) ?_
   refine pur_ (i := 17) (N := some 34) q30_25 (any_of HT_.out (by kernel_rfl)) ?_
   refine pur_ (i := 18) (N := some 35) q30_26 (any_of HT_.out (by kernel_rfl)) ?_
   refine take_ (i := 15) (N := some 32) (v := ?_) (a' := ?_) q30_19 rfl rfl (take_ofW HT_.out HW_.out (by kernel_rfl)) (fun _ _ _ h => h) (Or.inl ⟨by rfl, ?_⟩) hHeld ?_ ?_
   rotate_left
   ·rintro w' ⟨s0, s1, s2, s3, s4, s5, s6, s7, s8, s9, s10, s11, s12, s13, s14, s15, s16, s17, s18, s19, s20, s21, s22, s23, s24, s25, s26, s27, s28, s29, s30, s31, s32, s33, s34, s35⟩
    go_simp
    with_reducible rfl
   rotate_left
   ·simp only [Act.put, List.setIfInBounds_toArray, List.set_cons_zero, List.set_cons_succ, i64_w, i32_w]
    rfl
   refine take_ (i := 19) (N := some 36) (v := ?_) (a' := ?_) q30_20 rfl rfl (take_ofW HT_.out HW_.out (by kernel_rfl)) (fun _ _ _ h => h) (Or.inl ⟨by rfl, ?_⟩) hHeld ?_ ?_
   rotate_left
   ·rintro w' ⟨s0, s1, s2, s3, s4, s5, s6, s7, s8, s9, s10, s11, s12, s13, s14, s15, s16, s17, s18, s19, s20, s21, s22, s23, s24, s25, s26, s27, s28, s29, s30, s31, s32, s33, s34, s35⟩
    go_simp
    with_reducible rfl
   rotate_left
   ·simp only [Act.put, List.setIfInBounds_toArray, List.set_cons_zero, List.set_cons_succ, i64_w, i32_w]
    rfl
   refine one_ (i := 20) (N := some 37) q30_21 rfl rfl (one_of HT_.out (by kernel_rfl)) (by decide) (fun K hK => ?_)
   refine goes_ Tryd.func35 (by kernel_rfl) rfl #[.agg #[.string ((rd_T40 l0 x5_1).f0), .string ((rd_T40 l0 x5_1).f1), .string ((rd_T40 l0 x5_1).f2), .int .u8 ((rd_T40 l0 x5_1).f3), .int .i64 ((rd_T40 l0 x5_1).f4.f0), .int .i64 ((rd_T40 l0 x5_1).f4.f1), .int .i64 ((rd_T40 l0 x5_1).f4.f2), .int .i64 ((rd_T40 l0 x5_1).f4.f3), .slice A393_8 ((rd_T40 l0 x5_1).f5).length c393_8], .agg #[.string ((rd_T40 l1 x5_1).f0), .string ((rd_T40 l1 x5_1).f1), .string ((rd_T40 l1 x5_1).f2), .int .u8 ((rd_T40 l1 x5_1).f3), .int .i64 ((rd_T40 l1 x5_1).f4.f0), .int .i64 ((rd_T40 l1 x5_1).f4.f1), .int .i64 ((rd_T40 l1 x5_1).f4.f2), .int .i64 ((rd_T40 l1 x5_1).f4.f3), .slice A394_8 ((rd_T40 l1 x5_1).f5).length c394_8]] (by rfl) rfl rfl wm_ ?_
   with_reducible refine (bindleref08_Equal.calls ((rd_T40 l0 x5_1).f0) ((rd_T40 l0 x5_1).f1) ((rd_T40 l0 x5_1).f2) ((rd_T40 l0 x5_1).f3) ((rd_T40 l0 x5_1).f4.f0) ((rd_T40 l0 x5_1).f4.f1) ((rd_T40 l0 x5_1).f4.f2) ((rd_T40 l0 x5_1).f4.f3) _ _ ((rd_T40 l0 x5_1).f5) ((rd_T40 l1 x5_1).f0) ((rd_T40 l1 x5_1).f1) ((rd_T40 l1 x5_1).f2) ((rd_T40 l1 x5_1).f3) ((rd_T40 l1 x5_1).f4.f0) ((rd_T40 l1 x5_1).f4.f1) ((rd_T40 l1 x5_1).f4.f2) ((rd_T40 l1 x5_1).f4.f3) _ _ ((rd_T40 l1 x5_1).f5) true _ ?side1 ?side2 ?side3 ?side4 A8.out).mono ?_
   (case side1 => exact wc_ (Kd.C_below HR395_8.out HB.out))
   (case side2 => exact HC395_8.out)
   (case side3 => exact wc_ (Kd.C_below HR396_8.out HB.out))
   (case side4 => exact HC396_8.out)
   rintro e w11 ⟨rfl, hb⟩
   refine ⟨_, rfl, ?_⟩
   have n0_ := A0_ (below_step (wb_ HB.out) hb)
   clear HB
   have HB := n0_
   clear n0_
   (try clear hb)
   (try clear hb2)
   (try clear hk)
   (try clear hi)
   refine hK.out _ _ ⟨((HB.out.cell (World.block_lt_of_cell? w _ hw393_0)).trans hw393_0), ((HB.out.cell (World.block_lt_of_cell? w _ hw393_1)).trans hw393_1), ((HB.out.cell (World.block_lt_of_cell? w _ hw393_2)).trans hw393_2), ((HB.out.cell (World.block_lt_of_cell? w _ hw393_3)).trans hw393_3), ((HB.out.cell (World.block_lt_of_cell? w _ hw393_4)).trans hw393_4), ((HB.out.cell (World.block_lt_of_cell? w _ hw393_5)).trans hw393_5), ((HB.out.cell (World.block_lt_of_cell? w _ hw393_6)).trans hw393_6), ((HB.out.cell (World.block_lt_of_cell? w _ hw393_7)).trans hw393_7), ((HB.out.cell (World.block_lt_of_cell? w _ hw393_8)).trans hw393_8), ((HB.out.cell (World.block_lt_of_cell? w _ hw394_0)).trans hw394_0), ((HB.out.cell (World.block_lt_of_cell? w _ hw394_1)).trans hw394_1), ((HB.out.cell (World.block_lt_of_cell? w _ hw394_2)).trans hw394_2), ((HB.out.cell (World.block_lt_of_cell? w _ hw394_3)).trans hw394_3), ((HB.out.cell (World.block_lt_of_cell? w _ hw394_4)).trans hw394_4), ((HB.out.cell (World.block_lt_of_cell? w _ hw394_5)).trans hw394_5), ((HB.out.cell (World.block_lt_of_cell? w _ hw394_6)).trans hw394_6), ((HB.out.cell (World.block_lt_of_cell? w _ hw394_7)).trans hw394_7), ((HB.out.cell (World.block_lt_of_cell? w _ hw394_8)).trans hw394_8), ((HB.out.cell (World.block_lt_of_cell? w _ hw395_0)).trans hw395_0), ((HB.out.cell (World.block_lt_of_cell? w _ hw395_1)).trans hw395_1), ((HB.out.cell (World.block_lt_of_cell? w _ hw395_2)).trans hw395_2), ((HB.out.cell (World.block_lt_of_cell? w _ hw395_3)).trans hw395_3), ((HB.out.cell (World.block_lt_of_cell? w _ hw395_4)).trans hw395_4), ((HB.out.cell (World.block_lt_of_cell? w _ hw395_5)).trans hw395_5), ((HB.out.cell (World.block_lt_of_cell? w _ hw395_6)).trans hw395_6), ((HB.out.cell (World.block_lt_of_cell? w _ hw395_7)).trans hw395_7), ((HB.out.cell (World.block_lt_of_cell? w _ hw395_8)).trans hw395_8), ((HB.out.cell (World.block_lt_of_cell? w _ hw396_0)).trans hw396_0), ((HB.out.cell (World.block_lt_of_cell? w _ hw396_1)).trans hw396_1), ((HB.out.cell (World.block_lt_of_cell? w _ hw396_2)).trans hw396_2), ((HB.out.cell (World.block_lt_of_cell? w _ hw396_3)).trans hw396_3), ((HB.out.cell (World.block_lt_of_cell? w _ hw396_4)).trans hw396_4), ((HB.out.cell (World.block_lt_of_cell? w _ hw396_5)).trans hw396_5), ((HB.out.cell (World.block_lt_of_cell? w _ hw396_6)).trans hw396_6), ((HB.out.cell (World.block_lt_of_cell? w _ hw396_7)).trans hw396_7), ((HB.out.cell (World.block_lt_of_cell? w _ hw396_8)).trans hw396_8)⟩ (fun hHeld => ?_)
   clear hK K
   refine norm_ (a' := ?_) ?_ ?_
   rotate_left
   ·show Act.put _ (some 37) _ = _
    simp only [Act.put, List.setIfInBounds_toArray, List.set_cons_zero, List.set_cons_succ, i64_w, i32_w]
    rfl
   refine pur_ (i := 21) (N := some 38) q30_22 (any_of HT_.out (by kernel_rfl)) ?_
   refine pur_ (i := 22) (N := some 39) q30_23 (any_of HT_.out (by kernel_rfl)) ?_
   refine done_ (done_of HT_.out (by kernel_rfl)) ?_
   try go_wp2
   go_roundg k1
   case measure => have := HK1.out; omega
   case rel => exact ⟨(wrap64 (x5_1 + 1)), wr_, H', ⟨by have := HK1.out; omega⟩, ⟨wb_ HB.out⟩⟩
end Go.Proofs.YtfljbidecljlcaaDoor.Print

namespace Go.Proofs.YtfljbidecljlcaaDoor
open Go.RowKit Go.Proofs.YtfljbidecljlcaaDoor.Print Go.Proofs.YtfljbidecljlcaaDoorW.PrintWords
set_option linter.unusedVariables false
theorem requal_f (a b : Node) : bindleref08_Equal.f a.f0 a.f1 a.f2 a.f3 a.f4.f0 a.f4.f1 a.f4.f2 a.f4.f3 a.f5 b.f0 b.f1 b.f2 b.f3 b.f4.f0 b.f4.f1 b.f4.f2 b.f4.f3 b.f5 = some (equalB a b) := by
 unfold bindleref08_Equal.f
 exact equal_chain a b rfl
theorem rdN_nat' (l : List Node) (j : Nat) (h : j < l.length) : rd_T40 l (j : Int) = l[j] := by rw [rdN_at l j (by omega) (by omega)]; simp
theorem sameB_size : ∀ (l r : List Node), sameB l r = true → l.length = r.length
 | [], [], _ => rfl
 | [], _ :: _, h => by cases h
 | _ :: _, [], h => by cases h
 | a :: l, b :: r, h => by
  rw [sameB, Bool.and_eq_true] at h
  rw [List.length_cons, List.length_cons, sameB_size l r h.2]
theorem sameTree_l (l r : List Node) (hl : l.length = r.length) (hlen : l.length ≤ 4611686018427387904) : ∀ (d i : Nat), i + d = l.length → Ev (fun k => bindleref08_SameTree.l0 k l r (i : Int)) (sameB (l.drop i) (r.drop i)) := by
 intro d
 induction d with
 | zero =>
  intro i hi
  rw [List.drop_of_length_le (by omega), List.drop_of_length_le (by omega)]
  exact Ev.step (f := fun _ => some true) (fun k => by rw [bindleref08_SameTree.l0, if_neg (by omega)]) (Ev.now _)
 | succ d ih =>
  intro i hi
  have hil : i < l.length := by omega
  have hir : i < r.length := by omega
  rw [List.drop_eq_getElem_cons hil, List.drop_eq_getElem_cons hir, sameB]
  by_cases he : l[i].f2.toList = r[i].f2.toList
  ·rw [decide_eq_true he, Bool.true_and]
   cases hb : equalB l[i] r[i] with
   | true =>
    rw [Bool.true_and]
    refine Ev.step (fun k => ?_) (ih (i + 1) (by omega))
    rw [bindleref08_SameTree.l0, if_pos (by omega), if_pos (by omega), if_pos (by omega), rdN_nat' l i hil, rdN_nat' r i hir, if_pos he, requal_f, hb, Option.bind_some, if_pos rfl]
    rw [show wrap64 ((i : Int) + 1) = ((i + 1 : Nat) : Int) by unfold wrap64; omega]
   | false =>
    rw [Bool.false_and]
    refine Ev.step (f := fun _ => some false) (fun k => ?_) (Ev.now _)
    rw [bindleref08_SameTree.l0, if_pos (by omega), if_pos (by omega), if_pos (by omega), rdN_nat' l i hil, rdN_nat' r i hir, if_pos he, requal_f, hb, Option.bind_some, if_neg (by simp)]
  ·rw [decide_eq_false he, Bool.false_and, Bool.false_and]
   refine Ev.step (f := fun _ => some false) (fun k => ?_) (Ev.now _)
   rw [bindleref08_SameTree.l0, if_pos (by omega), if_pos (by omega), if_pos (by omega), rdN_nat' l i hil, rdN_nat' r i hir, if_neg he]
theorem sameTree_eq (l r : List Node) (hlen : l.length ≤ 4611686018427387904) : Ev (fun k => bindleref08_SameTree.f k l r) (sameB l r) := by
 by_cases hl : l.length = r.length
 ·refine Ev.congr (fun k => ?_) (sameTree_l l r hl hlen l.length 0 (by omega))
  unfold bindleref08_SameTree.f
  rw [if_pos (by omega)]
  rfl
 ·have hf : sameB l r = false := by
   rw [Bool.eq_false_iff]
   exact fun h => hl (sameB_size l r h)
  rw [hf]
  refine Ev.congr (f := fun _ => some false) (fun k => ?_) (Ev.now _)
  unfold bindleref08_SameTree.f
  rw [if_neg (by omega)]
theorem equalB_refl (a : Node) : equalB a a = true := by unfold equalB; simp
theorem sameB_refl : ∀ l : List Node, sameB l l = true
 | [] => rfl
 | a :: l => by rw [sameB, equalB_refl, sameB_refl l]; simp
end Go.Proofs.YtfljbidecljlcaaDoor

namespace Go.Proofs.YtfljbidecljlcaaDoor
open Go.RowKit Go.Maps Go.Proofs.YtfljbidecljlcaaDoor.Print Go.Proofs.YtfljbidecljlcaaDoorW.PrintWords Go.Proofs.YtfljbidecljlcaaDoorW.PrintLast Go.Proofs.YtfljbidecljlcaaDoorW.PrintMore
set_option linter.unusedVariables false
set_option linter.unusedSimpArgs false
def memCells (m : Mem) (v : Value) : Array Value := #[.string m.f0, .string m.f1, .int .u8 m.f2, .int .i64 m.f3.f0, .int .i64 m.f3.f1, .int .i64 m.f3.f2, .int .i64 m.f3.f3, v]
end Go.Proofs.YtfljbidecljlcaaDoor

namespace Go.Proofs.YtfljbidecljlcaaDoor
open Go.RowKit Go.Maps Go.Proofs.YtfljbidecljlcaaDoor.Print Go.Proofs.YtfljbidecljlcaaDoorW.PrintWords Go.Proofs.YtfljbidecljlcaaDoorW.PrintLast Go.Proofs.YtfljbidecljlcaaDoorW.PrintMore
set_option linter.unusedVariables false
set_option linter.unusedSimpArgs false
theorem fcell {w : World} {p : Addr} {v : Value} (h : w.cell? p = some v) (o : Obj) : (w.alloc o).cell? p = some v := ((below_alloc (Below.refl _ _) o).cell (World.block_lt_of_cell? w _ h)).trans h
theorem fkeep {w w1 : World} {p : Addr} {v : Value} (hb : Below w.heap.size w w1) (h : w.cell? p = some v) : w1.cell? p = some v := (hb.cell (World.block_lt_of_cell? w _ h)).trans h
def thingCells (m : Mem) (v : Value) (ld : ByteArray) : Array Value := #[.int .u8 m.f2, .int .i64 m.f3.f0, .int .i64 m.f3.f1, .int .i64 m.f3.f2, .int .i64 m.f3.f3, .string m.f1, v, .string ld]
def ThingAt (w : World) (base b : Nat) (m : Mem) (ld : ByteArray) : Prop :=
 base ≤ b ∧ ∃ v, w.heap[b]? = some (.cells (thingCells m v ld) 94 (0, 0)) ∧ Kd.R (Kd.int .u8) 5 w base (fun _ => True) v m.f4
theorem blk_lt' {w : World} {b : Nat} {o : Obj} (h : w.heap[b]? = some o) : b < w.heap.size := (Array.getElem?_eq_some_iff.1 h).1
theorem ThingAt.lt {w : World} {base b : Nat} {m : Mem} {ld : ByteArray} (h : ThingAt w base b m ld) : b < w.heap.size := by
 obtain ⟨_, v, hb, _⟩ := h
 exact blk_lt' hb
theorem ThingAt.below {w w1 : World} {base b : Nat} {m : Mem} {ld : ByteArray} (h : ThingAt w base b m ld) (hb : Below w.heap.size w w1) : ThingAt w1 base b m ld := by
 obtain ⟨h0, v, h1, h2⟩ := h
 exact ⟨h0, v, (hb.block b (blk_lt' h1)).trans h1, Kd.R_below h2 hb⟩
theorem ThingAt.grown {w w1 : World} {base b g : Nat} {m : Mem} {ld : ByteArray} (h : ThingAt w base b m ld) (hg : w.grownBy w1 (some g)) (ho : ∀ cs q, w.heap[g]? = some (.cells cs q (0, 0)) → q ≠ 94 ∧ q ≠ 5) : ThingAt w1 base b m ld := by
 obtain ⟨h0, v, h1, h2⟩ := h
 refine ⟨h0, v, (hg.block b (blk_lt' h1) (fun e => by injection e with e; subst e; exact (ho _ _ h1).1 rfl)).trans h1, ?_⟩
 refine Kd.R_mono (Kd.R_grown (Kd.R_bound h2) hg (fun k hk e => ?_)) (fun _ _ => trivial)
 injection e with e
 subst e
 obtain ⟨_, _, _, q, hq, cs, hc⟩ := hk
 have hq2 : q = 5 := by
  rcases List.mem_cons.1 hq with h | h
  ·exact h
  ·cases h
 subst hq2
 exact (ho _ _ hc).2 rfl
theorem MapS.isMap {P : Program} {K : TypeId} {w : World} {b n : Nat} {f : List UInt8 → Option Value} (h : MapS P K w b n f) : ∀ cs q, w.heap[b]? = some (.cells cs q (0, 0)) → False := by
 obtain ⟨D, ⟨es, clock, hb, _⟩, _⟩ := h
 intro cs q h2
 rw [hb] at h2
 cases h2
def dirV (B : Nat → Nat) (s : PS) : List UInt8 → Option Value := fun k => (atD s k).map (fun c => Value.pointer (some ⟨B c, 0, none⟩))
def DirS (w : World) (base d i : Nat) (l : List Mem) (s : PS) (B : Nat → Nat) : Prop :=
 MapS Tryd.prog 9 w d i (dirV B s) ∧ (∀ c m, l[c]? = some m → c < i → ¬ m.f2 = 49 → ThingAt w base (B c) m emp) ∧
  (∀ c c' m m', c < c' → c' < i → l[c]? = some m → ¬ m.f2 = 49 → l[c']? = some m' → ¬ m'.f2 = 49 → B c ≠ B c')
theorem dirV_put (B : Nat → Nat) (s : PS) (p : ByteArray) (c : Nat) (t : List UInt8) : putS (dirV B s) p.data.toList (.pointer (some ⟨B c, 0, none⟩)) t = dirV B (putP s p c) t := by
 unfold putS dirV
 rw [atD_put]
 by_cases h : t = p.data.toList
 ·rw [if_pos h, if_pos h]; rfl
 ·rw [if_neg h, if_neg h]
theorem dirV_eq {B B' : Nat → Nat} {s : PS} (h : ∀ q ∈ s, B q.2 = B' q.2) (t : List UInt8) : dirV B s t = dirV B' s t := by
 unfold dirV
 cases ha : atD s t with
 | none => rfl
 | some c =>
  obtain ⟨q, hq, _, rfl⟩ := atD_mem ha
  simp [h q hq]
theorem DirS.start (w : World) (base : Nat) (l : List Mem) (B : Nat → Nat) : DirS (w.alloc (.map #[] 0)) base w.heap.size 0 l [] B :=
 ⟨(MapS.made _ _ _).ext (fun s => rfl), fun c m _ h => absurd h (Nat.not_lt_zero _), fun c c' m m' _ h => absurd h (Nat.not_lt_zero _)⟩
theorem DirS.below {w w1 : World} {base d i : Nat} {l : List Mem} {s : PS} {B : Nat → Nat} (h : DirS w base d i l s B) (hb : Below w.heap.size w w1) : DirS w1 base d i l s B :=
 ⟨h.1.below hb, fun c m hm hc h49 => (h.2.1 c m hm hc h49).below hb, h.2.2⟩
theorem DirS.name {w w1 : World} {base d i : Nat} {l : List Mem} {s : PS} {B : Nat → Nat} (h : DirS w base d i l s B) {m : Mem} (hm : l[i]? = some m) (h49 : m.f2 = 49) {p : ByteArray} {c : Nat} (hM : MapS Tryd.prog 9 w1 d (i + 1) (putS (dirV B s) p.data.toList (.pointer (some ⟨B c, 0, none⟩)))) (hg : w.grownBy w1 (some d)) :
  DirS w1 base d (i + 1) l (putP s p c) B := by
 refine ⟨hM.ext (dirV_put B s p c), fun c' m' hm' hc' hn => ?_, fun c1 c2 m1 m2 h1 h2 h3 h4 h5 h6 => ?_⟩
 ·have hlt : c' < i := by
   rcases Nat.lt_or_ge c' i with h1 | h1
   ·exact h1
   ·obtain rfl : c' = i := by omega
    rw [hm] at hm'
    cases hm'
    exact absurd h49 hn
  exact (h.2.1 c' m' hm' hlt hn).grown hg (fun cs q hc => (h.1.isMap cs q hc).elim)
 ·refine h.2.2 c1 c2 m1 m2 h1 ?_ h3 h4 h5 h6
  rcases Nat.lt_or_ge c2 i with h7 | h7
  ·exact h7
  ·obtain rfl : c2 = i := by omega
   rw [hm] at h5
   cases h5
   exact absurd h49 h6
theorem DirS.add {w w1 : World} {base d i : Nat} {l : List Mem} {s : PS} {B : Nat → Nat} (h : DirS w base d i l s B) (hI : FInv l i s) {m : Mem} (hm : l[i]? = some m) {b : Nat} (hb : ∀ c m', l[c]? = some m' → c < i → ¬ m'.f2 = 49 → B c < b) (hT : ThingAt w base b m emp)
  {p : ByteArray} (hM : MapS Tryd.prog 9 w1 d (i + 1) (putS (dirV B s) p.data.toList (.pointer (some ⟨b, 0, none⟩)))) (hg : w.grownBy w1 (some d)) :
  DirS w1 base d (i + 1) l (putP s p i) (fun c => if c = i then b else B c) := by
 have hB : ∀ q ∈ s, B q.2 = (fun c => if c = i then b else B c) q.2 := fun q hq => by
  have := (hI.cls q hq).1
  dsimp only
  rw [if_neg (by omega)]
 refine ⟨hM.ext (fun t => ?_), fun c m' hm' hc hn => ?_, fun c1 c2 m1 m2 h1 h2 h3 h4 h5 h6 => ?_⟩
 ·rw [← dirV_put]
  unfold putS
  rw [dirV_eq (B' := fun c => if c = i then b else B c) hB]
  simp
 ·by_cases e : c = i
  ·subst e
   rw [hm] at hm'
   cases hm'
   dsimp only
   rw [if_pos rfl]
   exact hT.grown hg (fun cs q hc => (h.1.isMap cs q hc).elim)
  ·dsimp only
   rw [if_neg e]
   exact (h.2.1 c m' hm' (by omega) hn).grown hg (fun cs q hc => (h.1.isMap cs q hc).elim)
 ·dsimp only
  rw [if_neg (show ¬ c1 = i by omega)]
  by_cases e : c2 = i
  ·rw [if_pos e]
   have := hb c1 m1 h3 (by omega) h4
   omega
  ·rw [if_neg e]
   exact h.2.2 c1 c2 m1 m2 h1 (by omega) h3 h4 h5 h6
theorem put_step {P : Program} {K e t : TypeId} {ops : Array Oper} {w : World} {b n : Nat} {f : List UInt8 → Option Value} {oi : Oper} {a : Act} {Kc : Act → World → Prop} {Q : Exit → Act → World → Prop} (h : MapS P K w b n f) (hw : Region.wanted oi (yielded ops a.tmps) = true) (hN : oi.dst = none) (m x v : Operand) (hop : oi.op = Op.mapUpdate t m x v)
  (hK : P.underlying K = some .string) (ht : P.underlying t = some (.map K e)) (hn : n < maxLen) (hm : a.eval m = .map (some b)) {s : ByteArray} (hx : a.eval x = .string s) (hs : s.size ≤ maxLen) {u : Value} (hv : a.eval v = u)
  (hk : ∀ w', MapS P K w' b (n + 1) (putS f s.data.toList u) → w.mapTurned w' b → Kc a w') : if Region.wanted oi (yielded ops a.tmps) = true then Oper.wp P oi a w Kc Q else Kc (a.put none undef) w := by
 obtain ⟨w', hrun, r1, r2⟩ := h.put hK ht hn hs u
 refine skip_ (w1 := w') hw hN ?_ (hk w' r1 r2)
 simp [execOp, hop, hm, hx, hv, hrun]
def LayPost (l : List Mem) (s : PS) (base d i : Nat) (W : World) (e : Ending) (W' : World) : Prop :=
 ((stepF l s i = none ∧ e = .returned (.bool false)) ∨ (∃ s' B', stepF l s i = some s' ∧ e = .returned (.bool true) ∧ DirS W' base d (i + 1) l s' B')) ∧ W.grownBy W' (some d)
theorem zeroThing (w : World) : (zeroValue 92).run Tryd.prog w = .ok (.pointer none) w := by kernel_rfl
theorem thing_cells {w : World} {b : Nat} {m : Mem} {v : Value} {ld : ByteArray} (h : w.heap[b]? = some (.cells (thingCells m v ld) 94 (0, 0))) :
  w.cell? ⟨b, 0, none⟩ = some (.int .u8 m.f2) ∧ w.cell? ⟨b, 1, none⟩ = some (.int .i64 m.f3.f0) ∧ w.cell? ⟨b, 2, none⟩ = some (.int .i64 m.f3.f1) ∧ w.cell? ⟨b, 3, none⟩ = some (.int .i64 m.f3.f2) ∧ w.cell? ⟨b, 4, none⟩ = some (.int .i64 m.f3.f3) ∧
   w.cell? ⟨b, 5, none⟩ = some (.string m.f1) ∧ w.cell? ⟨b, 6, none⟩ = some v ∧ w.cell? ⟨b, 7, none⟩ = some (.string ld) := by
 refine ⟨?_, ?_, ?_, ?_, ?_, ?_, ?_, ?_⟩ <;> · unfold World.cell?; dsimp only; rw [h]; rfl
set_option maxRecDepth 100000 in
set_option maxHeartbeats 4000000 in
theorem Lay_calls (base d i : Nat) (l : List Mem) (s : PS) (B : Nat → Nat) (x : Mem) (A : Option Addr) (c : Nat) (W : World) (hx : l[i]? = some x) (hlen : l.length ≤ 1000000000000) (hz : MemZ x) (hD : DirS W base d i l s B) (hI : FInv l i s) (hbase : base ≤ W.heap.size) (hC : Kd.C (Kd.int .u8) W A x.f4.length x.f4) :
  Calls Tryd.prog 46 #[.map (some d), .agg (memCells x (.slice A x.f4.length c))] W (LayPost l s base d i W) := by
 obtain ⟨hi, hxi⟩ := List.getElem?_eq_some_iff.1 hx
 have hst := stepF_eq l s i hi
 rw [hxi] at hst
 have hdlt : d < W.heap.size := hD.1.lt
 have hs0 : x.f0.size ≤ maxLen := by have := hz.1; unfold maxLen; omega
 have hs1 : x.f1.size ≤ maxLen := by have := hz.2.1; unfold maxLen; omega
 have hlook := fun o => (hD.1.alloc o).look_ok Tryd.underlying9 Tryd.underlying71 (zeroThing _) hs1
 have hBlt : ∀ c m, l[c]? = some m → c < i → ¬ m.f2 = 49 → B c < W.heap.size := fun c m h1 h2 h3 => (hD.2.1 c m h1 h2 h3).lt
 have HX := Aside0.mk hx
 have HZ := Aside0.mk hz
 have HD := Aside0.mk hD
 have HI := Aside0.mk hI
 have HC := Aside0.mk hC
 have HS := Aside0.mk hst
 have HBL := Aside0.mk hBlt
 have HLK := Aside0.mk hlook
 clear hx hxi hz hD hI hC hst hBlt hlook
 generalize hpost : LayPost l s base d i W = Q
 have hQ := Aside0.mk hpost
 clear hpost
 unfold memCells
 by_cases h49 : x.f2 = 49
 case neg =>
  have e49 : (x.f2 != 49) = true := bne_iff_ne.2 h49
  have H49 := Aside0.mk h49
  clear h49
  go_enter Tryd.func46, Tryd.ntmps46
  go_upto_region 2 with (fail)
  refine start_ (n := 15) (S := fun w' => w'.cell? ⟨W.heap.size, 0, none⟩ = some (.string x.f0) ∧ w'.cell? ⟨W.heap.size, 1, none⟩ = some (.string x.f1) ∧ w'.cell? ⟨W.heap.size, 2, none⟩ = some (.int .u8 x.f2) ∧ w'.cell? ⟨W.heap.size, 3, none⟩ = some (.int .i64 x.f3.f0) ∧ w'.cell? ⟨W.heap.size, 4, none⟩ = some (.int .i64 x.f3.f1) ∧ w'.cell? ⟨W.heap.size, 5, none⟩ = some (.int .i64 x.f3.f2) ∧ w'.cell? ⟨W.heap.size, 6, none⟩ = some (.int .i64 x.f3.f3) ∧ w'.cell? ⟨W.heap.size, 7, none⟩ = some (.slice A x.f4.length c)) (ds := [14]) #[false, false, false, false, false, false, false, false, false, false, false, false, false, false, false] (by kernel_rfl) rfl rfl ⟨by simp, by simp, by simp, by simp, by simp, by simp, by simp, by simp⟩ (fun hHeld => ?_)
  generalize hwq : (W.alloc (.cells #[.string x.f0, .string x.f1, .int .u8 x.f2, .int .i64 x.f3.f0, .int .i64 x.f3.f1, .int .i64 x.f3.f2, .int .i64 x.f3.f3, .slice A x.f4.length c] 45)).drew = wq at hHeld ⊢
  have hzq : W.heap.size + 1 = wq.heap.size := by rw [← hwq]; exact (World.size_alloc _ _).symm
  refine pure_ (i := 0) (N := some 10) (v := ?_) (a' := ?_) #[true, false, false, false, false, false, false, false, false, false, false, false, false, false, false] rfl rfl (by kernel_rfl) (fun _ _ _ h => h) (Or.inl ⟨by rfl, ?_⟩) ?_ ?_
  rotate_left
  ·intro w'
   go_simp
   with_reducible rfl
  rotate_left
  ·simp only [Act.put, List.setIfInBounds_toArray, List.set_cons_zero, List.set_cons_succ, i64_w, i32_w]
   rfl
  refine pure_ (i := 1) (N := some 11) (v := ?_) (a' := ?_) #[true, true, false, false, false, false, false, false, false, false, false, false, false, false, false] rfl rfl (by kernel_rfl) (fun _ _ _ h => h) (Or.inl ⟨by rfl, ?_⟩) ?_ ?_
  rotate_left
  ·intro w'
   go_simp
   with_reducible rfl
  rotate_left
  ·simp only [Act.put, List.setIfInBounds_toArray, List.set_cons_zero, List.set_cons_succ, i64_w, i32_w]
   rfl
  refine take_ (i := 2) (N := some 12) (v := ?_) (a' := ?_) #[true, true, true, false, false, false, false, false, false, false, false, false, false, false, false] rfl rfl (by kernel_rfl) (fun _ _ _ h => h) (Or.inl ⟨by rfl, ?_⟩) hHeld ?_ ?_
  rotate_left
  ·rintro w' ⟨s0, s1, s2, s3, s4, s5, s6, s7⟩
   go_simp
   with_reducible rfl
  rotate_left
  ·simp only [Act.put, List.setIfInBounds_toArray, List.set_cons_zero, List.set_cons_succ, i64_w, i32_w]
   rfl
  refine pure_ (i := 3) (N := some 13) (v := ?_) (a' := ?_) #[true, true, true, true, false, false, false, false, false, false, false, false, false, false, false] rfl rfl (by kernel_rfl) (fun _ _ _ h => h) (Or.inl ⟨by rfl, ?_⟩) ?_ ?_
  rotate_left
  ·intro w'
   go_simp
   with_reducible rfl
  rotate_left
  ·simp only [Act.put, List.setIfInBounds_toArray, List.set_cons_zero, List.set_cons_succ, i64_w, i32_w]
   rfl
  refine take_ (i := 4) (N := some 14) (v := ?_) (a' := ?_) #[true, true, true, true, true, false, false, false, false, false, false, false, false, false, false] rfl rfl (by kernel_rfl) (fun _ _ _ h => h) (Or.inl ⟨by rfl, ?_⟩) hHeld ?_ ?_
  rotate_left
  ·rintro w' ⟨s0, s1, s2, s3, s4, s5, s6, s7⟩
   go_simp
   with_reducible rfl
  rotate_left
  ·simp only [Act.put, List.setIfInBounds_toArray, List.set_cons_zero, List.set_cons_succ, i64_w, i32_w]
   rfl
  refine pure_ (i := 5) (N := some 15) (v := ?_) (a' := ?_) #[true, true, true, true, true, true, false, false, false, false, false, false, false, false, false] rfl rfl (by kernel_rfl) (fun _ _ _ h => h) (Or.inl ⟨by rfl, ?_⟩) ?_ ?_
  rotate_left
  ·intro w'
   go_simp
   with_reducible rfl
  rotate_left
  ·simp only [Act.put, List.setIfInBounds_toArray, List.set_cons_zero, List.set_cons_succ, i64_w, i32_w]
   rfl
  refine take_ (i := 6) (N := some 16) (v := ?_) (a' := ?_) #[true, true, true, true, true, true, true, false, false, false, false, false, false, false, false] rfl rfl (by kernel_rfl) (fun _ _ _ h => h) (Or.inl ⟨by rfl, ?_⟩) hHeld ?_ ?_
  rotate_left
  ·rintro w' ⟨s0, s1, s2, s3, s4, s5, s6, s7⟩
   go_simp
   with_reducible rfl
  rotate_left
  ·simp only [Act.put, List.setIfInBounds_toArray, List.set_cons_zero, List.set_cons_succ, i64_w, i32_w]
   rfl
  refine pure_ (i := 7) (N := some 17) (v := ?_) (a' := ?_) #[true, true, true, true, true, true, true, true, false, false, false, false, false, false, false] rfl rfl (by kernel_rfl) (fun _ _ _ h => h) (Or.inl ⟨by rfl, ?_⟩) ?_ ?_
  rotate_left
  ·intro w'
   go_simp
   with_reducible rfl
  rotate_left
  ·simp only [Act.put, List.setIfInBounds_toArray, List.set_cons_zero, List.set_cons_succ, i64_w, i32_w]
   rfl
  refine take_ (i := 8) (N := some 18) (v := ?_) (a' := ?_) #[true, true, true, true, true, true, true, true, true, false, false, false, false, false, false] rfl rfl (by kernel_rfl) (fun _ _ _ h => h) (Or.inl ⟨by rfl, ?_⟩) hHeld ?_ ?_
  rotate_left
  ·rintro w' ⟨s0, s1, s2, s3, s4, s5, s6, s7⟩
   go_simp
   with_reducible rfl
  rotate_left
  ·simp only [Act.put, List.setIfInBounds_toArray, List.set_cons_zero, List.set_cons_succ, i64_w, i32_w]
   rfl
  refine pure_ (i := 9) (N := some 19) (v := ?_) (a' := ?_) #[true, true, true, true, true, true, true, true, true, true, false, false, false, false, false] rfl rfl (by kernel_rfl) (fun _ _ _ h => h) (Or.inl ⟨by rfl, ?_⟩) ?_ ?_
  rotate_left
  ·intro w'
   go_simp
   with_reducible rfl
  rotate_left
  ·simp only [Act.put, List.setIfInBounds_toArray, List.set_cons_zero, List.set_cons_succ, i64_w, i32_w]
   rfl
  refine take_ (i := 10) (N := some 20) (v := ?_) (a' := ?_) #[true, true, true, true, true, true, true, true, true, true, true, false, false, false, false] rfl rfl (by kernel_rfl) (fun _ _ _ h => h) (Or.inl ⟨by rfl, ?_⟩) hHeld ?_ ?_
  rotate_left
  ·rintro w' ⟨s0, s1, s2, s3, s4, s5, s6, s7⟩
   go_simp
   with_reducible rfl
  rotate_left
  ·simp only [Act.put, List.setIfInBounds_toArray, List.set_cons_zero, List.set_cons_succ, i64_w, i32_w]
   rfl
  refine one_ (i := 11) (N := some 21) #[true, true, true, true, true, true, true, true, true, true, true, true, false, false, false] rfl rfl (by kernel_rfl) (by decide) (fun K hK => ?_)
  refine goes_ Tryd.func59 (by kernel_rfl) rfl #[.slice A x.f4.length c] (by rfl) rfl rfl (by first | rfl | (simp [Act.eval]; done)) ?_
  refine (Clone_calls A c x.f4 wq (by rw [← hwq]; exact Kd.C_drew (Kd.C_alloc HC.out _)) HZ.out.2.2).mono ?_
  rintro e w5 ⟨v, rfl, hR5, hb5⟩
  obtain ⟨Av, cv, rfl, hlv, hCv⟩ := Kd.R_reads hR5
  clear hlv hCv
  refine ⟨_, rfl, ?_⟩
  refine hK.out _ _ ⟨fkeep hb5 hHeld.1, fkeep hb5 hHeld.2.1, fkeep hb5 hHeld.2.2.1, fkeep hb5 hHeld.2.2.2.1, fkeep hb5 hHeld.2.2.2.2.1, fkeep hb5 hHeld.2.2.2.2.2.1, fkeep hb5 hHeld.2.2.2.2.2.2.1, fkeep hb5 hHeld.2.2.2.2.2.2.2⟩ (fun hHeld2 => ?_)
  clear hK K
  have HR5 := Aside0.mk hR5
  have HB5 := Aside0.mk hb5
  clear hR5
  refine norm_ (a' := ?_) ?_ ?_
  rotate_left
  ·show Act.put _ (some 21) _ = _
   simp only [Act.put, List.setIfInBounds_toArray, List.set_cons_zero, List.set_cons_succ, i64_w, i32_w]
   rfl
  refine pure_ (i := 12) (N := some 22) (v := ?_) (a' := ?_) #[true, true, true, true, true, true, true, true, true, true, true, true, true, false, false] rfl rfl (by kernel_rfl) (fun _ _ _ h => h) (Or.inl ⟨by rfl, ?_⟩) ?_ ?_
  rotate_left
  ·intro w'
   go_simp
   with_reducible rfl
  rotate_left
  ·simp only [Act.put, List.setIfInBounds_toArray, List.set_cons_zero, List.set_cons_succ, i64_w, i32_w]
   rfl
  refine one_ (i := 13) (N := some 23) #[true, true, true, true, true, true, true, true, true, true, true, true, true, true, false] rfl rfl (by kernel_rfl) (by decide) (fun K hK => ?_)
  refine value_ (w1 := ?_) (v := ?_) (by rfl) rfl ?_ ?_
  rotate_left 2
  ·go_simp
   constructor
   ·rfl
   ·rfl
  refine hK.out _ _ ⟨fcell hHeld2.1 _, fcell hHeld2.2.1 _, fcell hHeld2.2.2.1 _, fcell hHeld2.2.2.2.1 _, fcell hHeld2.2.2.2.2.1 _, fcell hHeld2.2.2.2.2.2.1 _, fcell hHeld2.2.2.2.2.2.2.1 _, fcell hHeld2.2.2.2.2.2.2.2 _⟩ (fun hHeld3 => ?_)
  clear hK K
  refine norm_ (a' := ?_) ?_ ?_
  rotate_left
  ·show Act.put _ (some 23) _ = _
   simp only [Act.put, List.setIfInBounds_toArray, List.set_cons_zero, List.set_cons_succ, i64_w, i32_w]
   rfl
  refine last_ (i := 14) (N := none) #[true, true, true, true, true, true, true, true, true, true, true, true, true, true, true] rfl rfl (by kernel_rfl) (by decide) (fun K hK => ?_)
  refine put_step (f := dirV B s) (b := d) (n := i) (s := x.f0) (((HD.out.below (show Below W.heap.size W wq from by rw [← hwq]; exact below_drew (below_alloc (Below.refl _ _) _))).below HB5.out).1.alloc _) (by rfl) rfl (.tmp 10) (.tmp 12) (.tmp 23) rfl Tryd.underlying9 Tryd.underlying71 (by unfold maxLen; omega) rfl rfl hs0 rfl ?_
  intro w6 hM6 hturn6
  refine hK.out _ _ ?_
  clear hK K
  have HM6 := Aside0.mk hM6
  have HG6 := Aside0.mk hturn6.grown
  clear hM6 hturn6 hHeld hHeld2 hHeld3 hb5
  refine done_ (by kernel_rfl) ?_
  go_wp2_with (fail)
  rw [← hQ.out]
  have hB1 : Below W.heap.size W w5 := ((show Below W.heap.size W wq from by rw [← hwq]; exact below_drew (below_alloc (Below.refl _ _) _))).trans (HB5.out.mono (by omega))
  refine ⟨.inr ⟨_, _, by rw [HS.out, if_neg H49.out], rfl, DirS.add ((HD.out.below hB1).below (below_alloc (Below.refl _ _) _)) HI.out HX.out (b := w5.heap.size) (fun c m h1 h2 h3 => by have := HBL.out c m h1 h2 h3; have := hB1.size; omega) ⟨by have := hB1.size; omega, _, blk_new _ _, Kd.R_lower (Kd.R_alloc HR5.out _) (by omega)⟩ HM6.out HG6.out⟩, ?_⟩
  exact World.grownBy.trans (grown_of_below (hB1.trans ((below_alloc (Below.refl _ _) _).mono hB1.size)) _) HG6.out
 case pos =>
  have e49 : (x.f2 != 49) = false := bne_eq_false_iff_eq.2 h49
  have hst2 := HS.out
  rw [if_pos h49] at hst2
  have H49 := Aside0.mk h49
  clear h49
  cases ha : atD s x.f1.data.toList with
  | none =>
   have hlook := fun o => HLK.out o
   rw [ha] at hst2
   have hdv : dirV B s x.f1.data.toList = none := by unfold dirV; rw [ha]; rfl
   simp only [hdv, Option.getD_none, Option.isSome_none] at hlook
   have HS2 := Aside0.mk hst2
   clear hdv ha hst2
   go_enter Tryd.func46, Tryd.ntmps46
   go_wp2
   rw [← hQ.out]
   exact ⟨.inl ⟨HS2.out, rfl⟩, grown_of_below (below_alloc (Below.refl _ _) _) _⟩
  | some k =>
   have hlook := fun o => HLK.out o
   rw [ha] at hst2
   have hdv : dirV B s x.f1.data.toList = some (.pointer (some ⟨B k, 0, none⟩)) := by unfold dirV; rw [ha]; rfl
   simp only [hdv, Option.getD_some, Option.isSome_some] at hlook
   obtain ⟨q, hq, _, rfl⟩ := atD_mem ha
   obtain ⟨hk, t, ht, ht49⟩ := HI.out.cls q hq
   dsimp only at hst2
   rw [ht] at hst2
   dsimp only at hst2
   obtain ⟨_, v, hblk, hR⟩ := HD.out.2.1 q.2 t ht hk ht49
   have hcell := fcell (thing_cells hblk).1
   have hbk := World.new_ne W ⟨B q.2, 0, none⟩ (thing_cells hblk).1
   have HHD := Aside0.mk hdv
   clear hdv ha hq hblk hR
   by_cases h48 : t.f2 = 48
   ·have e48 : (t.f2 != 48) = false := bne_eq_false_iff_eq.2 h48
    rw [if_pos h48] at hst2
    have HS2 := Aside0.mk hst2
    have HMA := Aside0.mk (fun o => HD.out.1.alloc o)
    have HDA := Aside0.mk (fun o => HD.out.below (below_alloc (Below.refl _ _) o))
    clear hst2 h48 ht ht49 hk
    go_enter Tryd.func46, Tryd.ntmps46
    go_wp2_with (at_mapUpdate; refine MapS.wpput (HMA.out _) rfl _ _ _ rfl Tryd.underlying9 Tryd.underlying71 (by unfold maxLen; omega) rfl rfl hs0 rfl ?_; intro w2 hM2 hturn; have HM2 := Aside0.mk hM2; have HG2 := Aside0.mk hturn.grown; clear hM2 hturn)
    rw [← hQ.out]
    exact ⟨.inr ⟨_, _, HS2.out, rfl, DirS.name (HDA.out _) HX.out H49.out HM2.out HG2.out⟩, World.grownBy.trans (grown_of_below (below_alloc (Below.refl _ _) _) _) HG2.out⟩
   ·have e48 : (t.f2 != 48) = true := bne_iff_ne.2 h48
    rw [if_neg h48] at hst2
    have HS2 := Aside0.mk hst2
    clear hst2 h48 ht ht49 hk
    go_enter Tryd.func46, Tryd.ntmps46
    go_wp2
    rw [← hQ.out]
    exact ⟨.inl ⟨HS2.out, rfl⟩, grown_of_below (below_alloc (Below.refl _ _) _) _⟩
end Go.Proofs.YtfljbidecljlcaaDoor

namespace Go.Proofs
open Go.Shelf
def Tryd.keys67_ren : Go.Shelf.Ren := ⟨fun | 7 => 67 | 10 => 77 | n => n, fun | 23 => 71 | 26 => 9 | 3 => 92 | 28 => 98 | 0 => 0 | 27 => 97 | 33 => 82 | 4 => 4 | n => n, fun | n => n⟩
theorem Tryd.keys67 : Go.Proofs.SlLaysZ.n7 Tryd.prog Tryd.keys67_ren := {
  mixed := by kernel_rfl
  f7 := ⟨Tryd.f67.name, by decide, Tryd.func67.trans (congrArg some (by kernel_rfl))⟩
  f10 := ⟨Tryd.f77.name, by decide, Tryd.func77.trans (congrArg some (by kernel_rfl))⟩
  t0 := Tryd.underlying0
  a0 := Tryd.isAgg0
  z0 := Tryd.sizeOf0
  v0 := Tryd.zeroValue0
  t4 := Tryd.underlying4
  a4 := Tryd.isAgg4
  z4 := Tryd.sizeOf4
  v4 := Tryd.zeroValue4
  t23 := Tryd.underlying71
  a23 := Tryd.isAgg71
  z23 := Tryd.sizeOf71
  v23 := Tryd.zeroValue71
  t26 := Tryd.underlying9
  a26 := Tryd.isAgg9
  z26 := Tryd.sizeOf9
  v26 := Tryd.zeroValue9
  t27 := Tryd.underlying97
  a27 := Tryd.isAgg97
  z27 := Tryd.sizeOf97
  v27 := Tryd.zeroValue97
  t28 := Tryd.underlying98
  a28 := Tryd.isAgg98
  z28 := Tryd.sizeOf98
  v28 := Tryd.zeroValue98
  t33 := Tryd.underlying82
  a33 := Tryd.isAgg82
  z33 := Tryd.sizeOf82
  v33 := Tryd.zeroValue82 }
def Tryd.sorted66_ren : Go.Shelf.Ren := ⟨fun | 6 => 66 | 8 => 75 | 9 => 76 | 11 => 84 | 13 => 86 | 12 => 85 | 23 => 103 | 24 => 104 | 14 => 94 | 15 => 95 | 16 => 96 | 17 => 97 | 18 => 98 | 19 => 99 | 20 => 100 | 21 => 101 | 22 => 102 | 25 => 110 | 26 => 111 | 27 => 112 | 28 => 113 | 29 => 114 | 30 => 115 | 31 => 123 | n => n, fun | 26 => 9 | 28 => 98 | 24 => 26 | 0 => 0 | 3 => 3 | 37 => 103 | 48 => 135 | 50 => 137 | 4 => 4 | 40 => 129 | 39 => 128 | 45 => 69 | 5 => 5 | 9 => 9 | 51 => 141 | 55 => 145 | 57 => 152 | 58 => 153 | 33 => 82 | n => n, fun | n => n⟩
theorem Tryd.sorted66 : Go.Proofs.SlLaysZ.n6 Tryd.prog Tryd.sorted66_ren := {
  mixed := by kernel_rfl
  f6 := ⟨Tryd.f66.name, by decide, Tryd.func66.trans (congrArg some (by kernel_rfl))⟩
  f8 := ⟨Tryd.f75.name, by decide, Tryd.func75.trans (congrArg some (by kernel_rfl))⟩
  f11 := ⟨Tryd.f84.name, by decide, Tryd.func84.trans (congrArg some (by kernel_rfl))⟩
  t0 := Tryd.underlying0
  a0 := Tryd.isAgg0
  z0 := Tryd.sizeOf0
  v0 := Tryd.zeroValue0
  t24 := Tryd.underlying26
  a24 := Tryd.isAgg26
  z24 := Tryd.sizeOf26
  v24 := Tryd.zeroValue26
  t26 := Tryd.underlying9
  a26 := Tryd.isAgg9
  z26 := Tryd.sizeOf9
  v26 := Tryd.zeroValue9
  t28 := Tryd.underlying98
  a28 := Tryd.isAgg98
  z28 := Tryd.sizeOf98
  v28 := Tryd.zeroValue98
  i26 := by kernel_rfl }
def Tryd.sort76_ren : Go.Shelf.Ren := ⟨fun | 6 => 76 | 8 => 86 | 9 => 85 | 19 => 103 | 20 => 104 | 21 => 94 | 22 => 95 | 23 => 96 | 24 => 97 | 25 => 98 | 26 => 99 | 27 => 100 | 28 => 101 | 29 => 102 | 36 => 110 | 31 => 111 | 32 => 112 | 37 => 113 | 38 => 114 | 39 => 115 | 41 => 123 | n => n, fun | 27 => 26 | 29 => 9 | 3 => 3 | 32 => 103 | 26 => 26 | 0 => 0 | 44 => 135 | 46 => 137 | 4 => 4 | 36 => 129 | 35 => 128 | 41 => 69 | 5 => 5 | 9 => 9 | 53 => 141 | 57 => 145 | 63 => 152 | 64 => 153 | n => n, fun | n => n⟩
theorem Tryd.sort76 : Go.Proofs.SlLaysM.n6 Tryd.prog Tryd.sort76_ren := {
  mixed := by kernel_rfl
  f6 := ⟨Tryd.f76.name, by decide, Tryd.func76.trans (congrArg some (by kernel_rfl))⟩
  f8 := Tryd.func86.trans (congrArg some (by kernel_rfl))
  f9 := ⟨Tryd.f85.name, by decide, Tryd.func85.trans (congrArg some (by kernel_rfl))⟩
  f19 := Tryd.func103.trans (congrArg some (by kernel_rfl))
  f20 := Tryd.func104.trans (congrArg some (by kernel_rfl))
  f21 := ⟨Tryd.f94.name, by decide, Tryd.func94.trans (congrArg some (by kernel_rfl))⟩
  f22 := ⟨Tryd.f95.name, by decide, Tryd.func95.trans (congrArg some (by kernel_rfl))⟩
  f23 := ⟨Tryd.f96.name, by decide, Tryd.func96.trans (congrArg some (by kernel_rfl))⟩
  f24 := ⟨Tryd.f97.name, by decide, Tryd.func97.trans (congrArg some (by kernel_rfl))⟩
  f25 := ⟨Tryd.f98.name, by decide, Tryd.func98.trans (congrArg some (by kernel_rfl))⟩
  f26 := ⟨Tryd.f99.name, by decide, Tryd.func99.trans (congrArg some (by kernel_rfl))⟩
  f27 := ⟨Tryd.f100.name, by decide, Tryd.func100.trans (congrArg some (by kernel_rfl))⟩
  f28 := ⟨Tryd.f101.name, by decide, Tryd.func101.trans (congrArg some (by kernel_rfl))⟩
  f29 := ⟨Tryd.f102.name, by decide, Tryd.func102.trans (congrArg some (by kernel_rfl))⟩
  f31 := Tryd.func111.trans (congrArg some (by kernel_rfl))
  f32 := Tryd.func112.trans (congrArg some (by kernel_rfl))
  f36 := ⟨Tryd.f110.name, by decide, Tryd.func110.trans (congrArg some (by kernel_rfl))⟩
  f37 := ⟨Tryd.f113.name, by decide, Tryd.func113.trans (congrArg some (by kernel_rfl))⟩
  f38 := ⟨Tryd.f114.name, by decide, Tryd.func114.trans (congrArg some (by kernel_rfl))⟩
  f39 := ⟨Tryd.f115.name, by decide, Tryd.func115.trans (congrArg some (by kernel_rfl))⟩
  f41 := ⟨Tryd.f123.name, by decide, Tryd.func123.trans (congrArg some (by kernel_rfl))⟩
  t0 := Tryd.underlying0
  a0 := Tryd.isAgg0
  z0 := Tryd.sizeOf0
  v0 := Tryd.zeroValue0
  t3 := Tryd.underlying3
  a3 := Tryd.isAgg3
  z3 := Tryd.sizeOf3
  v3 := Tryd.zeroValue3
  t4 := Tryd.underlying4
  a4 := Tryd.isAgg4
  z4 := Tryd.sizeOf4
  v4 := Tryd.zeroValue4
  t5 := Tryd.underlying5
  a5 := Tryd.isAgg5
  z5 := Tryd.sizeOf5
  v5 := Tryd.zeroValue5
  t9 := Tryd.underlying9
  a9 := Tryd.isAgg9
  z9 := Tryd.sizeOf9
  v9 := Tryd.zeroValue9
  t26 := Tryd.underlying26
  a26 := Tryd.isAgg26
  z26 := Tryd.sizeOf26
  v26 := Tryd.zeroValue26
  t27 := Tryd.underlying26
  a27 := Tryd.isAgg26
  z27 := Tryd.sizeOf26
  v27 := Tryd.zeroValue26
  t29 := Tryd.underlying9
  a29 := Tryd.isAgg9
  z29 := Tryd.sizeOf9
  v29 := Tryd.zeroValue9
  t32 := Tryd.underlying103
  a32 := Tryd.isAgg103
  z32 := Tryd.sizeOf103
  v32 := Tryd.zeroValue103
  t35 := Tryd.underlying128
  a35 := Tryd.isAgg128
  z35 := Tryd.sizeOf128
  v35 := Tryd.zeroValue128
  t36 := Tryd.underlying129
  a36 := Tryd.isAgg129
  z36 := Tryd.sizeOf129
  v36 := Tryd.zeroValue129
  t41 := Tryd.underlying69
  a41 := Tryd.isAgg69
  z41 := Tryd.sizeOf69
  v41 := Tryd.zeroValue69
  t44 := Tryd.underlying135
  a44 := Tryd.isAgg135
  z44 := Tryd.sizeOf135
  v44 := Tryd.zeroValue135
  t46 := Tryd.underlying137
  a46 := Tryd.isAgg137
  z46 := Tryd.sizeOf137
  v46 := Tryd.zeroValue137
  t53 := Tryd.underlying141
  a53 := Tryd.isAgg141
  z53 := Tryd.sizeOf141
  v53 := Tryd.zeroValue141
  t57 := Tryd.underlying145
  a57 := Tryd.isAgg145
  z57 := Tryd.sizeOf145
  v57 := Tryd.zeroValue145
  t63 := Tryd.underlying152
  a63 := Tryd.isAgg152
  z63 := Tryd.sizeOf152
  v63 := Tryd.zeroValue152
  t64 := Tryd.underlying153
  a64 := Tryd.isAgg153
  z64 := Tryd.sizeOf153
  v64 := Tryd.zeroValue153 }
open Go.RowKit Go.Maps Go.Sort
theorem Tryd.sorts66 (m : Nat) : AnyZ.SortsIn Tryd.prog Tryd.sorted66_ren Fence.wide m :=
  ⟨fun blk off cap ss W hH hblk hsz => callsIn_wide.2 (AnyM.slices_Sort_string Tryd.sort76 blk off cap ss W hH hblk hsz),
   fun p cap W => callsIn_wide.2 (AnyM.slices_Sort_string_none Tryd.sort76 p cap W)⟩
theorem Tryd.maps_Keys_67 (mb : Option Nat) (W : World) : CallsIn Fence.wide 5 Tryd.prog 67 #[.map mb] W fun e w' => e = .returned (.func (.func 77) #[] #[.pointer (some ⟨W.heap.size, 0, none⟩)]) ∧ w' = W.alloc (.cells #[.map mb] 71) :=
  AnyZ.keys_in Tryd.keys67 Fence.wide 5 trivial rfl mb W
set_option maxHeartbeats 1000000 in
theorem Tryd.slices_Sorted_keys_66_67 {H : Type} (b nn : Nat) (D0 : DataW H) (R : Value → Option (DataW H × List MemPlace)) (w : World) (hown : w.ownsMap Tryd.prog 9 R b nn D0) (hmax : Maps.size D0 ≤ maxLen) (hbytes : Maps.size D0 * 16 ≤ 140737488355328) :
    CallsIn Fence.wide 5 Tryd.prog 66 #[.func (.func 77) #[] #[.pointer (some ⟨w.heap.size, 0, none⟩)]] (w.alloc (.cells #[.map (some b)] 71)) fun e w' => ∃ (v : Value) (ss : List (List UInt8)), e = .returned v ∧ ss.Perm (strKeys D0) ∧
      w'.ownsRow (w.alloc (.cells #[.map (some b)] 71)).heap.size 9 1 v ss.length ((ss.mergeSort (fun x y => decide (x ≤ y))).map encStr) ∧ (v = .slice none 0 0 ↔ ss = []) ∧ Below (w.alloc (.cells #[.map (some b)] 71)).heap.size (w.alloc (.cells #[.map (some b)] 71)) w' := by
  have hbl := hown.lt
  have hseq : SeqGives Fence.wide 2 Tryd.prog 77 #[.pointer (some ⟨w.heap.size, 0, none⟩)] encStr (fun ss => ss.Perm (strKeys D0)) (Maps.size D0) (w.alloc (.cells #[.map (some b)] 71)) :=
    AnyZ.keys_gives (ρ := Tryd.keys67_ren) { Tryd.keys67 with } Fence.wide _ trivial rfl (by omega) w.heap.size b nn D0 _ (by simp) (by simp) (by
      obtain ⟨es, clock, hb, Ft, hs, hD⟩ := hown
      exact ⟨es, clock, (Below.heap_alloc _ _ b hbl).trans hb, Ft, hs, hD⟩)
  exact AnyZ.sorted_in Tryd.sorted66 Fence.wide 5 trivial trivial trivial trivial rfl (by omega) (Tryd.sorts66 _) (enters_of Tryd.func76 (by kernel_rfl) rfl) 77 #[.pointer (some ⟨w.heap.size, 0, none⟩)] trivial (enters_of Tryd.func77 (by kernel_rfl) rfl) _ _ hmax hbytes _ hseq
end Go.Proofs
