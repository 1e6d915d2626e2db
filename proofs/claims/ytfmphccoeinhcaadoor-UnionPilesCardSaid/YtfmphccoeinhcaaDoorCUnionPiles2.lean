/-
  Part of the proof that UnionPiles answers true: texts put together (wip/bundle.py).
-/
import Derived.Test.YtfmphccoeinhcaaDoorCUnionPiles1
import Derived.WalkKit
import Derived.LoopTactic
import Derived.WalkSpells
import Derived.Outline
import Derived.Deep.RegionHeld3
import Derived.Shelf.SlGeneric
import Derived.Shelf.SlIter.Nil
import Derived.Shelf.SortM.Plain
import Derived.Shelf.SortM.SortNone
import Derived.Ground.GgzProg
import Derived.Ground.SlgmProg
import Derived.Test.YtfmphccoeinhcaaDoorProg
import Derived.Laws.MakeOwn
import Derived.WideKeyPair
import Derived.Laws.Cover1
import Derived.Deep.LoopGhost
import Derived.Deep.DeepCutAuto
import Derived.IntWalk
namespace Go.Proofs.YtfmphccoeinhcaaDoor.Print
open Go.RowKit Go.Proofs.YtfmphccoeinhcaaDoorW.PrintWords Go.Proofs.YtfmphccoeinhcaaDoorW.PrintLast Go.Proofs.YtfmphccoeinhcaaDoorW.PrintMore
attribute [local go_sem] max2_int min2_int max_two min_two max_three min_three max_four min_four   -- for this text's walks alone
set_option linter.unusedVariables false
set_option linter.unusedSimpArgs false
def member_clean.f (a0 : ByteArray) : Option (Bool) := (path_Clean.f a0).bind fun bt891 => (if bt891.2 = 0 then (some (bt891.1.toList == a0.toList)) else (some false))
set_option maxHeartbeats 8000000 in
set_option maxRecDepth 100000 in
theorem member_clean.calls (a0 : ByteArray) (r : Bool) (w : World) (hT : Aside0 (Tabs w)) (h : member_clean.f a0 = some r) :
  Calls Tryd.prog 61 #[.string a0] w fun e w' => e = .returned (.bool r) ∧ Below w.heap.size w w' := by
 have HB := A0_ (Below.refl w.heap.size w)
 have H : ((path_Clean.f a0).bind fun bt891 => (if bt891.2 = 0 then (some (bt891.1.toList == a0.toList)) else (some false))) = some r := h
 clear h
 replace H := Option.bind_eq_some_iff.mp H
 obtain ⟨⟨t891, t892⟩, A20, H⟩ := H
 replace H : (if t892 = 0 then (some (t891.toList == a0.toList)) else (some false)) = some r := H
 have A2 := A0_ A20
 clear A20
 by_cases c3 : t892 = 0
 rotate_left
 ·rw [if_neg c3] at H
  have c3b0 : (t892 == 0) = false := beq_eq_false_iff_ne.mpr c3
  have c3b1 : (t892 != 0) = true := bne_iff_ne.mpr c3
  obtain rfl := Option.some.inj H
  go_enter Tryd.func61, Tryd.ntmps61
  go_wp2_with (first | ((with_reducible refine gate_callee (f := 74) rfl ?_); refine goesL_ (some 7) rfl rfl Tryd.func74 (by kernel_rfl) rfl #[.string a0] rfl wm_ ?_; (with_reducible refine (path_Clean.calls a0 t891 t892 _ ?side1 A2.out).mono ?_); (case side1 => exact A0_ (Tabs.below hT.out (wb_ HB.out))); rintro e w5 ⟨rfl, hb⟩; refine ⟨_, rfl, ?_⟩; have n0_ := A0_ (below_step (wb_ HB.out) hb); clear HB; have HB := n0_; clear n0_; (try clear hb); (try clear hb2); (try clear hk); (try clear hi)))
  go_ret
  exact ⟨we_, wb_ HB.out⟩
 rw [if_pos c3] at H
 have c3b0 : (t892 == 0) = true := beq_iff_eq.mpr c3
 have c3b1 : (t892 != 0) = false := bne_eq_false_iff_eq.mpr c3
 clear c3
 obtain rfl := Option.some.inj H
 go_enter Tryd.func61, Tryd.ntmps61
 go_wp2_with (first | ((with_reducible refine gate_callee (f := 74) rfl ?_); refine goesL_ (some 7) rfl rfl Tryd.func74 (by kernel_rfl) rfl #[.string a0] rfl wm_ ?_; (with_reducible refine (path_Clean.calls a0 t891 t892 _ ?side1 A2.out).mono ?_); (case side1 => exact A0_ (Tabs.below hT.out (wb_ HB.out))); rintro e w4 ⟨rfl, hb⟩; refine ⟨_, rfl, ?_⟩; have n0_ := A0_ (below_step (wb_ HB.out) hb); clear HB; have HB := n0_; clear n0_; (try clear hb); (try clear hb2); (try clear hk); (try clear hi)))
 go_ret
 exact ⟨we_, wb_ HB.out⟩
end Go.Proofs.YtfmphccoeinhcaaDoor.Print

namespace Go.Proofs.YtfmphccoeinhcaaDoor.Print
open Go.RowKit Go.Proofs.YtfmphccoeinhcaaDoorW.PrintWords Go.Proofs.YtfmphccoeinhcaaDoorW.PrintLast Go.Proofs.YtfmphccoeinhcaaDoorW.PrintMore
attribute [local go_sem] max2_int min2_int max_two min_two max_three min_three max_four min_four   -- for this text's walks alone
set_option linter.unusedVariables false
set_option linter.unusedSimpArgs false
def num_In.f (a0 : Int) (a1 : Int) (a2 : Int) : Option (Bool) := if a0 ≥ a1 then (some (decide (a0 ≤ a2))) else (some false)
set_option maxHeartbeats 8000000 in
set_option maxRecDepth 100000 in
theorem num_In.calls (a0 : Int) (a1 : Int) (a2 : Int) (r : Bool) (w : World) (h : num_In.f a0 a1 a2 = some r) :
  Calls Tryd.prog 75 #[.int .i64 a0, .int .i64 a1, .int .i64 a2] w fun e w' => e = .returned (.bool r) ∧ Drawn0 w w' := by
 have H : (if a0 ≥ a1 then (some (decide (a0 ≤ a2))) else (some false)) = some r := h
 clear h
 by_cases c4 : a0 ≥ a1
 ·rw [if_pos c4] at H
  have c4b0 : decide (a1 ≤ a0) = true := decide_eq_true c4
  clear c4
  obtain rfl := Option.some.inj H
  go_enter Tryd.func75, Tryd.ntmps75
  go_wp2
  go_ret
  exact ⟨by first | rfl | (simp; done) | (simp [*]; done), by repeat (first | exact Drawn0.refl _ | apply Drawn0.step)⟩
 rw [if_neg c4] at H
 have c4b0 : decide (a1 ≤ a0) = false := decide_eq_false c4
 clear c4
 obtain rfl := Option.some.inj H
 go_enter Tryd.func75, Tryd.ntmps75
 go_wp2
 go_ret
 exact ⟨by first | rfl | (simp; done) | (simp [*]; done), by repeat (first | exact Drawn0.refl _ | apply Drawn0.step)⟩
end Go.Proofs.YtfmphccoeinhcaaDoor.Print

namespace Go.Proofs.YtfmphccoeinhcaaDoor.Print
open Go.RowKit Go.Proofs.YtfmphccoeinhcaaDoorW.PrintWords Go.Proofs.YtfmphccoeinhcaaDoorW.PrintLast Go.Proofs.YtfmphccoeinhcaaDoorW.PrintMore
attribute [local go_sem] max2_int min2_int max_two min_two max_three min_three max_four min_four   -- for this text's walks alone
set_option linter.unusedVariables false
set_option linter.unusedSimpArgs false
def member_meta.f (a0_0 : Int) (a0_1 : Int) (a0_2 : Int) (a0_3 : Int) : Option (Bool) := (num_In.f a0_0 0 4095).bind fun t894 => (if t894 = true then ((num_In.f a0_1 0 2147483647).bind fun t895 => (if t895 = true then ((num_In.f a0_2 0 2147483647).bind fun t896 => (if t896 = true then ((num_In.f a0_3 0 1099511627776).bind fun t897 => (some t897)) else (some false))) else (some false))) else (some false))
set_option maxHeartbeats 8000000 in
set_option maxRecDepth 100000 in
theorem member_meta.calls (a0_0 : Int) (a0_1 : Int) (a0_2 : Int) (a0_3 : Int) (r : Bool) (w : World) (h : member_meta.f a0_0 a0_1 a0_2 a0_3 = some r) :
  Calls Tryd.prog 62 #[.agg #[.int .i64 a0_0, .int .i64 a0_1, .int .i64 a0_2, .int .i64 a0_3]] w fun e w' => e = .returned (.bool r) ∧ Below w.heap.size w w' := by
 have hu24 := Tryd.underlying24
 have HB := A0_ (Below.refl w.heap.size w)
 have H : ((num_In.f a0_0 0 4095).bind fun t894 => (if t894 = true then ((num_In.f a0_1 0 2147483647).bind fun t895 => (if t895 = true then ((num_In.f a0_2 0 2147483647).bind fun t896 => (if t896 = true then ((num_In.f a0_3 0 1099511627776).bind fun t897 => (some t897)) else (some false))) else (some false))) else (some false))) = some r := h
 clear h
 replace H := Option.bind_eq_some_iff.mp H
 obtain ⟨t894, A20, H⟩ := H
 replace H : (if t894 = true then ((num_In.f a0_1 0 2147483647).bind fun t895 => (if t895 = true then ((num_In.f a0_2 0 2147483647).bind fun t896 => (if t896 = true then ((num_In.f a0_3 0 1099511627776).bind fun t897 => (some t897)) else (some false))) else (some false))) else (some false)) = some r := H
 have A2 := A0_ A20
 clear A20
 by_cases c3 : t894 = true
 rotate_left
 ·replace c3 := Bool.eq_false_iff.mpr c3
  subst c3
  have H1 : (some false) = some r := by rw [if_neg (show ¬ (false = true) by decide)] at H; exact H
  clear H
  have H := H1
  clear H1
  obtain rfl := Option.some.inj H
  go_enter Tryd.func62, Tryd.ntmps62
  go_wp2_with (first | ((with_reducible refine gate_dst (N := 1) rfl ?_); refine box_event ?hg (N := 1) ?hd (cs := #[.int .i64 a0_0, .int .i64 a0_1, .int .i64 a0_2, .int .i64 a0_3]) (t := 24) ?hr ?_; (case hd => rfl); (case hg => rfl); (case hr => first | (go_simp; done) | (go_simp; rfl)); intro gb893 hg w15 hbox hb; have n0_ := A0_ (below_step (wb_ HB.out) hb); have n1_ := A0_ (hbox); have n2_ := A0_ ((by rw [hg]; exact (below_size (wb_ HB.out)) : w.heap.size ≤ gb893)); have n3_ := A0_ ((by rw [hg]; exact (below_size (wb_ HB.out)) : w.heap.size ≤ gb893)); clear HB; have HB := n0_; have BK893 := n1_; have GW893 := n2_; have GE893 := n3_; clear n0_ n1_ n2_ n3_; clear hb hbox hg; have hcz16_0 : w15.cell? ⟨gb893, 0, none⟩ = some (.int .i64 a0_0) := (bc_ BK893.out 0).trans rfl; have hcz16_1 : w15.cell? ⟨gb893, 1, none⟩ = some (.int .i64 a0_1) := (bc_ BK893.out 1).trans rfl; have hcz16_2 : w15.cell? ⟨gb893, 2, none⟩ = some (.int .i64 a0_2) := (bc_ BK893.out 2).trans rfl; have hcz16_3 : w15.cell? ⟨gb893, 3, none⟩ = some (.int .i64 a0_3) := (bc_ BK893.out 3).trans rfl; have hfz16_0 := bf_ BK893.out 0; have hfz16_1 := bf_ BK893.out 1; have hfz16_2 := bf_ BK893.out 2; have hfz16_3 := bf_ BK893.out 3) | ((with_reducible refine gate_callee (f := 75) rfl ?_); refine goesL_ (some 5) rfl rfl Tryd.func75 (by kernel_rfl) rfl #[.int .i64 a0_0, .int .i64 0, .int .i64 4095] rfl wm_ ?_; (with_reducible refine (num_In.calls a0_0 0 4095 false _ A2.out).mono ?_); rintro e w' ⟨rfl, ⟨nd, rfl⟩⟩; refine ⟨_, rfl, ?_⟩))
  go_ret
  exact ⟨we_, wb1_ HB.out GE893.out⟩
 subst c3
 have H1 : ((num_In.f a0_1 0 2147483647).bind fun t895 => (if t895 = true then ((num_In.f a0_2 0 2147483647).bind fun t896 => (if t896 = true then ((num_In.f a0_3 0 1099511627776).bind fun t897 => (some t897)) else (some false))) else (some false))) = some r := by rw [if_pos rfl] at H; exact H
 clear H
 have H := H1
 clear H1
 replace H := Option.bind_eq_some_iff.mp H
 obtain ⟨t895, A40, H⟩ := H
 replace H : (if t895 = true then ((num_In.f a0_2 0 2147483647).bind fun t896 => (if t896 = true then ((num_In.f a0_3 0 1099511627776).bind fun t897 => (some t897)) else (some false))) else (some false)) = some r := H
 have A4 := A0_ A40
 clear A40
 by_cases c5 : t895 = true
 rotate_left
 ·replace c5 := Bool.eq_false_iff.mpr c5
  subst c5
  have H1 : (some false) = some r := by rw [if_neg (show ¬ (false = true) by decide)] at H; exact H
  clear H
  have H := H1
  clear H1
  obtain rfl := Option.some.inj H
  go_enter Tryd.func62, Tryd.ntmps62
  go_wp2_with (first | ((with_reducible refine gate_dst (N := 1) rfl ?_); refine box_event ?hg (N := 1) ?hd (cs := #[.int .i64 a0_0, .int .i64 a0_1, .int .i64 a0_2, .int .i64 a0_3]) (t := 24) ?hr ?_; (case hd => rfl); (case hg => rfl); (case hr => first | (go_simp; done) | (go_simp; rfl)); intro gb893 hg w13 hbox hb; have n0_ := A0_ (below_step (wb_ HB.out) hb); have n1_ := A0_ (hbox); have n2_ := A0_ ((by rw [hg]; exact (below_size (wb_ HB.out)) : w.heap.size ≤ gb893)); have n3_ := A0_ ((by rw [hg]; exact (below_size (wb_ HB.out)) : w.heap.size ≤ gb893)); clear HB; have HB := n0_; have BK893 := n1_; have GW893 := n2_; have GE893 := n3_; clear n0_ n1_ n2_ n3_; clear hb hbox hg; have hcz14_0 : w13.cell? ⟨gb893, 0, none⟩ = some (.int .i64 a0_0) := (bc_ BK893.out 0).trans rfl; have hcz14_1 : w13.cell? ⟨gb893, 1, none⟩ = some (.int .i64 a0_1) := (bc_ BK893.out 1).trans rfl; have hcz14_2 : w13.cell? ⟨gb893, 2, none⟩ = some (.int .i64 a0_2) := (bc_ BK893.out 2).trans rfl; have hcz14_3 : w13.cell? ⟨gb893, 3, none⟩ = some (.int .i64 a0_3) := (bc_ BK893.out 3).trans rfl; have hfz14_0 := bf_ BK893.out 0; have hfz14_1 := bf_ BK893.out 1; have hfz14_2 := bf_ BK893.out 2; have hfz14_3 := bf_ BK893.out 3) | ((with_reducible refine gate_callee (f := 75) rfl ?_); refine goesL_ (some 5) rfl rfl Tryd.func75 (by kernel_rfl) rfl #[.int .i64 a0_0, .int .i64 0, .int .i64 4095] rfl wm_ ?_; (with_reducible refine (num_In.calls a0_0 0 4095 true _ A2.out).mono ?_); rintro e w' ⟨rfl, ⟨nd, rfl⟩⟩; refine ⟨_, rfl, ?_⟩) | (go_at_call 75; (with_reducible refine (num_In.calls a0_1 0 2147483647 false _ A4.out).mono ?_); rintro e w' ⟨rfl, ⟨nd, rfl⟩⟩))
  go_ret
  exact ⟨we_, wb1_ HB.out GE893.out⟩
 subst c5
 have H1 : ((num_In.f a0_2 0 2147483647).bind fun t896 => (if t896 = true then ((num_In.f a0_3 0 1099511627776).bind fun t897 => (some t897)) else (some false))) = some r := by rw [if_pos rfl] at H; exact H
 clear H
 have H := H1
 clear H1
 replace H := Option.bind_eq_some_iff.mp H
 obtain ⟨t896, A60, H⟩ := H
 replace H : (if t896 = true then ((num_In.f a0_3 0 1099511627776).bind fun t897 => (some t897)) else (some false)) = some r := H
 have A6 := A0_ A60
 clear A60
 by_cases c7 : t896 = true
 rotate_left
 ·replace c7 := Bool.eq_false_iff.mpr c7
  subst c7
  have H1 : (some false) = some r := by rw [if_neg (show ¬ (false = true) by decide)] at H; exact H
  clear H
  have H := H1
  clear H1
  obtain rfl := Option.some.inj H
  go_enter Tryd.func62, Tryd.ntmps62
  go_wp2_with (first | ((with_reducible refine gate_dst (N := 1) rfl ?_); refine box_event ?hg (N := 1) ?hd (cs := #[.int .i64 a0_0, .int .i64 a0_1, .int .i64 a0_2, .int .i64 a0_3]) (t := 24) ?hr ?_; (case hd => rfl); (case hg => rfl); (case hr => first | (go_simp; done) | (go_simp; rfl)); intro gb893 hg w11 hbox hb; have n0_ := A0_ (below_step (wb_ HB.out) hb); have n1_ := A0_ (hbox); have n2_ := A0_ ((by rw [hg]; exact (below_size (wb_ HB.out)) : w.heap.size ≤ gb893)); have n3_ := A0_ ((by rw [hg]; exact (below_size (wb_ HB.out)) : w.heap.size ≤ gb893)); clear HB; have HB := n0_; have BK893 := n1_; have GW893 := n2_; have GE893 := n3_; clear n0_ n1_ n2_ n3_; clear hb hbox hg; have hcz12_0 : w11.cell? ⟨gb893, 0, none⟩ = some (.int .i64 a0_0) := (bc_ BK893.out 0).trans rfl; have hcz12_1 : w11.cell? ⟨gb893, 1, none⟩ = some (.int .i64 a0_1) := (bc_ BK893.out 1).trans rfl; have hcz12_2 : w11.cell? ⟨gb893, 2, none⟩ = some (.int .i64 a0_2) := (bc_ BK893.out 2).trans rfl; have hcz12_3 : w11.cell? ⟨gb893, 3, none⟩ = some (.int .i64 a0_3) := (bc_ BK893.out 3).trans rfl; have hfz12_0 := bf_ BK893.out 0; have hfz12_1 := bf_ BK893.out 1; have hfz12_2 := bf_ BK893.out 2; have hfz12_3 := bf_ BK893.out 3) | ((with_reducible refine gate_callee (f := 75) rfl ?_); refine goesL_ (some 5) rfl rfl Tryd.func75 (by kernel_rfl) rfl #[.int .i64 a0_0, .int .i64 0, .int .i64 4095] rfl wm_ ?_; (with_reducible refine (num_In.calls a0_0 0 4095 true _ A2.out).mono ?_); rintro e w' ⟨rfl, ⟨nd, rfl⟩⟩; refine ⟨_, rfl, ?_⟩) | (go_at_call 75; (with_reducible refine (num_In.calls a0_1 0 2147483647 true _ A4.out).mono ?_); rintro e w' ⟨rfl, ⟨nd, rfl⟩⟩) | (go_at_call 75; (with_reducible refine (num_In.calls a0_2 0 2147483647 false _ A6.out).mono ?_); rintro e w' ⟨rfl, ⟨nd, rfl⟩⟩))
  go_ret
  exact ⟨we_, wb1_ HB.out GE893.out⟩
 subst c7
 have H1 : ((num_In.f a0_3 0 1099511627776).bind fun t897 => (some t897)) = some r := by rw [if_pos rfl] at H; exact H
 clear H
 have H := H1
 clear H1
 replace H := Option.bind_eq_some_iff.mp H
 obtain ⟨t897, A80, H⟩ := H
 replace H : (some t897) = some r := H
 have A8 := A0_ A80
 clear A80
 obtain rfl := Option.some.inj H
 go_enter Tryd.func62, Tryd.ntmps62
 go_wp2_with (first | ((with_reducible refine gate_dst (N := 1) rfl ?_); refine box_event ?hg (N := 1) ?hd (cs := #[.int .i64 a0_0, .int .i64 a0_1, .int .i64 a0_2, .int .i64 a0_3]) (t := 24) ?hr ?_; (case hd => rfl); (case hg => rfl); (case hr => first | (go_simp; done) | (go_simp; rfl)); intro gb893 hg w9 hbox hb; have n0_ := A0_ (below_step (wb_ HB.out) hb); have n1_ := A0_ (hbox); have n2_ := A0_ ((by rw [hg]; exact (below_size (wb_ HB.out)) : w.heap.size ≤ gb893)); have n3_ := A0_ ((by rw [hg]; exact (below_size (wb_ HB.out)) : w.heap.size ≤ gb893)); clear HB; have HB := n0_; have BK893 := n1_; have GW893 := n2_; have GE893 := n3_; clear n0_ n1_ n2_ n3_; clear hb hbox hg; have hcz10_0 : w9.cell? ⟨gb893, 0, none⟩ = some (.int .i64 a0_0) := (bc_ BK893.out 0).trans rfl; have hcz10_1 : w9.cell? ⟨gb893, 1, none⟩ = some (.int .i64 a0_1) := (bc_ BK893.out 1).trans rfl; have hcz10_2 : w9.cell? ⟨gb893, 2, none⟩ = some (.int .i64 a0_2) := (bc_ BK893.out 2).trans rfl; have hcz10_3 : w9.cell? ⟨gb893, 3, none⟩ = some (.int .i64 a0_3) := (bc_ BK893.out 3).trans rfl; have hfz10_0 := bf_ BK893.out 0; have hfz10_1 := bf_ BK893.out 1; have hfz10_2 := bf_ BK893.out 2; have hfz10_3 := bf_ BK893.out 3) | ((with_reducible refine gate_callee (f := 75) rfl ?_); refine goesL_ (some 5) rfl rfl Tryd.func75 (by kernel_rfl) rfl #[.int .i64 a0_0, .int .i64 0, .int .i64 4095] rfl wm_ ?_; (with_reducible refine (num_In.calls a0_0 0 4095 true _ A2.out).mono ?_); rintro e w' ⟨rfl, ⟨nd, rfl⟩⟩; refine ⟨_, rfl, ?_⟩) | (go_at_call 75; (with_reducible refine (num_In.calls a0_1 0 2147483647 true _ A4.out).mono ?_); rintro e w' ⟨rfl, ⟨nd, rfl⟩⟩) | (go_at_call 75; (with_reducible refine (num_In.calls a0_2 0 2147483647 true _ A6.out).mono ?_); rintro e w' ⟨rfl, ⟨nd, rfl⟩⟩) | (go_at_call 75; (with_reducible refine (num_In.calls a0_3 0 1099511627776 t897 _ A8.out).mono ?_); rintro e w' ⟨rfl, ⟨nd, rfl⟩⟩))
 go_ret
 exact ⟨we_, wb1_ HB.out GE893.out⟩
end Go.Proofs.YtfmphccoeinhcaaDoor.Print

namespace Go.Proofs.YtfmphccoeinhcaaDoor.Print
open Go.RowKit Go.Proofs.YtfmphccoeinhcaaDoorW.PrintWords Go.Proofs.YtfmphccoeinhcaaDoorW.PrintLast Go.Proofs.YtfmphccoeinhcaaDoorW.PrintMore
attribute [local go_sem] max2_int min2_int max_two min_two max_three min_three max_four min_four   -- for this text's walks alone
set_option linter.unusedVariables false
set_option linter.unusedSimpArgs false
def path_Target.f (a0 : ByteArray) : Option (Int) := (path_right.f a0).bind fun t898 => (if t898 = true then (if a0.toList = ([] : List UInt8) then (some 6) else (if (a0.size : Int) > 200 then (some 6) else (some 0))) else (some 9))
set_option maxHeartbeats 8000000 in
set_option maxRecDepth 100000 in
theorem path_Target.calls (a0 : ByteArray) (r : Int) (w : World) (hT : Aside0 (Tabs w)) (h : path_Target.f a0 = some r) :
  Calls Tryd.prog 63 #[.string a0] w fun e w' => e = .returned (.int .i64 r) ∧ Below w.heap.size w w' := by
 have HB := A0_ (Below.refl w.heap.size w)
 have H : ((path_right.f a0).bind fun t898 => (if t898 = true then (if a0.toList = ([] : List UInt8) then (some 6) else (if (a0.size : Int) > 200 then (some 6) else (some 0))) else (some 9))) = some r := h
 clear h
 replace H := Option.bind_eq_some_iff.mp H
 obtain ⟨t898, A20, H⟩ := H
 replace H : (if t898 = true then (if a0.toList = ([] : List UInt8) then (some 6) else (if (a0.size : Int) > 200 then (some 6) else (some 0))) else (some 9)) = some r := H
 have A2 := A0_ A20
 clear A20
 by_cases c3 : t898 = true
 rotate_left
 ·replace c3 := Bool.eq_false_iff.mpr c3
  subst c3
  have H1 : (some 9) = some r := by rw [if_neg (show ¬ (false = true) by decide)] at H; exact H
  clear H
  have H := H1
  clear H1
  obtain rfl := Option.some.inj H
  go_enter Tryd.func63, Tryd.ntmps63
  go_wp2_with (first | ((with_reducible refine gate_callee (f := 76) rfl ?_); refine goesL_ (some 5) rfl rfl Tryd.func76 (by kernel_rfl) rfl #[.string a0] rfl wm_ ?_; (with_reducible refine (path_right.calls a0 false _ ?side1 A2.out).mono ?_); (case side1 => exact A0_ (Tabs.below hT.out (wb_ HB.out))); rintro e w9 ⟨rfl, hb⟩; refine ⟨_, rfl, ?_⟩; have n0_ := A0_ (below_step (wb_ HB.out) hb); clear HB; have HB := n0_; clear n0_; (try clear hb); (try clear hb2); (try clear hk); (try clear hi)))
  go_ret
  exact ⟨we_, wb_ HB.out⟩
 subst c3
 have H1 : (if a0.toList = ([] : List UInt8) then (some 6) else (if (a0.size : Int) > 200 then (some 6) else (some 0))) = some r := by rw [if_pos rfl] at H; exact H
 clear H
 have H := H1
 clear H1
 by_cases c4 : a0.toList = ([] : List UInt8)
 ·rw [if_pos c4] at H
  have c4b0 : (a0.toList == ([] : List UInt8)) = true := beq_iff_eq.mpr c4
  have c4b1 : (a0.toList != ([] : List UInt8)) = false := bne_eq_false_iff_eq.mpr c4
  clear c4
  obtain rfl := Option.some.inj H
  go_enter Tryd.func63, Tryd.ntmps63
  go_wp2_with (first | ((with_reducible refine gate_callee (f := 76) rfl ?_); refine goesL_ (some 5) rfl rfl Tryd.func76 (by kernel_rfl) rfl #[.string a0] rfl wm_ ?_; (with_reducible refine (path_right.calls a0 true _ ?side1 A2.out).mono ?_); (case side1 => exact A0_ (Tabs.below hT.out (wb_ HB.out))); rintro e w5 ⟨rfl, hb⟩; refine ⟨_, rfl, ?_⟩; have n0_ := A0_ (below_step (wb_ HB.out) hb); clear HB; have HB := n0_; clear n0_; (try clear hb); (try clear hb2); (try clear hk); (try clear hi)))
  go_ret
  exact ⟨we_, wb_ HB.out⟩
 rw [if_neg c4] at H
 have c4b0 : (a0.toList == ([] : List UInt8)) = false := beq_eq_false_iff_ne.mpr c4
 have c4b1 : (a0.toList != ([] : List UInt8)) = true := bne_iff_ne.mpr c4
 by_cases c6 : (a0.size : Int) > 200
 ·rw [if_pos c6] at H
  have c6b0 : decide (200 < (a0.size : Int)) = true := decide_eq_true c6
  have c6b1 : decide (200 < a0.size) = true := decide_eq_true (by omega)
  clear c6
  obtain rfl := Option.some.inj H
  go_enter Tryd.func63, Tryd.ntmps63
  go_wp2_with (first | ((with_reducible refine gate_callee (f := 76) rfl ?_); refine goesL_ (some 5) rfl rfl Tryd.func76 (by kernel_rfl) rfl #[.string a0] rfl wm_ ?_; (with_reducible refine (path_right.calls a0 true _ ?side1 A2.out).mono ?_); (case side1 => exact A0_ (Tabs.below hT.out (wb_ HB.out))); rintro e w7 ⟨rfl, hb⟩; refine ⟨_, rfl, ?_⟩; have n0_ := A0_ (below_step (wb_ HB.out) hb); clear HB; have HB := n0_; clear n0_; (try clear hb); (try clear hb2); (try clear hk); (try clear hi)))
  go_ret
  exact ⟨we_, wb_ HB.out⟩
 rw [if_neg c6] at H
 have c6b0 : decide (200 < (a0.size : Int)) = false := decide_eq_false c6
 have c6b1 : decide (200 < a0.size) = false := decide_eq_false (by omega)
 clear c6
 obtain rfl := Option.some.inj H
 go_enter Tryd.func63, Tryd.ntmps63
 go_wp2_with (first | ((with_reducible refine gate_callee (f := 76) rfl ?_); refine goesL_ (some 5) rfl rfl Tryd.func76 (by kernel_rfl) rfl #[.string a0] rfl wm_ ?_; (with_reducible refine (path_right.calls a0 true _ ?side1 A2.out).mono ?_); (case side1 => exact A0_ (Tabs.below hT.out (wb_ HB.out))); rintro e w8 ⟨rfl, hb⟩; refine ⟨_, rfl, ?_⟩; have n0_ := A0_ (below_step (wb_ HB.out) hb); clear HB; have HB := n0_; clear n0_; (try clear hb); (try clear hb2); (try clear hk); (try clear hi)))
 go_ret
 exact ⟨we_, wb_ HB.out⟩
end Go.Proofs.YtfmphccoeinhcaaDoor.Print

namespace Go.Proofs.YtfmphccoeinhcaaDoor.Print
open Go.RowKit Go.Proofs.YtfmphccoeinhcaaDoorW.PrintWords Go.Proofs.YtfmphccoeinhcaaDoorW.PrintLast Go.Proofs.YtfmphccoeinhcaaDoorW.PrintMore
attribute [local go_sem] max2_int min2_int max_two min_two max_three min_three max_four min_four   -- for this text's walks alone
set_option linter.unusedVariables false
set_option linter.unusedSimpArgs false
mutual
def member_Good.j0 : Nat → Bool → ByteArray → ByteArray → Int → Int → Int → Int → Int → List Int → Option (Bool)
 | 0, _, _, _, _, _, _, _, _, _ => none
 | k + 1, x29, x900000, x900001, x900002, x900003, x900004, x900005, x900006, x900007 => if x29 = true then (some false) else (if x900002 = 48 then (member_Good.j1 k x900002 (x900002 == 48) x900000 x900001 x900002 x900003 x900004 x900005 x900006 x900007) else (member_Good.j1 k x900002 (x900002 == 53) x900000 x900001 x900002 x900003 x900004 x900005 x900006 x900007))
def member_Good.j1 : Nat → Int → Bool → ByteArray → ByteArray → Int → Int → Int → Int → Int → List Int → Option (Bool)
 | 0, _, _, _, _, _, _, _, _, _, _ => none
 | k + 1, x31, x32, x900000, x900001, x900002, x900003, x900004, x900005, x900006, x900007 => if x32 = true then (some (x900001.toList == ([] : List UInt8))) else (if x31 = 49 then ((member_clean.f x900001).bind fun t902 => (some t902)) else (if x31 = 50 then ((path_Target.f x900001).bind fun t903 => (some (t903 == 0))) else (some false)))
end
def member_Good.f (k : Nat) (a0_0 : ByteArray) (a0_1 : ByteArray) (a0_2 : Int) (a0_3 : Int) (a0_4 : Int) (a0_5 : Int) (a0_6 : Int) (l0_7 : List Int) : Option (Bool) := (member_clean.f a0_0).bind fun t900 => (if t900 = true then ((member_meta.f a0_3 a0_4 a0_5 a0_6).bind fun t901 => (if t901 = true then (if (l0_7.length : Int) > 1048576 then (member_Good.j0 k true a0_0 a0_1 a0_2 a0_3 a0_4 a0_5 a0_6 l0_7) else (if a0_2 = 48 then (member_Good.j0 k false a0_0 a0_1 a0_2 a0_3 a0_4 a0_5 a0_6 l0_7) else (member_Good.j0 k (decide ((l0_7.length : Int) > 0)) a0_0 a0_1 a0_2 a0_3 a0_4 a0_5 a0_6 l0_7))) else (member_Good.j0 k true a0_0 a0_1 a0_2 a0_3 a0_4 a0_5 a0_6 l0_7))) else (member_Good.j0 k true a0_0 a0_1 a0_2 a0_3 a0_4 a0_5 a0_6 l0_7))
set_option maxHeartbeats 8000000 in
set_option maxRecDepth 100000 in
theorem member_Good.calls (k : Nat) (a0_0 : ByteArray) (a0_1 : ByteArray) (a0_2 : Int) (a0_3 : Int) (a0_4 : Int) (a0_5 : Int) (a0_6 : Int) (A0_7 : Option Addr) (c0_7 : Nat) (l0_7 : List Int) (r : Bool) (w : World) (hT : Aside0 (Tabs w)) (hr0_7 : Kd.C (Kd.int .u8) w A0_7 l0_7.length l0_7) (hc0_7 : l0_7.length ≤ c0_7) (h : member_Good.f k a0_0 a0_1 a0_2 a0_3 a0_4 a0_5 a0_6 l0_7 = some r) :
  Calls Tryd.prog 45 #[.agg #[.string a0_0, .string a0_1, .int .u8 a0_2, .int .i64 a0_3, .int .i64 a0_4, .int .i64 a0_5, .int .i64 a0_6, .slice A0_7 l0_7.length c0_7]] w fun e w' => e = .returned (.bool r) ∧ Below w.heap.size w w' := by
 have hu27 := Tryd.underlying27
 have hu24 := Tryd.underlying24
 have HR0_7 := A0_ hr0_7
 have HC0_7 := A0_ hc0_7
 clear hr0_7 hc0_7
 have HB := A0_ (Below.refl w.heap.size w)
 have H : ((member_clean.f a0_0).bind fun t900 => (if t900 = true then ((member_meta.f a0_3 a0_4 a0_5 a0_6).bind fun t901 => (if t901 = true then (if (l0_7.length : Int) > 1048576 then (member_Good.j0 k true a0_0 a0_1 a0_2 a0_3 a0_4 a0_5 a0_6 l0_7) else (if a0_2 = 48 then (member_Good.j0 k false a0_0 a0_1 a0_2 a0_3 a0_4 a0_5 a0_6 l0_7) else (member_Good.j0 k (decide ((l0_7.length : Int) > 0)) a0_0 a0_1 a0_2 a0_3 a0_4 a0_5 a0_6 l0_7))) else (member_Good.j0 k true a0_0 a0_1 a0_2 a0_3 a0_4 a0_5 a0_6 l0_7))) else (member_Good.j0 k true a0_0 a0_1 a0_2 a0_3 a0_4 a0_5 a0_6 l0_7))) = some r := h
 clear h
 have HC2 := A0_ H
 clear H
 go_enter Tryd.func45, Tryd.ntmps45
 go_upto_region 1 with (first | ((with_reducible refine gate_dst (N := 1) rfl ?_); (try (refine gate_guard (by rfl) ?_; dsimp only)); refine box_event ?hg (N := 1) ?hd (cs := #[.string a0_0, .string a0_1, .int .u8 a0_2, .int .i64 a0_3, .int .i64 a0_4, .int .i64 a0_5, .int .i64 a0_6, .slice A0_7 l0_7.length c0_7]) (t := 27) ?hr ?_; (case hd => rfl); (case hg => rfl); (case hr => first | (go_simp; done) | (go_simp; rfl)); intro gb899 hg w3 hbox hb; have n0_ := A0_ (below_step (wb_ HB.out) hb); have n1_ := A0_ (hbox); have n2_ := A0_ ((by rw [hg]; exact (below_size (wb_ HB.out)) : w.heap.size ≤ gb899)); have n3_ := A0_ ((by rw [hg]; exact (below_size (wb_ HB.out)) : w.heap.size ≤ gb899)); clear HB; have HB := n0_; have BK899 := n1_; have GW899 := n2_; have GE899 := n3_; clear n0_ n1_ n2_ n3_; clear hb hbox hg))
 (try simp only [Act.put, List.setIfInBounds_toArray, List.set_cons_zero, List.set_cons_succ])
 go_cut [29] (fun v29 wc => ∃ (kq : Nat) (x29_1 : Bool), v29 = .bool x29_1 ∧ Aside0 (member_Good.j0 kq x29_1 a0_0 a0_1 a0_2 a0_3 a0_4 a0_5 a0_6 l0_7 = some r) ∧ Aside0 (kq ≤ k) ∧ Aside0 (wc.heap[gb899]? = some (.cells #[.string a0_0, .string a0_1, .int .u8 a0_2, .int .i64 a0_3, .int .i64 a0_4, .int .i64 a0_5, .int .i64 a0_6, (.slice A0_7 l0_7.length c0_7)] 27 (0, 0))) ∧ Aside0 (Below w.heap.size w wc))
 case first =>
  have H := HC2.out
  clear HC2
  replace H := Option.bind_eq_some_iff.mp H
  obtain ⟨t900, A40, H⟩ := H
  replace H : (if t900 = true then ((member_meta.f a0_3 a0_4 a0_5 a0_6).bind fun t901 => (if t901 = true then (if (l0_7.length : Int) > 1048576 then (member_Good.j0 k true a0_0 a0_1 a0_2 a0_3 a0_4 a0_5 a0_6 l0_7) else (if a0_2 = 48 then (member_Good.j0 k false a0_0 a0_1 a0_2 a0_3 a0_4 a0_5 a0_6 l0_7) else (member_Good.j0 k (decide ((l0_7.length : Int) > 0)) a0_0 a0_1 a0_2 a0_3 a0_4 a0_5 a0_6 l0_7))) else (member_Good.j0 k true a0_0 a0_1 a0_2 a0_3 a0_4 a0_5 a0_6 l0_7))) else (member_Good.j0 k true a0_0 a0_1 a0_2 a0_3 a0_4 a0_5 a0_6 l0_7)) = some r := H
  have A4 := A0_ A40
  clear A40
  by_cases c5 : t900 = true
  rotate_left
  ·replace c5 := Bool.eq_false_iff.mpr c5
   subst c5
   have H1 : (member_Good.j0 k true a0_0 a0_1 a0_2 a0_3 a0_4 a0_5 a0_6 l0_7) = some r := by rw [if_neg (show ¬ (false = true) by decide)] at H; exact H
   clear H
   have H := H1
   clear H1
   have H' := A0_ H
   clear H
   have hcz29_0 : w3.cell? ⟨gb899, 0, none⟩ = some (.string a0_0) := (bc_ BK899.out 0).trans rfl
   have hcz29_1 : w3.cell? ⟨gb899, 1, none⟩ = some (.string a0_1) := (bc_ BK899.out 1).trans rfl
   have hcz29_2 : w3.cell? ⟨gb899, 2, none⟩ = some (.int .u8 a0_2) := (bc_ BK899.out 2).trans rfl
   have hcz29_3 : w3.cell? ⟨gb899, 3, none⟩ = some (.int .i64 a0_3) := (bc_ BK899.out 3).trans rfl
   have hcz29_4 : w3.cell? ⟨gb899, 4, none⟩ = some (.int .i64 a0_4) := (bc_ BK899.out 4).trans rfl
   have hcz29_5 : w3.cell? ⟨gb899, 5, none⟩ = some (.int .i64 a0_5) := (bc_ BK899.out 5).trans rfl
   have hcz29_6 : w3.cell? ⟨gb899, 6, none⟩ = some (.int .i64 a0_6) := (bc_ BK899.out 6).trans rfl
   have hcz29_7 : w3.cell? ⟨gb899, 7, none⟩ = some (.slice A0_7 l0_7.length c0_7) := (bc_ BK899.out 7).trans rfl
   have hfz29_0 := bf_ BK899.out 0
   have hfz29_1 := bf_ BK899.out 1
   have hfz29_2 := bf_ BK899.out 2
   have hfz29_3 := bf_ BK899.out 3
   have hfz29_4 := bf_ BK899.out 4
   have hfz29_5 := bf_ BK899.out 5
   have hfz29_6 := bf_ BK899.out 6
   have hfz29_7 := bf_ BK899.out 7
   go_wp2_with (first | ((with_reducible refine gate_callee (f := 61) rfl ?_); refine goesL_ (some 5) rfl rfl Tryd.func61 (by kernel_rfl) rfl #[.string a0_0] rfl wm_ ?_; (with_reducible refine (member_clean.calls a0_0 false _ ?side1 A4.out).mono ?_); (case side1 => exact A0_ (Tabs.below hT.out (wb1_ HB.out GE899.out))); rintro e w30 ⟨rfl, hb⟩; refine ⟨_, rfl, ?_⟩; have n0_ := A0_ (blk_below (g := gb899) (o := .cells #[.string a0_0, .string a0_1, .int .u8 a0_2, .int .i64 a0_3, .int .i64 a0_4, .int .i64 a0_5, .int .i64 a0_6, .slice A0_7 l0_7.length c0_7] 27 (0, 0)) (wB_ BK899.out) hb); have n1_ := A0_ (below_step (wb1_ HB.out GE899.out) hb); clear BK899; clear HB; have BK899 := n0_; have HB := n1_; clear n0_ n1_; (try clear hb); (try clear hb2); (try clear hk); (try clear hi)))
   go_meet
   case rel => exact ⟨_, (true), wr_, H', ⟨by first | omega | exact Nat.le_refl _⟩, ⟨wB_ BK899.out⟩, ⟨wb1_ HB.out GE899.out⟩⟩
  subst c5
  have H1 : ((member_meta.f a0_3 a0_4 a0_5 a0_6).bind fun t901 => (if t901 = true then (if (l0_7.length : Int) > 1048576 then (member_Good.j0 k true a0_0 a0_1 a0_2 a0_3 a0_4 a0_5 a0_6 l0_7) else (if a0_2 = 48 then (member_Good.j0 k false a0_0 a0_1 a0_2 a0_3 a0_4 a0_5 a0_6 l0_7) else (member_Good.j0 k (decide ((l0_7.length : Int) > 0)) a0_0 a0_1 a0_2 a0_3 a0_4 a0_5 a0_6 l0_7))) else (member_Good.j0 k true a0_0 a0_1 a0_2 a0_3 a0_4 a0_5 a0_6 l0_7))) = some r := by rw [if_pos rfl] at H; exact H
  clear H
  have H := H1
  clear H1
  replace H := Option.bind_eq_some_iff.mp H
  obtain ⟨t901, A60, H⟩ := H
  replace H : (if t901 = true then (if (l0_7.length : Int) > 1048576 then (member_Good.j0 k true a0_0 a0_1 a0_2 a0_3 a0_4 a0_5 a0_6 l0_7) else (if a0_2 = 48 then (member_Good.j0 k false a0_0 a0_1 a0_2 a0_3 a0_4 a0_5 a0_6 l0_7) else (member_Good.j0 k (decide ((l0_7.length : Int) > 0)) a0_0 a0_1 a0_2 a0_3 a0_4 a0_5 a0_6 l0_7))) else (member_Good.j0 k true a0_0 a0_1 a0_2 a0_3 a0_4 a0_5 a0_6 l0_7)) = some r := H
  have A6 := A0_ A60
  clear A60
  by_cases c7 : t901 = true
  rotate_left
  ·replace c7 := Bool.eq_false_iff.mpr c7
   subst c7
   have H1 : (member_Good.j0 k true a0_0 a0_1 a0_2 a0_3 a0_4 a0_5 a0_6 l0_7) = some r := by rw [if_neg (show ¬ (false = true) by decide)] at H; exact H
   clear H
   have H := H1
   clear H1
   have H' := A0_ H
   clear H
   have hcz25_0 : w3.cell? ⟨gb899, 0, none⟩ = some (.string a0_0) := (bc_ BK899.out 0).trans rfl
   have hcz25_1 : w3.cell? ⟨gb899, 1, none⟩ = some (.string a0_1) := (bc_ BK899.out 1).trans rfl
   have hcz25_2 : w3.cell? ⟨gb899, 2, none⟩ = some (.int .u8 a0_2) := (bc_ BK899.out 2).trans rfl
   have hcz25_3 : w3.cell? ⟨gb899, 3, none⟩ = some (.int .i64 a0_3) := (bc_ BK899.out 3).trans rfl
   have hcz25_4 : w3.cell? ⟨gb899, 4, none⟩ = some (.int .i64 a0_4) := (bc_ BK899.out 4).trans rfl
   have hcz25_5 : w3.cell? ⟨gb899, 5, none⟩ = some (.int .i64 a0_5) := (bc_ BK899.out 5).trans rfl
   have hcz25_6 : w3.cell? ⟨gb899, 6, none⟩ = some (.int .i64 a0_6) := (bc_ BK899.out 6).trans rfl
   have hcz25_7 : w3.cell? ⟨gb899, 7, none⟩ = some (.slice A0_7 l0_7.length c0_7) := (bc_ BK899.out 7).trans rfl
   have hfz25_0 := bf_ BK899.out 0
   have hfz25_1 := bf_ BK899.out 1
   have hfz25_2 := bf_ BK899.out 2
   have hfz25_3 := bf_ BK899.out 3
   have hfz25_4 := bf_ BK899.out 4
   have hfz25_5 := bf_ BK899.out 5
   have hfz25_6 := bf_ BK899.out 6
   have hfz25_7 := bf_ BK899.out 7
   go_wp2_with (first | ((with_reducible refine gate_callee (f := 61) rfl ?_); refine goesL_ (some 5) rfl rfl Tryd.func61 (by kernel_rfl) rfl #[.string a0_0] rfl wm_ ?_; (with_reducible refine (member_clean.calls a0_0 true _ ?side1 A4.out).mono ?_); (case side1 => exact A0_ (Tabs.below hT.out (wb1_ HB.out GE899.out))); rintro e w26 ⟨rfl, hb⟩; refine ⟨_, rfl, ?_⟩; have n0_ := A0_ (blk_below (g := gb899) (o := .cells #[.string a0_0, .string a0_1, .int .u8 a0_2, .int .i64 a0_3, .int .i64 a0_4, .int .i64 a0_5, .int .i64 a0_6, .slice A0_7 l0_7.length c0_7] 27 (0, 0)) (wB_ BK899.out) hb); have n1_ := A0_ (below_step (wb1_ HB.out GE899.out) hb); clear BK899; clear HB; have BK899 := n0_; have HB := n1_; clear n0_ n1_; (try clear hb); (try clear hb2); (try clear hk); (try clear hi); have hcz27_0 : w26.cell? ⟨gb899, 0, none⟩ = some (.string a0_0) := (bc_ BK899.out 0).trans rfl; have hcz27_1 : w26.cell? ⟨gb899, 1, none⟩ = some (.string a0_1) := (bc_ BK899.out 1).trans rfl; have hcz27_2 : w26.cell? ⟨gb899, 2, none⟩ = some (.int .u8 a0_2) := (bc_ BK899.out 2).trans rfl; have hcz27_3 : w26.cell? ⟨gb899, 3, none⟩ = some (.int .i64 a0_3) := (bc_ BK899.out 3).trans rfl; have hcz27_4 : w26.cell? ⟨gb899, 4, none⟩ = some (.int .i64 a0_4) := (bc_ BK899.out 4).trans rfl; have hcz27_5 : w26.cell? ⟨gb899, 5, none⟩ = some (.int .i64 a0_5) := (bc_ BK899.out 5).trans rfl; have hcz27_6 : w26.cell? ⟨gb899, 6, none⟩ = some (.int .i64 a0_6) := (bc_ BK899.out 6).trans rfl; have hcz27_7 : w26.cell? ⟨gb899, 7, none⟩ = some (.slice A0_7 l0_7.length c0_7) := (bc_ BK899.out 7).trans rfl; have hfz27_0 := bf_ BK899.out 0; have hfz27_1 := bf_ BK899.out 1; have hfz27_2 := bf_ BK899.out 2; have hfz27_3 := bf_ BK899.out 3; have hfz27_4 := bf_ BK899.out 4; have hfz27_5 := bf_ BK899.out 5; have hfz27_6 := bf_ BK899.out 6; have hfz27_7 := bf_ BK899.out 7) | (go_at_call 62; (with_reducible refine (member_meta.calls a0_3 a0_4 a0_5 a0_6 false _ A6.out).mono ?_); rintro e w28 ⟨rfl, hb⟩; have n0_ := A0_ (blk_below (g := gb899) (o := .cells #[.string a0_0, .string a0_1, .int .u8 a0_2, .int .i64 a0_3, .int .i64 a0_4, .int .i64 a0_5, .int .i64 a0_6, .slice A0_7 l0_7.length c0_7] 27 (0, 0)) (wB_ BK899.out) hb); have n1_ := A0_ (below_step (wb1_ HB.out GE899.out) hb); clear BK899; clear HB; have BK899 := n0_; have HB := n1_; clear n0_ n1_; (try clear hb); (try clear hb2); (try clear hk); (try clear hi)))
   go_meet
   case rel => exact ⟨_, (true), wr_, H', ⟨by first | omega | exact Nat.le_refl _⟩, ⟨wB_ BK899.out⟩, ⟨wb1_ HB.out GE899.out⟩⟩
  subst c7
  have H1 : (if (l0_7.length : Int) > 1048576 then (member_Good.j0 k true a0_0 a0_1 a0_2 a0_3 a0_4 a0_5 a0_6 l0_7) else (if a0_2 = 48 then (member_Good.j0 k false a0_0 a0_1 a0_2 a0_3 a0_4 a0_5 a0_6 l0_7) else (member_Good.j0 k (decide ((l0_7.length : Int) > 0)) a0_0 a0_1 a0_2 a0_3 a0_4 a0_5 a0_6 l0_7))) = some r := by rw [if_pos rfl] at H; exact H
  clear H
  have H := H1
  clear H1
  by_cases c8 : (l0_7.length : Int) > 1048576
  ·rw [if_pos c8] at H
   have c8b0 : decide (1048576 < (l0_7.length : Int)) = true := decide_eq_true c8
   have c8b1 : decide (1048576 < l0_7.length) = true := decide_eq_true (by omega)
   clear c8
   (first | rw [c8b0] | (simp only [i64_w, i32_w]; rw [c8b0]) | skip)
   have H' := A0_ H
   clear H
   have hcz9_0 : w3.cell? ⟨gb899, 0, none⟩ = some (.string a0_0) := (bc_ BK899.out 0).trans rfl
   have hcz9_1 : w3.cell? ⟨gb899, 1, none⟩ = some (.string a0_1) := (bc_ BK899.out 1).trans rfl
   have hcz9_2 : w3.cell? ⟨gb899, 2, none⟩ = some (.int .u8 a0_2) := (bc_ BK899.out 2).trans rfl
   have hcz9_3 : w3.cell? ⟨gb899, 3, none⟩ = some (.int .i64 a0_3) := (bc_ BK899.out 3).trans rfl
   have hcz9_4 : w3.cell? ⟨gb899, 4, none⟩ = some (.int .i64 a0_4) := (bc_ BK899.out 4).trans rfl
   have hcz9_5 : w3.cell? ⟨gb899, 5, none⟩ = some (.int .i64 a0_5) := (bc_ BK899.out 5).trans rfl
   have hcz9_6 : w3.cell? ⟨gb899, 6, none⟩ = some (.int .i64 a0_6) := (bc_ BK899.out 6).trans rfl
   have hcz9_7 : w3.cell? ⟨gb899, 7, none⟩ = some (.slice A0_7 l0_7.length c0_7) := (bc_ BK899.out 7).trans rfl
   have hfz9_0 := bf_ BK899.out 0
   have hfz9_1 := bf_ BK899.out 1
   have hfz9_2 := bf_ BK899.out 2
   have hfz9_3 := bf_ BK899.out 3
   have hfz9_4 := bf_ BK899.out 4
   have hfz9_5 := bf_ BK899.out 5
   have hfz9_6 := bf_ BK899.out 6
   have hfz9_7 := bf_ BK899.out 7
   go_wp2_with (first | ((with_reducible refine gate_callee (f := 61) rfl ?_); refine goesL_ (some 5) rfl rfl Tryd.func61 (by kernel_rfl) rfl #[.string a0_0] rfl wm_ ?_; (with_reducible refine (member_clean.calls a0_0 true _ ?side1 A4.out).mono ?_); (case side1 => exact A0_ (Tabs.below hT.out (wb1_ HB.out GE899.out))); rintro e w10 ⟨rfl, hb⟩; refine ⟨_, rfl, ?_⟩; have n0_ := A0_ (blk_below (g := gb899) (o := .cells #[.string a0_0, .string a0_1, .int .u8 a0_2, .int .i64 a0_3, .int .i64 a0_4, .int .i64 a0_5, .int .i64 a0_6, .slice A0_7 l0_7.length c0_7] 27 (0, 0)) (wB_ BK899.out) hb); have n1_ := A0_ (below_step (wb1_ HB.out GE899.out) hb); clear BK899; clear HB; have BK899 := n0_; have HB := n1_; clear n0_ n1_; (try clear hb); (try clear hb2); (try clear hk); (try clear hi); have hcz11_0 : w10.cell? ⟨gb899, 0, none⟩ = some (.string a0_0) := (bc_ BK899.out 0).trans rfl; have hcz11_1 : w10.cell? ⟨gb899, 1, none⟩ = some (.string a0_1) := (bc_ BK899.out 1).trans rfl; have hcz11_2 : w10.cell? ⟨gb899, 2, none⟩ = some (.int .u8 a0_2) := (bc_ BK899.out 2).trans rfl; have hcz11_3 : w10.cell? ⟨gb899, 3, none⟩ = some (.int .i64 a0_3) := (bc_ BK899.out 3).trans rfl; have hcz11_4 : w10.cell? ⟨gb899, 4, none⟩ = some (.int .i64 a0_4) := (bc_ BK899.out 4).trans rfl; have hcz11_5 : w10.cell? ⟨gb899, 5, none⟩ = some (.int .i64 a0_5) := (bc_ BK899.out 5).trans rfl; have hcz11_6 : w10.cell? ⟨gb899, 6, none⟩ = some (.int .i64 a0_6) := (bc_ BK899.out 6).trans rfl; have hcz11_7 : w10.cell? ⟨gb899, 7, none⟩ = some (.slice A0_7 l0_7.length c0_7) := (bc_ BK899.out 7).trans rfl; have hfz11_0 := bf_ BK899.out 0; have hfz11_1 := bf_ BK899.out 1; have hfz11_2 := bf_ BK899.out 2; have hfz11_3 := bf_ BK899.out 3; have hfz11_4 := bf_ BK899.out 4; have hfz11_5 := bf_ BK899.out 5; have hfz11_6 := bf_ BK899.out 6; have hfz11_7 := bf_ BK899.out 7) | (go_at_call 62; (with_reducible refine (member_meta.calls a0_3 a0_4 a0_5 a0_6 true _ A6.out).mono ?_); rintro e w12 ⟨rfl, hb⟩; have n0_ := A0_ (blk_below (g := gb899) (o := .cells #[.string a0_0, .string a0_1, .int .u8 a0_2, .int .i64 a0_3, .int .i64 a0_4, .int .i64 a0_5, .int .i64 a0_6, .slice A0_7 l0_7.length c0_7] 27 (0, 0)) (wB_ BK899.out) hb); have n1_ := A0_ (below_step (wb1_ HB.out GE899.out) hb); clear BK899; clear HB; have BK899 := n0_; have HB := n1_; clear n0_ n1_; (try clear hb); (try clear hb2); (try clear hk); (try clear hi); have hcz13_0 : w12.cell? ⟨gb899, 0, none⟩ = some (.string a0_0) := (bc_ BK899.out 0).trans rfl; have hcz13_1 : w12.cell? ⟨gb899, 1, none⟩ = some (.string a0_1) := (bc_ BK899.out 1).trans rfl; have hcz13_2 : w12.cell? ⟨gb899, 2, none⟩ = some (.int .u8 a0_2) := (bc_ BK899.out 2).trans rfl; have hcz13_3 : w12.cell? ⟨gb899, 3, none⟩ = some (.int .i64 a0_3) := (bc_ BK899.out 3).trans rfl; have hcz13_4 : w12.cell? ⟨gb899, 4, none⟩ = some (.int .i64 a0_4) := (bc_ BK899.out 4).trans rfl; have hcz13_5 : w12.cell? ⟨gb899, 5, none⟩ = some (.int .i64 a0_5) := (bc_ BK899.out 5).trans rfl; have hcz13_6 : w12.cell? ⟨gb899, 6, none⟩ = some (.int .i64 a0_6) := (bc_ BK899.out 6).trans rfl; have hcz13_7 : w12.cell? ⟨gb899, 7, none⟩ = some (.slice A0_7 l0_7.length c0_7) := (bc_ BK899.out 7).trans rfl; have hfz13_0 := bf_ BK899.out 0; have hfz13_1 := bf_ BK899.out 1; have hfz13_2 := bf_ BK899.out 2; have hfz13_3 := bf_ BK899.out 3; have hfz13_4 := bf_ BK899.out 4; have hfz13_5 := bf_ BK899.out 5; have hfz13_6 := bf_ BK899.out 6; have hfz13_7 := bf_ BK899.out 7))
   go_meet
   case rel => exact ⟨_, (true), wr_, H', ⟨by first | omega | exact Nat.le_refl _⟩, ⟨wB_ BK899.out⟩, ⟨wb1_ HB.out GE899.out⟩⟩
  rw [if_neg c8] at H
  have c8b0 : decide (1048576 < (l0_7.length : Int)) = false := decide_eq_false c8
  have c8b1 : decide (1048576 < l0_7.length) = false := decide_eq_false (by omega)
  clear c8
  (first | rw [c8b0] | (simp only [i64_w, i32_w]; rw [c8b0]) | skip)
  by_cases c14 : a0_2 = 48
  ·rw [if_pos c14] at H
   have c14b0 : (a0_2 == 48) = true := beq_iff_eq.mpr c14
   have c14b1 : (a0_2 != 48) = false := bne_eq_false_iff_eq.mpr c14
   clear c14
   have H' := A0_ H
   clear H
   have hcz15_0 : w3.cell? ⟨gb899, 0, none⟩ = some (.string a0_0) := (bc_ BK899.out 0).trans rfl
   have hcz15_1 : w3.cell? ⟨gb899, 1, none⟩ = some (.string a0_1) := (bc_ BK899.out 1).trans rfl
   have hcz15_2 : w3.cell? ⟨gb899, 2, none⟩ = some (.int .u8 a0_2) := (bc_ BK899.out 2).trans rfl
   have hcz15_3 : w3.cell? ⟨gb899, 3, none⟩ = some (.int .i64 a0_3) := (bc_ BK899.out 3).trans rfl
   have hcz15_4 : w3.cell? ⟨gb899, 4, none⟩ = some (.int .i64 a0_4) := (bc_ BK899.out 4).trans rfl
   have hcz15_5 : w3.cell? ⟨gb899, 5, none⟩ = some (.int .i64 a0_5) := (bc_ BK899.out 5).trans rfl
   have hcz15_6 : w3.cell? ⟨gb899, 6, none⟩ = some (.int .i64 a0_6) := (bc_ BK899.out 6).trans rfl
   have hcz15_7 : w3.cell? ⟨gb899, 7, none⟩ = some (.slice A0_7 l0_7.length c0_7) := (bc_ BK899.out 7).trans rfl
   have hfz15_0 := bf_ BK899.out 0
   have hfz15_1 := bf_ BK899.out 1
   have hfz15_2 := bf_ BK899.out 2
   have hfz15_3 := bf_ BK899.out 3
   have hfz15_4 := bf_ BK899.out 4
   have hfz15_5 := bf_ BK899.out 5
   have hfz15_6 := bf_ BK899.out 6
   have hfz15_7 := bf_ BK899.out 7
   go_wp2_with (first | ((with_reducible refine gate_callee (f := 61) rfl ?_); refine goesL_ (some 5) rfl rfl Tryd.func61 (by kernel_rfl) rfl #[.string a0_0] rfl wm_ ?_; (with_reducible refine (member_clean.calls a0_0 true _ ?side1 A4.out).mono ?_); (case side1 => exact A0_ (Tabs.below hT.out (wb1_ HB.out GE899.out))); rintro e w16 ⟨rfl, hb⟩; refine ⟨_, rfl, ?_⟩; have n0_ := A0_ (blk_below (g := gb899) (o := .cells #[.string a0_0, .string a0_1, .int .u8 a0_2, .int .i64 a0_3, .int .i64 a0_4, .int .i64 a0_5, .int .i64 a0_6, .slice A0_7 l0_7.length c0_7] 27 (0, 0)) (wB_ BK899.out) hb); have n1_ := A0_ (below_step (wb1_ HB.out GE899.out) hb); clear BK899; clear HB; have BK899 := n0_; have HB := n1_; clear n0_ n1_; (try clear hb); (try clear hb2); (try clear hk); (try clear hi); have hcz17_0 : w16.cell? ⟨gb899, 0, none⟩ = some (.string a0_0) := (bc_ BK899.out 0).trans rfl; have hcz17_1 : w16.cell? ⟨gb899, 1, none⟩ = some (.string a0_1) := (bc_ BK899.out 1).trans rfl; have hcz17_2 : w16.cell? ⟨gb899, 2, none⟩ = some (.int .u8 a0_2) := (bc_ BK899.out 2).trans rfl; have hcz17_3 : w16.cell? ⟨gb899, 3, none⟩ = some (.int .i64 a0_3) := (bc_ BK899.out 3).trans rfl; have hcz17_4 : w16.cell? ⟨gb899, 4, none⟩ = some (.int .i64 a0_4) := (bc_ BK899.out 4).trans rfl; have hcz17_5 : w16.cell? ⟨gb899, 5, none⟩ = some (.int .i64 a0_5) := (bc_ BK899.out 5).trans rfl; have hcz17_6 : w16.cell? ⟨gb899, 6, none⟩ = some (.int .i64 a0_6) := (bc_ BK899.out 6).trans rfl; have hcz17_7 : w16.cell? ⟨gb899, 7, none⟩ = some (.slice A0_7 l0_7.length c0_7) := (bc_ BK899.out 7).trans rfl; have hfz17_0 := bf_ BK899.out 0; have hfz17_1 := bf_ BK899.out 1; have hfz17_2 := bf_ BK899.out 2; have hfz17_3 := bf_ BK899.out 3; have hfz17_4 := bf_ BK899.out 4; have hfz17_5 := bf_ BK899.out 5; have hfz17_6 := bf_ BK899.out 6; have hfz17_7 := bf_ BK899.out 7) | (go_at_call 62; (with_reducible refine (member_meta.calls a0_3 a0_4 a0_5 a0_6 true _ A6.out).mono ?_); rintro e w18 ⟨rfl, hb⟩; have n0_ := A0_ (blk_below (g := gb899) (o := .cells #[.string a0_0, .string a0_1, .int .u8 a0_2, .int .i64 a0_3, .int .i64 a0_4, .int .i64 a0_5, .int .i64 a0_6, .slice A0_7 l0_7.length c0_7] 27 (0, 0)) (wB_ BK899.out) hb); have n1_ := A0_ (below_step (wb1_ HB.out GE899.out) hb); clear BK899; clear HB; have BK899 := n0_; have HB := n1_; clear n0_ n1_; (try clear hb); (try clear hb2); (try clear hk); (try clear hi); have hcz19_0 : w18.cell? ⟨gb899, 0, none⟩ = some (.string a0_0) := (bc_ BK899.out 0).trans rfl; have hcz19_1 : w18.cell? ⟨gb899, 1, none⟩ = some (.string a0_1) := (bc_ BK899.out 1).trans rfl; have hcz19_2 : w18.cell? ⟨gb899, 2, none⟩ = some (.int .u8 a0_2) := (bc_ BK899.out 2).trans rfl; have hcz19_3 : w18.cell? ⟨gb899, 3, none⟩ = some (.int .i64 a0_3) := (bc_ BK899.out 3).trans rfl; have hcz19_4 : w18.cell? ⟨gb899, 4, none⟩ = some (.int .i64 a0_4) := (bc_ BK899.out 4).trans rfl; have hcz19_5 : w18.cell? ⟨gb899, 5, none⟩ = some (.int .i64 a0_5) := (bc_ BK899.out 5).trans rfl; have hcz19_6 : w18.cell? ⟨gb899, 6, none⟩ = some (.int .i64 a0_6) := (bc_ BK899.out 6).trans rfl; have hcz19_7 : w18.cell? ⟨gb899, 7, none⟩ = some (.slice A0_7 l0_7.length c0_7) := (bc_ BK899.out 7).trans rfl; have hfz19_0 := bf_ BK899.out 0; have hfz19_1 := bf_ BK899.out 1; have hfz19_2 := bf_ BK899.out 2; have hfz19_3 := bf_ BK899.out 3; have hfz19_4 := bf_ BK899.out 4; have hfz19_5 := bf_ BK899.out 5; have hfz19_6 := bf_ BK899.out 6; have hfz19_7 := bf_ BK899.out 7))
   go_meet
   case rel => exact ⟨_, (false), wr_, H', ⟨by first | omega | exact Nat.le_refl _⟩, ⟨wB_ BK899.out⟩, ⟨wb1_ HB.out GE899.out⟩⟩
  rw [if_neg c14] at H
  have c14b0 : (a0_2 == 48) = false := beq_eq_false_iff_ne.mpr c14
  have c14b1 : (a0_2 != 48) = true := bne_iff_ne.mpr c14
  have H' := A0_ H
  clear H
  have hcz20_0 : w3.cell? ⟨gb899, 0, none⟩ = some (.string a0_0) := (bc_ BK899.out 0).trans rfl
  have hcz20_1 : w3.cell? ⟨gb899, 1, none⟩ = some (.string a0_1) := (bc_ BK899.out 1).trans rfl
  have hcz20_2 : w3.cell? ⟨gb899, 2, none⟩ = some (.int .u8 a0_2) := (bc_ BK899.out 2).trans rfl
  have hcz20_3 : w3.cell? ⟨gb899, 3, none⟩ = some (.int .i64 a0_3) := (bc_ BK899.out 3).trans rfl
  have hcz20_4 : w3.cell? ⟨gb899, 4, none⟩ = some (.int .i64 a0_4) := (bc_ BK899.out 4).trans rfl
  have hcz20_5 : w3.cell? ⟨gb899, 5, none⟩ = some (.int .i64 a0_5) := (bc_ BK899.out 5).trans rfl
  have hcz20_6 : w3.cell? ⟨gb899, 6, none⟩ = some (.int .i64 a0_6) := (bc_ BK899.out 6).trans rfl
  have hcz20_7 : w3.cell? ⟨gb899, 7, none⟩ = some (.slice A0_7 l0_7.length c0_7) := (bc_ BK899.out 7).trans rfl
  have hfz20_0 := bf_ BK899.out 0
  have hfz20_1 := bf_ BK899.out 1
  have hfz20_2 := bf_ BK899.out 2
  have hfz20_3 := bf_ BK899.out 3
  have hfz20_4 := bf_ BK899.out 4
  have hfz20_5 := bf_ BK899.out 5
  have hfz20_6 := bf_ BK899.out 6
  have hfz20_7 := bf_ BK899.out 7
  go_wp2_with (first | ((with_reducible refine gate_callee (f := 61) rfl ?_); refine goesL_ (some 5) rfl rfl Tryd.func61 (by kernel_rfl) rfl #[.string a0_0] rfl wm_ ?_; (with_reducible refine (member_clean.calls a0_0 true _ ?side1 A4.out).mono ?_); (case side1 => exact A0_ (Tabs.below hT.out (wb1_ HB.out GE899.out))); rintro e w21 ⟨rfl, hb⟩; refine ⟨_, rfl, ?_⟩; have n0_ := A0_ (blk_below (g := gb899) (o := .cells #[.string a0_0, .string a0_1, .int .u8 a0_2, .int .i64 a0_3, .int .i64 a0_4, .int .i64 a0_5, .int .i64 a0_6, .slice A0_7 l0_7.length c0_7] 27 (0, 0)) (wB_ BK899.out) hb); have n1_ := A0_ (below_step (wb1_ HB.out GE899.out) hb); clear BK899; clear HB; have BK899 := n0_; have HB := n1_; clear n0_ n1_; (try clear hb); (try clear hb2); (try clear hk); (try clear hi); have hcz22_0 : w21.cell? ⟨gb899, 0, none⟩ = some (.string a0_0) := (bc_ BK899.out 0).trans rfl; have hcz22_1 : w21.cell? ⟨gb899, 1, none⟩ = some (.string a0_1) := (bc_ BK899.out 1).trans rfl; have hcz22_2 : w21.cell? ⟨gb899, 2, none⟩ = some (.int .u8 a0_2) := (bc_ BK899.out 2).trans rfl; have hcz22_3 : w21.cell? ⟨gb899, 3, none⟩ = some (.int .i64 a0_3) := (bc_ BK899.out 3).trans rfl; have hcz22_4 : w21.cell? ⟨gb899, 4, none⟩ = some (.int .i64 a0_4) := (bc_ BK899.out 4).trans rfl; have hcz22_5 : w21.cell? ⟨gb899, 5, none⟩ = some (.int .i64 a0_5) := (bc_ BK899.out 5).trans rfl; have hcz22_6 : w21.cell? ⟨gb899, 6, none⟩ = some (.int .i64 a0_6) := (bc_ BK899.out 6).trans rfl; have hcz22_7 : w21.cell? ⟨gb899, 7, none⟩ = some (.slice A0_7 l0_7.length c0_7) := (bc_ BK899.out 7).trans rfl; have hfz22_0 := bf_ BK899.out 0; have hfz22_1 := bf_ BK899.out 1; have hfz22_2 := bf_ BK899.out 2; have hfz22_3 := bf_ BK899.out 3; have hfz22_4 := bf_ BK899.out 4; have hfz22_5 := bf_ BK899.out 5; have hfz22_6 := bf_ BK899.out 6; have hfz22_7 := bf_ BK899.out 7) | (go_at_call 62; (with_reducible refine (member_meta.calls a0_3 a0_4 a0_5 a0_6 true _ A6.out).mono ?_); rintro e w23 ⟨rfl, hb⟩; have n0_ := A0_ (blk_below (g := gb899) (o := .cells #[.string a0_0, .string a0_1, .int .u8 a0_2, .int .i64 a0_3, .int .i64 a0_4, .int .i64 a0_5, .int .i64 a0_6, .slice A0_7 l0_7.length c0_7] 27 (0, 0)) (wB_ BK899.out) hb); have n1_ := A0_ (below_step (wb1_ HB.out GE899.out) hb); clear BK899; clear HB; have BK899 := n0_; have HB := n1_; clear n0_ n1_; (try clear hb); (try clear hb2); (try clear hk); (try clear hi); have hcz24_0 : w23.cell? ⟨gb899, 0, none⟩ = some (.string a0_0) := (bc_ BK899.out 0).trans rfl; have hcz24_1 : w23.cell? ⟨gb899, 1, none⟩ = some (.string a0_1) := (bc_ BK899.out 1).trans rfl; have hcz24_2 : w23.cell? ⟨gb899, 2, none⟩ = some (.int .u8 a0_2) := (bc_ BK899.out 2).trans rfl; have hcz24_3 : w23.cell? ⟨gb899, 3, none⟩ = some (.int .i64 a0_3) := (bc_ BK899.out 3).trans rfl; have hcz24_4 : w23.cell? ⟨gb899, 4, none⟩ = some (.int .i64 a0_4) := (bc_ BK899.out 4).trans rfl; have hcz24_5 : w23.cell? ⟨gb899, 5, none⟩ = some (.int .i64 a0_5) := (bc_ BK899.out 5).trans rfl; have hcz24_6 : w23.cell? ⟨gb899, 6, none⟩ = some (.int .i64 a0_6) := (bc_ BK899.out 6).trans rfl; have hcz24_7 : w23.cell? ⟨gb899, 7, none⟩ = some (.slice A0_7 l0_7.length c0_7) := (bc_ BK899.out 7).trans rfl; have hfz24_0 := bf_ BK899.out 0; have hfz24_1 := bf_ BK899.out 1; have hfz24_2 := bf_ BK899.out 2; have hfz24_3 := bf_ BK899.out 3; have hfz24_4 := bf_ BK899.out 4; have hfz24_5 := bf_ BK899.out 5; have hfz24_6 := bf_ BK899.out 6; have hfz24_7 := bf_ BK899.out 7))
  go_meet
  case rel => exact ⟨_, (decide ((l0_7.length : Int) > 0)), wr_, H', ⟨by first | omega | exact Nat.le_refl _⟩, ⟨wB_ BK899.out⟩, ⟨wb1_ HB.out GE899.out⟩⟩
 case rest =>
  clear HC2
  try clear c1
  try clear p2
  try clear c4
  try clear c5
  try clear c6
  try clear c7
  try clear c8
  try clear c8b0
  try clear c8b1
  try clear c14
  try clear c14b0
  try clear c14b1
  try clear hcz11_0
  try clear hcz11_1
  try clear hcz11_2
  try clear hcz11_3
  try clear hcz11_4
  try clear hcz11_5
  try clear hcz11_6
  try clear hcz11_7
  try clear hcz13_0
  try clear hcz13_1
  try clear hcz13_2
  try clear hcz13_3
  try clear hcz13_4
  try clear hcz13_5
  try clear hcz13_6
  try clear hcz13_7
  try clear hcz15_0
  try clear hcz15_1
  try clear hcz15_2
  try clear hcz15_3
  try clear hcz15_4
  try clear hcz15_5
  try clear hcz15_6
  try clear hcz15_7
  try clear hcz17_0
  try clear hcz17_1
  try clear hcz17_2
  try clear hcz17_3
  try clear hcz17_4
  try clear hcz17_5
  try clear hcz17_6
  try clear hcz17_7
  try clear hcz19_0
  try clear hcz19_1
  try clear hcz19_2
  try clear hcz19_3
  try clear hcz19_4
  try clear hcz19_5
  try clear hcz19_6
  try clear hcz19_7
  try clear hcz20_0
  try clear hcz20_1
  try clear hcz20_2
  try clear hcz20_3
  try clear hcz20_4
  try clear hcz20_5
  try clear hcz20_6
  try clear hcz20_7
  try clear hcz22_0
  try clear hcz22_1
  try clear hcz22_2
  try clear hcz22_3
  try clear hcz22_4
  try clear hcz22_5
  try clear hcz22_6
  try clear hcz22_7
  try clear hcz24_0
  try clear hcz24_1
  try clear hcz24_2
  try clear hcz24_3
  try clear hcz24_4
  try clear hcz24_5
  try clear hcz24_6
  try clear hcz24_7
  try clear hcz25_0
  try clear hcz25_1
  try clear hcz25_2
  try clear hcz25_3
  try clear hcz25_4
  try clear hcz25_5
  try clear hcz25_6
  try clear hcz25_7
  try clear hcz27_0
  try clear hcz27_1
  try clear hcz27_2
  try clear hcz27_3
  try clear hcz27_4
  try clear hcz27_5
  try clear hcz27_6
  try clear hcz27_7
  try clear hcz29_0
  try clear hcz29_1
  try clear hcz29_2
  try clear hcz29_3
  try clear hcz29_4
  try clear hcz29_5
  try clear hcz29_6
  try clear hcz29_7
  try clear hcz9_0
  try clear hcz9_1
  try clear hcz9_2
  try clear hcz9_3
  try clear hcz9_4
  try clear hcz9_5
  try clear hcz9_6
  try clear hcz9_7
  try clear hfz11_0
  try clear hfz11_1
  try clear hfz11_2
  try clear hfz11_3
  try clear hfz11_4
  try clear hfz11_5
  try clear hfz11_6
  try clear hfz11_7
  try clear hfz13_0
  try clear hfz13_1
  try clear hfz13_2
  try clear hfz13_3
  try clear hfz13_4
  try clear hfz13_5
  try clear hfz13_6
  try clear hfz13_7
  try clear hfz15_0
  try clear hfz15_1
  try clear hfz15_2
  try clear hfz15_3
  try clear hfz15_4
  try clear hfz15_5
  try clear hfz15_6
  try clear hfz15_7
  try clear hfz17_0
  try clear hfz17_1
  try clear hfz17_2
  try clear hfz17_3
  try clear hfz17_4
  try clear hfz17_5
  try clear hfz17_6
  try clear hfz17_7
  try clear hfz19_0
  try clear hfz19_1
  try clear hfz19_2
  try clear hfz19_3
  try clear hfz19_4
  try clear hfz19_5
  try clear hfz19_6
  try clear hfz19_7
  try clear hfz20_0
  try clear hfz20_1
  try clear hfz20_2
  try clear hfz20_3
  try clear hfz20_4
  try clear hfz20_5
  try clear hfz20_6
  try clear hfz20_7
  try clear hfz22_0
  try clear hfz22_1
  try clear hfz22_2
  try clear hfz22_3
  try clear hfz22_4
  try clear hfz22_5
  try clear hfz22_6
  try clear hfz22_7
  try clear hfz24_0
  try clear hfz24_1
  try clear hfz24_2
  try clear hfz24_3
  try clear hfz24_4
  try clear hfz24_5
  try clear hfz24_6
  try clear hfz24_7
  try clear hfz25_0
  try clear hfz25_1
  try clear hfz25_2
  try clear hfz25_3
  try clear hfz25_4
  try clear hfz25_5
  try clear hfz25_6
  try clear hfz25_7
  try clear hfz27_0
  try clear hfz27_1
  try clear hfz27_2
  try clear hfz27_3
  try clear hfz27_4
  try clear hfz27_5
  try clear hfz27_6
  try clear hfz27_7
  try clear hfz29_0
  try clear hfz29_1
  try clear hfz29_2
  try clear hfz29_3
  try clear hfz29_4
  try clear hfz29_5
  try clear hfz29_6
  try clear hfz29_7
  try clear hfz9_0
  try clear hfz9_1
  try clear hfz9_2
  try clear hfz9_3
  try clear hfz9_4
  try clear hfz9_5
  try clear hfz9_6
  try clear hfz9_7
  obtain ⟨kq, x29_1, rfl, HA, HJ1, BK899, HB⟩ := hcut
  cases kq with
  | zero => exact absurd HA.out (by simp [member_Good.j0])
  | succ kj1 =>
   have H := HA.out
   clear HA
   simp only [member_Good.j0] at H
   by_cases c31 : x29_1 = true
   ·subst c31
    have H1 : (some false) = some r := by rw [if_pos rfl] at H; exact H
    clear H
    have H := H1
    clear H1
    obtain rfl := Option.some.inj H
    go_wp2
    go_ret
    exact ⟨we_, wb1_ HB.out GE899.out⟩
   replace c31 := Bool.eq_false_iff.mpr c31
   subst c31
   have H1 : (if a0_2 = 48 then (member_Good.j1 kj1 a0_2 (a0_2 == 48) a0_0 a0_1 a0_2 a0_3 a0_4 a0_5 a0_6 l0_7) else (member_Good.j1 kj1 a0_2 (a0_2 == 53) a0_0 a0_1 a0_2 a0_3 a0_4 a0_5 a0_6 l0_7)) = some r := by rw [if_neg (show ¬ (false = true) by decide)] at H; exact H
   clear H
   have H := H1
   clear H1
   have HC32 := A0_ H
   clear H
   have hcz33_0 : wc.cell? ⟨gb899, 0, none⟩ = some (.string a0_0) := (bc_ BK899.out 0).trans rfl
   have hcz33_1 : wc.cell? ⟨gb899, 1, none⟩ = some (.string a0_1) := (bc_ BK899.out 1).trans rfl
   have hcz33_2 : wc.cell? ⟨gb899, 2, none⟩ = some (.int .u8 a0_2) := (bc_ BK899.out 2).trans rfl
   have hcz33_3 : wc.cell? ⟨gb899, 3, none⟩ = some (.int .i64 a0_3) := (bc_ BK899.out 3).trans rfl
   have hcz33_4 : wc.cell? ⟨gb899, 4, none⟩ = some (.int .i64 a0_4) := (bc_ BK899.out 4).trans rfl
   have hcz33_5 : wc.cell? ⟨gb899, 5, none⟩ = some (.int .i64 a0_5) := (bc_ BK899.out 5).trans rfl
   have hcz33_6 : wc.cell? ⟨gb899, 6, none⟩ = some (.int .i64 a0_6) := (bc_ BK899.out 6).trans rfl
   have hcz33_7 : wc.cell? ⟨gb899, 7, none⟩ = some (.slice A0_7 l0_7.length c0_7) := (bc_ BK899.out 7).trans rfl
   have hfz33_0 := bf_ BK899.out 0
   have hfz33_1 := bf_ BK899.out 1
   have hfz33_2 := bf_ BK899.out 2
   have hfz33_3 := bf_ BK899.out 3
   have hfz33_4 := bf_ BK899.out 4
   have hfz33_5 := bf_ BK899.out 5
   have hfz33_6 := bf_ BK899.out 6
   have hfz33_7 := bf_ BK899.out 7
   go_upto_if 32 with (fail)
   go_cut [32] (fun v32 wc => ∃ (kq : Nat) (x32_31 : Bool), v32 = .bool x32_31 ∧ Aside0 (member_Good.j1 kq a0_2 x32_31 a0_0 a0_1 a0_2 a0_3 a0_4 a0_5 a0_6 l0_7 = some r) ∧ Aside0 (kq ≤ kj1) ∧ Aside0 (wc.heap[gb899]? = some (.cells #[.string a0_0, .string a0_1, .int .u8 a0_2, .int .i64 a0_3, .int .i64 a0_4, .int .i64 a0_5, .int .i64 a0_6, (.slice A0_7 l0_7.length c0_7)] 27 (0, 0))) ∧ Aside0 (Below w.heap.size w wc))
   case first =>
    have H := HC32.out
    clear HC32
    by_cases c34 : a0_2 = 48
    rotate_left
    ·rw [if_neg c34] at H
     have c34b0 : (a0_2 == 48) = false := beq_eq_false_iff_ne.mpr c34
     have c34b1 : (a0_2 != 48) = true := bne_iff_ne.mpr c34
     (first | rw [c34b0] | (simp only [i64_w, i32_w]; rw [c34b0]) | skip)
     have H' := A0_ H
     clear H
     go_wp2
     go_meet
     case rel => exact ⟨_, ((a0_2 == 53)), wr_, H', ⟨by have := HJ1.out; first | omega | exact Nat.le_refl _⟩, ⟨wB_ BK899.out⟩, ⟨wb1_ HB.out GE899.out⟩⟩
    rw [if_pos c34] at H
    have c34b0 : (a0_2 == 48) = true := beq_iff_eq.mpr c34
    have c34b1 : (a0_2 != 48) = false := bne_eq_false_iff_eq.mpr c34
    clear c34
    (first | rw [c34b0] | (simp only [i64_w, i32_w]; rw [c34b0]) | skip)
    have H' := A0_ H
    clear H
    go_wp2
    go_meet
    case rel => exact ⟨_, ((a0_2 == 48)), wr_, H', ⟨by have := HJ1.out; first | omega | exact Nat.le_refl _⟩, ⟨wB_ BK899.out⟩, ⟨wb1_ HB.out GE899.out⟩⟩
   case rest =>
    clear HC32
    try clear c1
    try clear p2
    try clear c3
    try clear c4
    try clear c5
    try clear c6
    try clear c7
    try clear c8
    try clear c8b0
    try clear c8b1
    try clear c14
    try clear c14b0
    try clear c14b1
    try clear c31
    try clear c34
    try clear c34b0
    try clear c34b1
    try clear hcz11_0
    try clear hcz11_1
    try clear hcz11_2
    try clear hcz11_3
    try clear hcz11_4
    try clear hcz11_5
    try clear hcz11_6
    try clear hcz11_7
    try clear hcz13_0
    try clear hcz13_1
    try clear hcz13_2
    try clear hcz13_3
    try clear hcz13_4
    try clear hcz13_5
    try clear hcz13_6
    try clear hcz13_7
    try clear hcz15_0
    try clear hcz15_1
    try clear hcz15_2
    try clear hcz15_3
    try clear hcz15_4
    try clear hcz15_5
    try clear hcz15_6
    try clear hcz15_7
    try clear hcz17_0
    try clear hcz17_1
    try clear hcz17_2
    try clear hcz17_3
    try clear hcz17_4
    try clear hcz17_5
    try clear hcz17_6
    try clear hcz17_7
    try clear hcz19_0
    try clear hcz19_1
    try clear hcz19_2
    try clear hcz19_3
    try clear hcz19_4
    try clear hcz19_5
    try clear hcz19_6
    try clear hcz19_7
    try clear hcz20_0
    try clear hcz20_1
    try clear hcz20_2
    try clear hcz20_3
    try clear hcz20_4
    try clear hcz20_5
    try clear hcz20_6
    try clear hcz20_7
    try clear hcz22_0
    try clear hcz22_1
    try clear hcz22_2
    try clear hcz22_3
    try clear hcz22_4
    try clear hcz22_5
    try clear hcz22_6
    try clear hcz22_7
    try clear hcz24_0
    try clear hcz24_1
    try clear hcz24_2
    try clear hcz24_3
    try clear hcz24_4
    try clear hcz24_5
    try clear hcz24_6
    try clear hcz24_7
    try clear hcz25_0
    try clear hcz25_1
    try clear hcz25_2
    try clear hcz25_3
    try clear hcz25_4
    try clear hcz25_5
    try clear hcz25_6
    try clear hcz25_7
    try clear hcz27_0
    try clear hcz27_1
    try clear hcz27_2
    try clear hcz27_3
    try clear hcz27_4
    try clear hcz27_5
    try clear hcz27_6
    try clear hcz27_7
    try clear hcz29_0
    try clear hcz29_1
    try clear hcz29_2
    try clear hcz29_3
    try clear hcz29_4
    try clear hcz29_5
    try clear hcz29_6
    try clear hcz29_7
    try clear hcz33_0
    try clear hcz33_1
    try clear hcz33_2
    try clear hcz33_3
    try clear hcz33_4
    try clear hcz33_5
    try clear hcz33_6
    try clear hcz33_7
    try clear hcz9_0
    try clear hcz9_1
    try clear hcz9_2
    try clear hcz9_3
    try clear hcz9_4
    try clear hcz9_5
    try clear hcz9_6
    try clear hcz9_7
    try clear hfz11_0
    try clear hfz11_1
    try clear hfz11_2
    try clear hfz11_3
    try clear hfz11_4
    try clear hfz11_5
    try clear hfz11_6
    try clear hfz11_7
    try clear hfz13_0
    try clear hfz13_1
    try clear hfz13_2
    try clear hfz13_3
    try clear hfz13_4
    try clear hfz13_5
    try clear hfz13_6
    try clear hfz13_7
    try clear hfz15_0
    try clear hfz15_1
    try clear hfz15_2
    try clear hfz15_3
    try clear hfz15_4
    try clear hfz15_5
    try clear hfz15_6
    try clear hfz15_7
    try clear hfz17_0
    try clear hfz17_1
    try clear hfz17_2
    try clear hfz17_3
    try clear hfz17_4
    try clear hfz17_5
    try clear hfz17_6
    try clear hfz17_7
    try clear hfz19_0
    try clear hfz19_1
    try clear hfz19_2
    try clear hfz19_3
    try clear hfz19_4
    try clear hfz19_5
    try clear hfz19_6
    try clear hfz19_7
    try clear hfz20_0
    try clear hfz20_1
    try clear hfz20_2
    try clear hfz20_3
    try clear hfz20_4
    try clear hfz20_5
    try clear hfz20_6
    try clear hfz20_7
    try clear hfz22_0
    try clear hfz22_1
    try clear hfz22_2
    try clear hfz22_3
    try clear hfz22_4
    try clear hfz22_5
    try clear hfz22_6
    try clear hfz22_7
    try clear hfz24_0
    try clear hfz24_1
    try clear hfz24_2
    try clear hfz24_3
    try clear hfz24_4
    try clear hfz24_5
    try clear hfz24_6
    try clear hfz24_7
    try clear hfz25_0
    try clear hfz25_1
    try clear hfz25_2
    try clear hfz25_3
    try clear hfz25_4
    try clear hfz25_5
    try clear hfz25_6
    try clear hfz25_7
    try clear hfz27_0
    try clear hfz27_1
    try clear hfz27_2
    try clear hfz27_3
    try clear hfz27_4
    try clear hfz27_5
    try clear hfz27_6
    try clear hfz27_7
    try clear hfz29_0
    try clear hfz29_1
    try clear hfz29_2
    try clear hfz29_3
    try clear hfz29_4
    try clear hfz29_5
    try clear hfz29_6
    try clear hfz29_7
    try clear hfz33_0
    try clear hfz33_1
    try clear hfz33_2
    try clear hfz33_3
    try clear hfz33_4
    try clear hfz33_5
    try clear hfz33_6
    try clear hfz33_7
    try clear hfz9_0
    try clear hfz9_1
    try clear hfz9_2
    try clear hfz9_3
    try clear hfz9_4
    try clear hfz9_5
    try clear hfz9_6
    try clear hfz9_7
    try clear p2
    obtain ⟨kq, x32_31, rfl, HA, HJ31, BK899, HB⟩ := hcut
    cases kq with
    | zero => exact absurd HA.out (by simp [member_Good.j1])
    | succ kj31 =>
     have H := HA.out
     clear HA
     simp only [member_Good.j1] at H
     by_cases c35 : x32_31 = true
     ·subst c35
      have H1 : (some (a0_1.toList == ([] : List UInt8))) = some r := by rw [if_pos rfl] at H; exact H
      clear H
      have H := H1
      clear H1
      obtain rfl := Option.some.inj H
      have hcz36_0 : wc.cell? ⟨gb899, 0, none⟩ = some (.string a0_0) := (bc_ BK899.out 0).trans rfl
      have hcz36_1 : wc.cell? ⟨gb899, 1, none⟩ = some (.string a0_1) := (bc_ BK899.out 1).trans rfl
      have hcz36_2 : wc.cell? ⟨gb899, 2, none⟩ = some (.int .u8 a0_2) := (bc_ BK899.out 2).trans rfl
      have hcz36_3 : wc.cell? ⟨gb899, 3, none⟩ = some (.int .i64 a0_3) := (bc_ BK899.out 3).trans rfl
      have hcz36_4 : wc.cell? ⟨gb899, 4, none⟩ = some (.int .i64 a0_4) := (bc_ BK899.out 4).trans rfl
      have hcz36_5 : wc.cell? ⟨gb899, 5, none⟩ = some (.int .i64 a0_5) := (bc_ BK899.out 5).trans rfl
      have hcz36_6 : wc.cell? ⟨gb899, 6, none⟩ = some (.int .i64 a0_6) := (bc_ BK899.out 6).trans rfl
      have hcz36_7 : wc.cell? ⟨gb899, 7, none⟩ = some (.slice A0_7 l0_7.length c0_7) := (bc_ BK899.out 7).trans rfl
      have hfz36_0 := bf_ BK899.out 0
      have hfz36_1 := bf_ BK899.out 1
      have hfz36_2 := bf_ BK899.out 2
      have hfz36_3 := bf_ BK899.out 3
      have hfz36_4 := bf_ BK899.out 4
      have hfz36_5 := bf_ BK899.out 5
      have hfz36_6 := bf_ BK899.out 6
      have hfz36_7 := bf_ BK899.out 7
      go_wp2
      go_ret
      exact ⟨we_, wb1_ HB.out GE899.out⟩
     replace c35 := Bool.eq_false_iff.mpr c35
     subst c35
     have H1 : (if a0_2 = 49 then ((member_clean.f a0_1).bind fun t902 => (some t902)) else (if a0_2 = 50 then ((path_Target.f a0_1).bind fun t903 => (some (t903 == 0))) else (some false))) = some r := by rw [if_neg (show ¬ (false = true) by decide)] at H; exact H
     clear H
     have H := H1
     clear H1
     by_cases c37 : a0_2 = 49
     ·rw [if_pos c37] at H
      have c37b0 : (a0_2 == 49) = true := beq_iff_eq.mpr c37
      have c37b1 : (a0_2 != 49) = false := bne_eq_false_iff_eq.mpr c37
      clear c37
      replace H := Option.bind_eq_some_iff.mp H
      obtain ⟨t902, A380, H⟩ := H
      replace H : (some t902) = some r := H
      have A38 := A0_ A380
      clear A380
      obtain rfl := Option.some.inj H
      have hcz39_0 : wc.cell? ⟨gb899, 0, none⟩ = some (.string a0_0) := (bc_ BK899.out 0).trans rfl
      have hcz39_1 : wc.cell? ⟨gb899, 1, none⟩ = some (.string a0_1) := (bc_ BK899.out 1).trans rfl
      have hcz39_2 : wc.cell? ⟨gb899, 2, none⟩ = some (.int .u8 a0_2) := (bc_ BK899.out 2).trans rfl
      have hcz39_3 : wc.cell? ⟨gb899, 3, none⟩ = some (.int .i64 a0_3) := (bc_ BK899.out 3).trans rfl
      have hcz39_4 : wc.cell? ⟨gb899, 4, none⟩ = some (.int .i64 a0_4) := (bc_ BK899.out 4).trans rfl
      have hcz39_5 : wc.cell? ⟨gb899, 5, none⟩ = some (.int .i64 a0_5) := (bc_ BK899.out 5).trans rfl
      have hcz39_6 : wc.cell? ⟨gb899, 6, none⟩ = some (.int .i64 a0_6) := (bc_ BK899.out 6).trans rfl
      have hcz39_7 : wc.cell? ⟨gb899, 7, none⟩ = some (.slice A0_7 l0_7.length c0_7) := (bc_ BK899.out 7).trans rfl
      have hfz39_0 := bf_ BK899.out 0
      have hfz39_1 := bf_ BK899.out 1
      have hfz39_2 := bf_ BK899.out 2
      have hfz39_3 := bf_ BK899.out 3
      have hfz39_4 := bf_ BK899.out 4
      have hfz39_5 := bf_ BK899.out 5
      have hfz39_6 := bf_ BK899.out 6
      have hfz39_7 := bf_ BK899.out 7
      go_wp2_with (first | ((with_reducible refine gate_callee (f := 61) rfl ?_); refine goesL_ (some 42) rfl rfl Tryd.func61 (by kernel_rfl) rfl #[.string a0_1] rfl wm_ ?_; (with_reducible refine (member_clean.calls a0_1 t902 _ ?side1 A38.out).mono ?_); (case side1 => exact A0_ (Tabs.below hT.out (wb1_ HB.out GE899.out))); rintro e w40 ⟨rfl, hb⟩; refine ⟨_, rfl, ?_⟩; have n0_ := A0_ (blk_below (g := gb899) (o := .cells #[.string a0_0, .string a0_1, .int .u8 a0_2, .int .i64 a0_3, .int .i64 a0_4, .int .i64 a0_5, .int .i64 a0_6, .slice A0_7 l0_7.length c0_7] 27 (0, 0)) (wB_ BK899.out) hb); have n1_ := A0_ (below_step (wb1_ HB.out GE899.out) hb); clear BK899; clear HB; have BK899 := n0_; have HB := n1_; clear n0_ n1_; (try clear hb); (try clear hb2); (try clear hk); (try clear hi)))
      go_ret
      exact ⟨we_, wb1_ HB.out GE899.out⟩
     rw [if_neg c37] at H
     have c37b0 : (a0_2 == 49) = false := beq_eq_false_iff_ne.mpr c37
     have c37b1 : (a0_2 != 49) = true := bne_iff_ne.mpr c37
     by_cases c41 : a0_2 = 50
     rotate_left
     ·rw [if_neg c41] at H
      have c41b0 : (a0_2 == 50) = false := beq_eq_false_iff_ne.mpr c41
      have c41b1 : (a0_2 != 50) = true := bne_iff_ne.mpr c41
      obtain rfl := Option.some.inj H
      go_wp2
      go_ret
      exact ⟨we_, wb1_ HB.out GE899.out⟩
     rw [if_pos c41] at H
     have c41b0 : (a0_2 == 50) = true := beq_iff_eq.mpr c41
     have c41b1 : (a0_2 != 50) = false := bne_eq_false_iff_eq.mpr c41
     clear c41
     replace H := Option.bind_eq_some_iff.mp H
     obtain ⟨t903, A420, H⟩ := H
     replace H : (some (t903 == 0)) = some r := H
     have A42 := A0_ A420
     clear A420
     obtain rfl := Option.some.inj H
     have hcz43_0 : wc.cell? ⟨gb899, 0, none⟩ = some (.string a0_0) := (bc_ BK899.out 0).trans rfl
     have hcz43_1 : wc.cell? ⟨gb899, 1, none⟩ = some (.string a0_1) := (bc_ BK899.out 1).trans rfl
     have hcz43_2 : wc.cell? ⟨gb899, 2, none⟩ = some (.int .u8 a0_2) := (bc_ BK899.out 2).trans rfl
     have hcz43_3 : wc.cell? ⟨gb899, 3, none⟩ = some (.int .i64 a0_3) := (bc_ BK899.out 3).trans rfl
     have hcz43_4 : wc.cell? ⟨gb899, 4, none⟩ = some (.int .i64 a0_4) := (bc_ BK899.out 4).trans rfl
     have hcz43_5 : wc.cell? ⟨gb899, 5, none⟩ = some (.int .i64 a0_5) := (bc_ BK899.out 5).trans rfl
     have hcz43_6 : wc.cell? ⟨gb899, 6, none⟩ = some (.int .i64 a0_6) := (bc_ BK899.out 6).trans rfl
     have hcz43_7 : wc.cell? ⟨gb899, 7, none⟩ = some (.slice A0_7 l0_7.length c0_7) := (bc_ BK899.out 7).trans rfl
     have hfz43_0 := bf_ BK899.out 0
     have hfz43_1 := bf_ BK899.out 1
     have hfz43_2 := bf_ BK899.out 2
     have hfz43_3 := bf_ BK899.out 3
     have hfz43_4 := bf_ BK899.out 4
     have hfz43_5 := bf_ BK899.out 5
     have hfz43_6 := bf_ BK899.out 6
     have hfz43_7 := bf_ BK899.out 7
     go_wp2_with (first | ((with_reducible refine gate_callee (f := 63) rfl ?_); refine goesL_ (some 47) rfl rfl Tryd.func63 (by kernel_rfl) rfl #[.string a0_1] rfl wm_ ?_; (with_reducible refine (path_Target.calls a0_1 t903 _ ?side1 A42.out).mono ?_); (case side1 => exact A0_ (Tabs.below hT.out (wb1_ HB.out GE899.out))); rintro e w44 ⟨rfl, hb⟩; refine ⟨_, rfl, ?_⟩; have n0_ := A0_ (blk_below (g := gb899) (o := .cells #[.string a0_0, .string a0_1, .int .u8 a0_2, .int .i64 a0_3, .int .i64 a0_4, .int .i64 a0_5, .int .i64 a0_6, .slice A0_7 l0_7.length c0_7] 27 (0, 0)) (wB_ BK899.out) hb); have n1_ := A0_ (below_step (wb1_ HB.out GE899.out) hb); clear BK899; clear HB; have BK899 := n0_; have HB := n1_; clear n0_ n1_; (try clear hb); (try clear hb2); (try clear hk); (try clear hi)))
     go_ret
     exact ⟨we_, wb1_ HB.out GE899.out⟩
end Go.Proofs.YtfmphccoeinhcaaDoor.Print

namespace Go.Proofs.YtfmphccoeinhcaaDoor.Print
open Go.RowKit Go.Proofs.YtfmphccoeinhcaaDoorW.PrintWords Go.Proofs.YtfmphccoeinhcaaDoorW.PrintLast Go.Proofs.YtfmphccoeinhcaaDoorW.PrintMore
attribute [local go_sem] max2_int min2_int max_two min_two max_three min_three max_four min_four   -- for this text's walks alone
set_option linter.unusedVariables false
set_option linter.unusedSimpArgs false
end Go.Proofs.YtfmphccoeinhcaaDoor.Print

namespace Go.Proofs.YtfmphccoeinhcaaDoor.Print
open Go.RowKit Go.Proofs.YtfmphccoeinhcaaDoorW.PrintWords Go.Proofs.YtfmphccoeinhcaaDoorW.PrintLast Go.Proofs.YtfmphccoeinhcaaDoorW.PrintMore
attribute [local go_sem] max2_int min2_int max_two min_two max_three min_three max_four min_four   -- for this text's walks alone
set_option linter.unusedVariables false
set_option linter.unusedSimpArgs false
end Go.Proofs.YtfmphccoeinhcaaDoor.Print

namespace Go.Proofs.YtfmphccoeinhcaaDoor.Print
open Go.RowKit Go.Proofs.YtfmphccoeinhcaaDoorW.PrintWords Go.Proofs.YtfmphccoeinhcaaDoorW.PrintLast Go.Proofs.YtfmphccoeinhcaaDoorW.PrintMore
attribute [local go_sem] max2_int min2_int max_two min_two max_three min_three max_four min_four   -- for this text's walks alone
set_option linter.unusedVariables false
set_option linter.unusedSimpArgs false
end Go.Proofs.YtfmphccoeinhcaaDoor.Print

namespace Go.Proofs.YtfmphccoeinhcaaDoor.Print
open Go.RowKit Go.Proofs.YtfmphccoeinhcaaDoorW.PrintWords Go.Proofs.YtfmphccoeinhcaaDoorW.PrintLast Go.Proofs.YtfmphccoeinhcaaDoorW.PrintMore
attribute [local go_sem] max2_int min2_int max_two min_two max_three min_three max_four min_four   -- for this text's walks alone
set_option linter.unusedVariables false
set_option linter.unusedSimpArgs false
end Go.Proofs.YtfmphccoeinhcaaDoor.Print

namespace Go.Proofs.YtfmphccoeinhcaaDoor
open Go.RowKit Go.Proofs.YtfmphccoeinhcaaDoor.Print Go.Proofs.YtfmphccoeinhcaaDoorW.PrintWords
theorem beq_dec {α : Type} [BEq α] [LawfulBEq α] [DecidableEq α] (a b : α) : (a == b) = decide (a = b) := by
 rw [Bool.eq_iff_iff, beq_iff_eq, decide_eq_true_eq]
theorem mclean_f (s : ByteArray) (h2 : s.size ≤ 8000000000000) : member_clean.f s = some (cleanOk s) := by
 have e : path_Clean.f s = some (cleanF s) := by unfold path_Clean.f; rw [if_pos h2]
 unfold member_clean.f cleanOk
 rw [e, Option.bind_some, beq_dec]
 by_cases h0 : (cleanF s).2 = 0
 ·rw [if_pos h0, decide_eq_true h0, Bool.true_and]
  congr 1
  exact decide_eq_decide.2 ⟨fun h => h.symm, fun h => h.symm⟩
 ·rw [if_neg h0, decide_eq_false h0]; rfl
theorem mmeta_f (m : Met) : member_meta.f m.f0 m.f1 m.f2 m.f3 = some (metaOk m) := by
 unfold member_meta.f num_In.f metaOk
 have hd : ∀ (a b c : Int), (if a ≥ b then some (decide (a ≤ c)) else some false) = some (decide (b ≤ a ∧ a ≤ c)) := by
  intro a b c
  split
  ·congr 1; exact decide_eq_decide.2 (by omega)
  ·congr 1; symm; simp; omega
 simp only [hd, Option.bind_some]
 split
 ·split
  ·split
   ·congr 1
    simp only [decide_eq_true_eq] at *
    exact decide_eq_decide.2 (by omega)
   all_goals (congr 1; simp only [decide_eq_true_eq] at *; symm; simp; omega)
  all_goals (congr 1; simp only [decide_eq_true_eq] at *; symm; simp; omega)
 all_goals (congr 1; simp only [decide_eq_true_eq] at *; symm; simp; omega)
theorem mtarget_f (s : ByteArray) (h2 : s.size ≤ 8000000000000) : ∃ r, path_Target.f s = some r ∧ (r == 0) = targetOk s := by
 have e : path_right.f s = some (rightB s) := by unfold path_right.f; rw [if_pos h2]
 have hz : s.toList = [] ↔ s.size = 0 := by rw [Lib.toList_data, ← List.length_eq_zero_iff]; simp
 unfold path_Target.f targetOk
 rw [e, Option.bind_some]
 cases rightB s with
 | false => exact ⟨9, rfl, rfl⟩
 | true =>
  rw [if_pos rfl]
  by_cases h0 : s.toList = []
  ·rw [if_pos h0]
   refine ⟨6, rfl, ?_⟩
   have := hz.1 h0
   simp [this]
  ·rw [if_neg h0]
   have h1 : s.size ≠ 0 := fun e => h0 (hz.2 e)
   by_cases h3 : (s.size : Int) > 200
   ·rw [if_pos h3]
    refine ⟨6, rfl, ?_⟩
    simp
    omega
   ·rw [if_neg h3]
    refine ⟨0, rfl, ?_⟩
    simp
    omega
def kindB (m : Mem) : Bool := if m.f2 = 48 ∨ m.f2 = 53 then decide (m.f1.toList = []) else if m.f2 = 49 then cleanOk m.f1 else if m.f2 = 50 then targetOk m.f1 else false
theorem mj0_f (m : Mem) (b : Bool) (hz : MemZ m) : Ev (fun k => member_Good.j0 k b m.f0 m.f1 m.f2 m.f3.f0 m.f3.f1 m.f3.f2 m.f3.f3 m.f4) (!b && kindB m) := by
 obtain ⟨r, h1, h3⟩ := mtarget_f m.f1 hz.2.1
 have hj1 : Ev (fun k => member_Good.j1 k m.f2 (if m.f2 = 48 then (m.f2 == 48) else (m.f2 == 53)) m.f0 m.f1 m.f2 m.f3.f0 m.f3.f1 m.f3.f2 m.f3.f3 m.f4) (kindB m) := by
  refine Ev.step (f := fun _ => some (kindB m)) (fun k => ?_) (Ev.now _)
  rw [member_Good.j1]
  unfold kindB
  by_cases a : m.f2 = 48
  ·rw [if_pos a, if_pos (by rw [beq_iff_eq]; exact a), if_pos (.inl a), beq_dec]
  ·rw [if_neg a]
   by_cases b : m.f2 = 53
   ·rw [if_pos (by rw [beq_iff_eq]; exact b), if_pos (.inr b), beq_dec]
   ·rw [if_neg (by rw [beq_iff_eq]; exact b), if_neg (show ¬ (m.f2 = 48 ∨ m.f2 = 53) from fun h => h.elim a b)]
    by_cases c : m.f2 = 49
    ·rw [if_pos c, if_pos c, mclean_f _ hz.2.1]; rfl
    ·rw [if_neg c, if_neg c]
     by_cases d : m.f2 = 50
     ·rw [if_pos d, if_pos d, h1, Option.bind_some, h3]
     ·rw [if_neg d, if_neg d]
 cases b with
 | true => exact Ev.step (f := fun _ => some false) (fun k => by rw [member_Good.j0, if_pos rfl]) (Ev.now _)
 | false =>
  refine Ev.step (fun k => ?_) hj1
  rw [member_Good.j0, if_neg (by decide)]
  by_cases a : m.f2 = 48
  ·rw [if_pos a, if_pos a]
  ·rw [if_neg a, if_neg a]
theorem goodM_eq (m : Mem) : goodM m = (cleanOk m.f0 && metaOk m.f3 && !(decide (1048576 < m.f4.length) || (!decide (m.f2 = 48) && decide (0 < m.f4.length))) && kindB m) := by
 unfold goodM kindB
 congr 1
 rw [Bool.and_assoc, Bool.and_assoc, Bool.and_assoc]
 congr 2
 by_cases a : m.f2 = 48 <;> by_cases b : m.f4.length ≤ 1048576 <;> by_cases c : m.f4.length = 0 <;> simp [a, b, c] <;> omega
theorem member_Good_eq (m : Mem) (hz : MemZ m) : Ev (fun k => member_Good.f k m.f0 m.f1 m.f2 m.f3.f0 m.f3.f1 m.f3.f2 m.f3.f3 m.f4) (goodM m) := by
 rw [goodM_eq]
 cases hc : cleanOk m.f0 with
 | false => exact Ev.congr (fun k => by unfold member_Good.f; rw [mclean_f _ hz.1, Option.bind_some, hc, if_neg (by decide)]) (mj0_f m true hz)
 | true =>
  cases hm : metaOk m.f3 with
  | false => exact Ev.congr (fun k => by unfold member_Good.f; rw [mclean_f _ hz.1, Option.bind_some, hc, if_pos rfl, mmeta_f, Option.bind_some, hm, if_neg (by decide)]) (mj0_f m true hz)
  | true =>
   by_cases a : (m.f4.length : Int) > 1048576
   ·rw [decide_eq_true (show 1048576 < m.f4.length by omega)]
    exact Ev.congr (fun k => by unfold member_Good.f; rw [mclean_f _ hz.1, Option.bind_some, hc, if_pos rfl, mmeta_f, Option.bind_some, hm, if_pos rfl, if_pos a]) (mj0_f m true hz)
   ·by_cases b : m.f2 = 48
    ·rw [decide_eq_false (show ¬ 1048576 < m.f4.length by omega), decide_eq_true b]
     exact Ev.congr (fun k => by unfold member_Good.f; rw [mclean_f _ hz.1, Option.bind_some, hc, if_pos rfl, mmeta_f, Option.bind_some, hm, if_pos rfl, if_neg a, if_pos b]) (mj0_f m false hz)
    ·have e : decide ((m.f4.length : Int) > 0) = decide (0 < m.f4.length) := decide_eq_decide.2 (by omega)
     rw [decide_eq_false (show ¬ 1048576 < m.f4.length by omega), decide_eq_false b]
     simp only [Bool.true_and, Bool.false_or, Bool.not_false]
     refine Ev.congr (fun k => ?_) (mj0_f m (decide (0 < m.f4.length)) hz)
     unfold member_Good.f
     rw [mclean_f _ hz.1, Option.bind_some, hc, if_pos rfl, mmeta_f, Option.bind_some, hm, if_pos rfl, if_neg a, if_neg b, e]
end Go.Proofs.YtfmphccoeinhcaaDoor

namespace Go.Proofs.YtfmphccoeinhcaaDoor
open Go.RowKit Go.Maps Go.Proofs.YtfmphccoeinhcaaDoor.Print Go.Proofs.YtfmphccoeinhcaaDoorW.PrintWords Go.Proofs.YtfmphccoeinhcaaDoorW.PrintLast Go.Proofs.YtfmphccoeinhcaaDoorW.PrintMore
set_option linter.unusedVariables false
set_option linter.unusedSimpArgs false
theorem bcell {W w1 : World} (hb : Below W.heap.size W w1) : (∀ b o, b < W.heap.size → w1.cell? ⟨b, o, none⟩ = W.cell? ⟨b, o, none⟩) ∧ (∀ b o, b < W.heap.size → w1.frozen? ⟨b, o, none⟩ = W.frozen? ⟨b, o, none⟩) :=
 ⟨fun b o h => hb.cell (p := ⟨b, o, none⟩) h, fun b o h => hb.frozen (p := ⟨b, o, none⟩) h⟩
end Go.Proofs.YtfmphccoeinhcaaDoor

namespace Go.Proofs.YtfmphccoeinhcaaDoor
open Go.RowKit Go.Maps Go.Proofs.YtfmphccoeinhcaaDoor.Print Go.Proofs.YtfmphccoeinhcaaDoorW.PrintWords Go.Proofs.YtfmphccoeinhcaaDoorW.PrintLast Go.Proofs.YtfmphccoeinhcaaDoorW.PrintMore
set_option linter.unusedVariables false
set_option linter.unusedSimpArgs false
set_option maxRecDepth 100000 in
set_option maxHeartbeats 1000000 in
theorem Clone_calls (A : Option Addr) (c : Nat) (xs : List Int) (W : World) (hC : Kd.C (Kd.int .u8) W A xs.length xs) (hl : xs.length ≤ 140737488351232) :
  Calls Tryd.prog 50 #[.slice A xs.length c] W fun e W' => ∃ v, e = .returned v ∧ Kd.R (Kd.int .u8) 5 W' W.heap.size (fun _ => True) v xs ∧ Below W.heap.size W W' := by
 rcases A with _ | ad
 ·have h0 : xs = [] := by
   rcases Nat.eq_zero_or_pos xs.length with h | h
   ·exact List.eq_nil_of_length_eq_zero h
   ·obtain ⟨ad, h1, _⟩ := hC.2.2 h
    cases h1
  subst h0
  have hcmp := fun (w : World) => Lib.run_eql_slice_nil (P := Tryd.prog) w 25 5 none 0 c 0 0 Tryd.underlying25
  go_enter Tryd.func50, Tryd.ntmps50
  go_wp2
  go_ret
  exact ⟨_, rfl, Kd.R_nil _ _ _ _ _, Below.refl _ _⟩
 ·have hcmp := fun (w : World) => Lib.run_eql_slice_nil (P := Tryd.prog) w 25 5 (some ad) xs.length c 0 0 Tryd.underlying25
  have hown := own_lit W W.heap.size 5 .u8 [] (Nat.le_refl _) (by decide)
  have HC := Aside0.mk hC
  have HO := Aside0.mk hown
  clear hC hown
  go_enter Tryd.func50, Tryd.ntmps50
  go_wp2_with (at_builtin; refine Kd.R_append_row (Value.int .u8) (0 : Int) (h1 := fun _ => rfl) (w0 := W) W.heap.size rfl _ _ 25 5 (.int .u8 0) 1 rfl Tryd.underlying25 infoU8 rfl (by decide) (.slice (some ⟨W.heap.size, 0, none⟩) 0 0) [] xs (some ad) xs.length c (fun _ => True) rfl rfl (fun _ _ => trivial) (Kd.R_of_own (enc := Value.int .u8) (h1 := fun _ => rfl) HO.out (fun _ _ => trivial)) (Kd.C_alloc HC.out _) ((Below.refl _ _).alloc (Nat.le_refl _) _) (by simp) (by simp; omega) ?_; intro v1 w1 hr1 hb1 hg1 hat1)
  go_ret
  exact ⟨_, rfl, hr1, hb1⟩
end Go.Proofs.YtfmphccoeinhcaaDoor

namespace Go.Proofs.YtfmphccoeinhcaaDoor
open Go.RowKit Go.Maps Go.Proofs.YtfmphccoeinhcaaDoor.Print Go.Proofs.YtfmphccoeinhcaaDoorW.PrintWords Go.Proofs.YtfmphccoeinhcaaDoorW.PrintLast Go.Proofs.YtfmphccoeinhcaaDoorW.PrintMore
set_option linter.unusedVariables false
set_option linter.unusedSimpArgs false
theorem Find1_calls (x : Node) (A : Option Addr) (n c : Nat) (p : ByteArray) (W : World) :
  Calls Tryd.prog 70 #[.agg #[.string x.f0, .string x.f1, .string x.f2, .int .u8 x.f3, .int .i64 x.f4.f0, .int .i64 x.f4.f1, .int .i64 x.f4.f2, .int .i64 x.f4.f3, .slice A n c], .string p] W fun e W' =>
   e = .returned (.int .i64 (Lib.compareBytes x.f0.data.toList p.data.toList)) ∧ Below W.heap.size W W' := by
 go_enter Tryd.func70, Tryd.ntmps70
 go_wp2_with (go_at_call 71; refine (Tryd.strings_Compare _ _ _).mono ?_; rintro e w' ⟨rfl, rfl⟩)
 go_ret
 exact ⟨rfl, (Below.refl _ _).alloc (Nat.le_refl _) _⟩
theorem rdN_at (l : List Node) (i : Int) (h0 : 0 ≤ i) (h1 : i < l.length) : rd_T38 l i = l[i.toNat]'(by omega) := by
 unfold rd_T38
 rw [List.getD_eq_getElem?_getD, List.getElem?_eq_getElem (by omega)]
 rfl
def FoundAt (l : List Node) (p : ByteArray) (n : Int) (b : Bool) : Prop :=
 0 ≤ n ∧ n ≤ l.length ∧ (b = true ↔ ∃ h : n.toNat < l.length, l[n.toNat].f0.toList = p.toList) ∧ (b = false → ∀ (i : Nat) (hi : i < l.length), l[i].f0.toList ≠ p.toList)
def SearchRel (l : List Node) (p : ByteArray) (W : World) (i j : Int) (wr : World) : Prop :=
 0 ≤ i ∧ i ≤ j ∧ j ≤ l.length ∧ (∀ (t : Nat) (ht : t < l.length), (t : Int) < i → lt l[t].f0 p = true) ∧ (∀ (t : Nat) (ht : t < l.length), j ≤ (t : Int) → lt l[t].f0 p = false) ∧ Below W.heap.size W wr
set_option maxRecDepth 100000 in
set_option maxHeartbeats 2000000 in
theorem Search_calls (A0 : Option Addr) (c0 : Nat) (l : List Node) (p : ByteArray) (W : World) (hC : Kd.C k38 W A0 l.length l) (hr : riseB l = true) (hz : NodesZ l) :
  Calls Tryd.prog 69 #[.slice A0 l.length c0, .string p, .func (.func 70) #[] #[]] W fun e W' => ∃ n b, e = .returned (.tuple #[.int .i64 n, .bool b]) ∧ FoundAt l p n b ∧ Below W.heap.size W W' := by
 have HC := Aside0.mk hC
 have HZ := Aside0.mk hz
 have HRI := Aside0.mk hr
 have hlen : (l.length : Int) ≤ 1000000000000 := by have := hz.1; omega
 clear hC hr hz
 generalize hpost : (fun (e : Ending) (W' : World) => ∃ n b, e = .returned (.tuple #[.int .i64 n, .bool b]) ∧ FoundAt l p n b ∧ Below W.heap.size W W') = Q
 have hQ := Aside0.mk hpost
 clear hpost
 go_enter Tryd.func69, Tryd.ntmps69
 go_wp2
 go_loopw [9, 10] (fun i j wr => ∃ n m : Int, i = .int .i64 n ∧ j = .int .i64 m ∧ Aside0 (SearchRel l p W n m wr)) (fun i j _ => (intOf j - intOf i).toNat)
 case atStart => exact ⟨0, _, rfl, rfl, ⟨⟨by omega, by omega, by omega, fun t ht h => by omega, fun t ht h => by omega, Below.refl _ _⟩⟩⟩
 case round =>
  obtain ⟨n, m, rfl, rfl, HR⟩ := hrel
  have h0 := HR.out.1
  have h1 := HR.out.2.1
  have h2 := HR.out.2.2.1
  have HB := Aside0.mk HR.out.2.2.2.2.2
  by_cases hlt : n < m
  ·have c1 : decide (n < m) = true := decide_eq_true hlt
   have hh0 : 0 ≤ (n + m) / 2 := by omega
   have hh1 : (n + m) / 2 < (l.length : Int) := by omega
   obtain ⟨ad, A7, c7, rfl, x0, x1, x2, x3, x4, x5, x6, x7, x8, hl7, hC7⟩ := at_T38 (Kd.C_below HC.out HB.out) ((n + m) / 2) hh0 hh1
   have hx := rdN_at l _ hh0 hh1
   generalize rd_T38 l ((n + m) / 2) = x at hx x0 x1 x2 x3 x4 x5 x6 x7 x8 hl7 hC7
   have HX := Aside0.mk hx
   clear hx hC7 hl7
   go_wp2_with (go_at_call 70; refine (Find1_calls x A7 x.f5.length c7 p _).mono ?_; rintro e w' ⟨rfl, hb⟩)
   ·have hn : Lib.compareBytes x.f0.data.toList p.data.toList < 0 := by assumption
    have hltx : lt x.f0 p = true := by rw [lt_data]; exact (cmp_neg _ _).1 hn
    have hfin : SearchRel l p W ((n + m) / 2 + 1) m w' := by
     refine ⟨by omega, by omega, h2, fun t ht h => ?_, HR.out.2.2.2.2.1, HB.out.trans (hb.mono HB.out.size)⟩
     rcases Nat.lt_or_ge t ((n + m) / 2).toNat with h3 | h3
     ·have := riseB_at HRI.out t ((n + m) / 2).toNat ht (by omega) h3
      rw [← HX.out] at this
      exact lt_trans this hltx
     ·have e : t = ((n + m) / 2).toNat := by omega
      subst e
      rw [← HX.out]; exact hltx
    clear hltx hn hb
    go_roundw
    case rel => exact ⟨_, _, rfl, rfl, ⟨hfin⟩⟩
    case measure => simp [intOf]; omega
   ·have hn : 0 ≤ Lib.compareBytes x.f0.data.toList p.data.toList := by assumption
    have hltx : lt x.f0 p = false := by
     rw [lt_data, Bool.eq_false_iff]
     intro h
     have := (cmp_neg _ _).2 h
     omega
    have hfin : SearchRel l p W n ((n + m) / 2) w' := by
     refine ⟨h0, by omega, by omega, HR.out.2.2.2.1, fun t ht h => ?_, HB.out.trans (hb.mono HB.out.size)⟩
     rcases Nat.lt_or_ge ((n + m) / 2).toNat t with h3 | h3
     ·have := riseB_at HRI.out ((n + m) / 2).toNat t (by omega) ht h3
      rw [← HX.out] at this
      cases h4 : lt l[t].f0 p with
      | false => rfl
      | true =>
       have := lt_trans this h4
       rw [hltx] at this
       cases this
     ·have e : t = ((n + m) / 2).toNat := by omega
      subst e
      rw [← HX.out]; exact hltx
    clear hltx hn hb
    go_roundw
    case rel => exact ⟨_, _, rfl, rfl, ⟨hfin⟩⟩
    case measure => simp [intOf]; omega
  ·have c1 : decide (n < m) = false := decide_eq_false hlt
   obtain rfl : n = m := by omega
   by_cases hnl : n < (l.length : Int)
   ·have c2 : decide (n < (l.length : Int)) = true := decide_eq_true hnl
    obtain ⟨ad, A7, c7, rfl, x0, x1, x2, x3, x4, x5, x6, x7, x8, hl7, hC7⟩ := at_T38 (Kd.C_below HC.out HB.out) n h0 hnl
    have hx := rdN_at l _ h0 hnl
    generalize rd_T38 l n = x at hx x0 x1 x2 x3 x4 x5 x6 x7 x8 hl7 hC7
    have HX := Aside0.mk hx
    clear hx hC7 hl7
    go_wp2_with (go_at_call 70; refine (Find1_calls x A7 x.f5.length c7 p _).mono ?_; rintro e w' ⟨rfl, hb⟩)
    rw [← hQ.out]
    refine ⟨n, _, rfl, ⟨h0, h2, ?_, ?_⟩, HB.out.trans (hb.mono HB.out.size)⟩
    ·rw [beq_iff_eq, cmp_zero, ← Lib.toList_data, ← Lib.toList_data]
     constructor
     ·intro h; exact ⟨by omega, by rw [← HX.out]; exact h⟩
     ·rintro ⟨_, h⟩; rw [← HX.out] at h; exact h
    ·intro h i hi he
     rw [beq_eq_false_iff_ne, ne_eq, cmp_zero, ← Lib.toList_data, ← Lib.toList_data] at h
     rcases Nat.lt_trichotomy i n.toNat with h3 | h3 | h3
     ·exact lt_ne (HR.out.2.2.2.1 i hi (by omega)) he
     ·subst h3; rw [← HX.out] at he; exact h he
     ·have h4 := riseB_at HRI.out n.toNat i (by omega) hi h3
      have h5 := HR.out.2.2.2.2.1 n.toNat (by omega) (by omega)
      have h6 : lt l[n.toNat].f0 p = lt l[n.toNat].f0 l[i].f0 := by unfold lt; rw [he]
      rw [h6, h4] at h5
      cases h5
   ·have c2 : decide (n < (l.length : Int)) = false := decide_eq_false hnl
    go_wp2
    rw [← hQ.out]
    refine ⟨n, false, rfl, ⟨h0, h2, ⟨fun h => (by cases h), fun ⟨h, _⟩ => absurd h (by omega)⟩, fun _ i hi he => ?_⟩, HB.out⟩
    exact lt_ne (HR.out.2.2.2.1 i hi (by omega)) he
theorem below_put {B : Nat} {a w : World} (h : Below B a w) (g j : Nat) (hg : B ≤ g) (u : Value) : Below B a (w.setCell ⟨g, j, none⟩ u) := h.setCell (p := ⟨g, j, none⟩) hg u
theorem row_put {α : Type} {d : Kd α} {e base B : Nat} {w : World} {v : Value} {xs : List α} (h : d.R e w base (fun k => B ≤ k) v xs) (g j : Nat) (hg : g < B) (u : Value) : d.R e (w.setCell ⟨g, j, none⟩ u) base (fun k => B ≤ k) v xs :=
 Kd.R_far h (p := ⟨g, j, none⟩) (fun k hk e => by have : k = g := e; omega) u
def nodeCells (x : Node) (v : Value) : Array Value := #[.string x.f0, .string x.f1, .string x.f2, .int .u8 x.f3, .int .i64 x.f4.f0, .int .i64 x.f4.f1, .int .i64 x.f4.f2, .int .i64 x.f4.f3, v]
set_option maxRecDepth 100000 in
set_option maxHeartbeats 2000000 in
theorem Find_calls (A0 : Option Addr) (c0 : Nat) (l : List Node) (p : ByteArray) (W : World) (hC : Kd.C k38 W A0 l.length l) (hr : riseB l = true) (hz : NodesZ l) :
  Calls Tryd.prog 54 #[.slice A0 l.length c0, .string p] W fun e W' => ∃ x b v, (match findF l p with | some y => x = y ∧ b = true | none => x = z38 ∧ b = false) ∧ e = .returned (.tuple #[.agg (nodeCells x v), .bool b]) ∧ Kd.R (Kd.int .u8) 5 W' W.heap.size (fun _ => True) v x.f5 ∧ Below W.heap.size W W' := by
 have cS := fun W2 (h : Kd.C k38 W2 A0 l.length l) => Search_calls A0 c0 l p W2 h hr hz
 have HC := Aside0.mk hC
 have HZ := Aside0.mk hz
 have HS := Aside0.mk cS
 have HRI := Aside0.mk hr
 have hlen : (l.length : Int) ≤ 1000000000000 := by have := hz.1; omega
 clear hC hz cS hr
 generalize hpost : (fun (e : Ending) (W' : World) => ∃ x b v, (match findF l p with | some y => x = y ∧ b = true | none => x = z38 ∧ b = false) ∧ e = .returned (.tuple #[.agg (nodeCells x v), .bool b]) ∧ Kd.R (Kd.int .u8) 5 W' W.heap.size (fun _ => True) v x.f5 ∧ Below W.heap.size W W') = Q
 have hQ := Aside0.mk hpost
 clear hpost
 go_enter Tryd.func54, Tryd.ntmps54
 go_wp2_with (first
  | (go_at_call 69; refine (HS.out _ (Kd.C_alloc HC.out _)).mono ?_; rintro e w1 ⟨n, b, rfl, hF, hb1⟩; have HF := Aside0.mk hF; clear hF; obtain ⟨hc1, hf1⟩ := bcell hb1; have hz1 : W.heap.size < w1.heap.size := Nat.lt_of_lt_of_le (by simp) hb1.size; have HB1 := Aside0.mk hb1; clear hb1; cases b; all_goals (first | (obtain ⟨hnl, he⟩ := HF.out.2.2.1.1 rfl; have h0 := HF.out.1; have h1 : n < (l.length : Int) := (by omega); have HE := Aside0.mk he; clear he; obtain ⟨ad, A7, c7, rfl, x0, x1, x2, x3, x4, x5, x6, x7, x8, hl7, hC7⟩ := at_T38 (Kd.C_below HC.out (((Below.refl _ _).alloc (Nat.le_refl _) _).trans (HB1.out.mono (by simp)))) n h0 h1; have hx := rdN_at l _ h0 h1; generalize rd_T38 l n = x at hx x0 x1 x2 x3 x4 x5 x6 x7 x8 hl7 hC7; have HX := Aside0.mk hx; have HC7 := Aside0.mk hC7; clear hx hC7) | skip))
  | (go_at_call 50; refine (Clone_calls A7 c7 x.f5 _ (Kd.C_alloc HC7.out _) (by rw [HX.out]; exact (HZ.out.2 _ (List.getElem_mem _)).2.2.2)).mono ?_; rintro e w2 ⟨v, rfl, hR2, hb2⟩; obtain ⟨Av, cv, rfl, hlv, hCv⟩ := Kd.R_reads hR2; clear hlv hCv; obtain ⟨hc2, hf2⟩ := bcell hb2; have HR2 := Aside0.mk hR2; have HB2 := Aside0.mk hb2; clear hR2 hb2))
 ·have hB1 := ((Below.refl W.heap.size W).alloc (Nat.le_refl _) _).trans (HB1.out.mono (by simp))
  refine bodyPost_ret (v := .tuple #[.agg (nodeCells z38 (.slice none 0 0)), .bool false]) (by simp [results, Tryd.results54, go_sem, hc1, hz1, nodeCells, z38, z24]) rfl ?_
  have hfn := findF_none p (HF.out.2.2.2 rfl)
  rw [← hQ.out]
  refine ⟨z38, false, .slice none 0 0, by rw [hfn]; exact ⟨rfl, rfl⟩, rfl, Kd.R_nil _ _ _ _ _, ?_⟩
  repeat (with_reducible refine below_put ?_ _ _ (Nat.le_refl _) _)
  exact hB1
 ·have hB1 := ((Below.refl W.heap.size W).alloc (Nat.le_refl _) _).trans (HB1.out.mono (by simp))
  have hB2 := (hB1.alloc (by have := hB1.size; omega) _).trans (HB2.out.mono (by have := hB1.size; simp; omega))
  have hw2 := fun j => (hc2 W.heap.size j (by simp; omega)).trans ((((Below.refl w1.heap.size w1).alloc (Nat.le_refl _) _).cell (p := ⟨W.heap.size, j, none⟩) hz1).trans (hc1 W.heap.size j (by simp)))
  have hne1 : ¬ w1.heap.size = W.heap.size := by omega
  have hne2 : ¬ W.heap.size = w1.heap.size := by omega
  clear hc1 hf1 hc2 hf2
  refine bodyPost_ret (v := .tuple #[.agg (nodeCells x (.slice Av x.f5.length cv)), .bool true]) (by simp [results, Tryd.results54, go_sem, hw2, hne1, hne2, nodeCells]) rfl ?_
  have hfn := findF_at HRI.out p n.toNat hnl HE.out
  rw [← hQ.out]
  refine ⟨x, true, .slice Av x.f5.length cv, by rw [hfn, ← HX.out]; exact ⟨rfl, rfl⟩, rfl, ?_, ?_⟩
  ·have hR : (Kd.int .u8).R 5 w2 (w1.heap.size + 1) (fun k => w1.heap.size + 1 ≤ k) (.slice Av x.f5.length cv) x.f5 := Kd.R_mono (Kd.R_bound (by have := HR2.out; simpa using this)) (fun k hk => hk.2.1)
   refine Kd.R_lower (base := w1.heap.size + 1) (Kd.R_mono (ok := fun k => w1.heap.size + 1 ≤ k) ?_ (fun _ _ => trivial)) (by omega)
   repeat (with_reducible refine row_put ?_ _ _ (by omega) _)
   exact hR
  ·repeat (with_reducible refine below_put ?_ _ _ (by omega) _)
   exact hB2
end Go.Proofs.YtfmphccoeinhcaaDoor

namespace Go.Proofs.YtfmphccoeinhcaaDoor
open Go.RowKit Go.Maps Go.Proofs.YtfmphccoeinhcaaDoor.Print Go.Proofs.YtfmphccoeinhcaaDoorW.PrintWords Go.Proofs.YtfmphccoeinhcaaDoorW.PrintLast Go.Proofs.YtfmphccoeinhcaaDoorW.PrintMore
set_option linter.unusedVariables false
set_option linter.unusedSimpArgs false
theorem zeroStr (w : World) : (zeroValue 9).run Tryd.prog w = .ok (.string ⟨#[]⟩) w := by kernel_rfl
end Go.Proofs.YtfmphccoeinhcaaDoor

namespace Go.Proofs.YtfmphccoeinhcaaDoor
open Go.RowKit Go.Maps Go.Proofs.YtfmphccoeinhcaaDoor.Print Go.Proofs.YtfmphccoeinhcaaDoorW.PrintWords Go.Proofs.YtfmphccoeinhcaaDoorW.PrintLast Go.Proofs.YtfmphccoeinhcaaDoorW.PrintMore
set_option linter.unusedVariables false
set_option linter.unusedSimpArgs false
theorem fkeep {w w1 : World} {p : Addr} {v : Value} (hb : Below w.heap.size w w1) (h : w.cell? p = some v) : w1.cell? p = some v := (hb.cell (World.block_lt_of_cell? w _ h)).trans h
def thingCells (m : Mem) (v : Value) (ld : ByteArray) : Array Value := #[.int .u8 m.f2, .int .i64 m.f3.f0, .int .i64 m.f3.f1, .int .i64 m.f3.f2, .int .i64 m.f3.f3, .string m.f1, v, .string ld]
def ThingAt (w : World) (base b : Nat) (m : Mem) (ld : ByteArray) : Prop :=
 base ≤ b ∧ ∃ v, w.heap[b]? = some (.cells (thingCells m v ld) 102 (0, 0)) ∧ Kd.R (Kd.int .u8) 5 w base (fun _ => True) v m.f4
theorem blk_lt' {w : World} {b : Nat} {o : Obj} (h : w.heap[b]? = some o) : b < w.heap.size := (Array.getElem?_eq_some_iff.1 h).1
theorem ThingAt.lt {w : World} {base b : Nat} {m : Mem} {ld : ByteArray} (h : ThingAt w base b m ld) : b < w.heap.size := by
 obtain ⟨_, v, hb, _⟩ := h
 exact blk_lt' hb
theorem ThingAt.below {w w1 : World} {base b : Nat} {m : Mem} {ld : ByteArray} (h : ThingAt w base b m ld) (hb : Below w.heap.size w w1) : ThingAt w1 base b m ld := by
 obtain ⟨h0, v, h1, h2⟩ := h
 exact ⟨h0, v, (hb.block b (blk_lt' h1)).trans h1, Kd.R_below h2 hb⟩
theorem ThingAt.grown {w w1 : World} {base b g : Nat} {m : Mem} {ld : ByteArray} (h : ThingAt w base b m ld) (hg : w.grownBy w1 (some g)) (ho : ∀ cs q, w.heap[g]? = some (.cells cs q (0, 0)) → q ≠ 102 ∧ q ≠ 5) : ThingAt w1 base b m ld := by
 obtain ⟨h0, v, h1, h2⟩ := h
 refine ⟨h0, v, (hg.block b (blk_lt' h1) (fun e => by injection e with e; subst e; exact (ho _ _ h1).1 rfl)).trans h1, ?_⟩
 refine Kd.R_mono (Kd.R_grown (Kd.R_bound h2) hg (fun k hk e => ?_)) (fun _ _ => trivial)
 injection e with e
 subst e
 obtain ⟨_, _, _, q, hq, cs, hc⟩ := hk
 have hq2 : q = 5 := by
  rcases List.mem_cons.1 hq with h | h
  ·exact h
  ·cases h
 subst hq2
 exact (ho _ _ hc).2 rfl
theorem MapS.isMap {P : Program} {K : TypeId} {w : World} {b n : Nat} {f : List UInt8 → Option Value} (h : MapS P K w b n f) : ∀ cs q, w.heap[b]? = some (.cells cs q (0, 0)) → False := by
 obtain ⟨D, ⟨es, clock, hb, _⟩, _⟩ := h
 intro cs q h2
 rw [hb] at h2
 cases h2
def dirV (B : Nat → Nat) (s : PS) : List UInt8 → Option Value := fun k => (atD s k).map (fun c => Value.pointer (some ⟨B c, 0, none⟩))
def DirS (w : World) (base d i : Nat) (l : List Mem) (s : PS) (B : Nat → Nat) : Prop :=
 MapS Tryd.prog 9 w d i (dirV B s) ∧ (∀ c m, l[c]? = some m → c < i → ¬ m.f2 = 49 → ThingAt w base (B c) m emp) ∧
  (∀ c c' m m', c < c' → c' < i → l[c]? = some m → ¬ m.f2 = 49 → l[c']? = some m' → ¬ m'.f2 = 49 → B c ≠ B c')
theorem dirV_put (B : Nat → Nat) (s : PS) (p : ByteArray) (c : Nat) (t : List UInt8) : putS (dirV B s) p.data.toList (.pointer (some ⟨B c, 0, none⟩)) t = dirV B (putP s p c) t := by
 unfold putS dirV
 rw [atD_put]
 by_cases h : t = p.data.toList
 ·rw [if_pos h, if_pos h]; rfl
 ·rw [if_neg h, if_neg h]
theorem dirV_eq {B B' : Nat → Nat} {s : PS} (h : ∀ q ∈ s, B q.2 = B' q.2) (t : List UInt8) : dirV B s t = dirV B' s t := by
 unfold dirV
 cases ha : atD s t with
 | none => rfl
 | some c =>
  obtain ⟨q, hq, _, rfl⟩ := atD_mem ha
  simp [h q hq]
theorem DirS.start (w : World) (base : Nat) (l : List Mem) (B : Nat → Nat) : DirS (w.alloc (.map #[] 0)) base w.heap.size 0 l [] B :=
 ⟨(MapS.made _ _ _).ext (fun s => rfl), fun c m _ h => absurd h (Nat.not_lt_zero _), fun c c' m m' _ h => absurd h (Nat.not_lt_zero _)⟩
theorem DirS.below {w w1 : World} {base d i : Nat} {l : List Mem} {s : PS} {B : Nat → Nat} (h : DirS w base d i l s B) (hb : Below w.heap.size w w1) : DirS w1 base d i l s B :=
 ⟨h.1.below hb, fun c m hm hc h49 => (h.2.1 c m hm hc h49).below hb, h.2.2⟩
theorem DirS.name {w w1 : World} {base d i : Nat} {l : List Mem} {s : PS} {B : Nat → Nat} (h : DirS w base d i l s B) {m : Mem} (hm : l[i]? = some m) (h49 : m.f2 = 49) {p : ByteArray} {c : Nat} (hM : MapS Tryd.prog 9 w1 d (i + 1) (putS (dirV B s) p.data.toList (.pointer (some ⟨B c, 0, none⟩)))) (hg : w.grownBy w1 (some d)) :
  DirS w1 base d (i + 1) l (putP s p c) B := by
 refine ⟨hM.ext (dirV_put B s p c), fun c' m' hm' hc' hn => ?_, fun c1 c2 m1 m2 h1 h2 h3 h4 h5 h6 => ?_⟩
 ·have hlt : c' < i := by
   rcases Nat.lt_or_ge c' i with h1 | h1
   ·exact h1
   ·obtain rfl : c' = i := by omega
    rw [hm] at hm'
    cases hm'
    exact absurd h49 hn
  exact (h.2.1 c' m' hm' hlt hn).grown hg (fun cs q hc => (h.1.isMap cs q hc).elim)
 ·refine h.2.2 c1 c2 m1 m2 h1 ?_ h3 h4 h5 h6
  rcases Nat.lt_or_ge c2 i with h7 | h7
  ·exact h7
  ·obtain rfl : c2 = i := by omega
   rw [hm] at h5
   cases h5
   exact absurd h49 h6
theorem DirS.add {w w1 : World} {base d i : Nat} {l : List Mem} {s : PS} {B : Nat → Nat} (h : DirS w base d i l s B) (hI : FInv l i s) {m : Mem} (hm : l[i]? = some m) {b : Nat} (hb : ∀ c m', l[c]? = some m' → c < i → ¬ m'.f2 = 49 → B c < b) (hT : ThingAt w base b m emp)
  {p : ByteArray} (hM : MapS Tryd.prog 9 w1 d (i + 1) (putS (dirV B s) p.data.toList (.pointer (some ⟨b, 0, none⟩)))) (hg : w.grownBy w1 (some d)) :
  DirS w1 base d (i + 1) l (putP s p i) (fun c => if c = i then b else B c) := by
 have hB : ∀ q ∈ s, B q.2 = (fun c => if c = i then b else B c) q.2 := fun q hq => by
  have := (hI.cls q hq).1
  dsimp only
  rw [if_neg (by omega)]
 refine ⟨hM.ext (fun t => ?_), fun c m' hm' hc hn => ?_, fun c1 c2 m1 m2 h1 h2 h3 h4 h5 h6 => ?_⟩
 ·rw [← dirV_put]
  unfold putS
  rw [dirV_eq (B' := fun c => if c = i then b else B c) hB]
  simp
 ·by_cases e : c = i
  ·subst e
   rw [hm] at hm'
   cases hm'
   dsimp only
   rw [if_pos rfl]
   exact hT.grown hg (fun cs q hc => (h.1.isMap cs q hc).elim)
  ·dsimp only
   rw [if_neg e]
   exact (h.2.1 c m' hm' (by omega) hn).grown hg (fun cs q hc => (h.1.isMap cs q hc).elim)
 ·dsimp only
  rw [if_neg (show ¬ c1 = i by omega)]
  by_cases e : c2 = i
  ·rw [if_pos e]
   have := hb c1 m1 h3 (by omega) h4
   omega
  ·rw [if_neg e]
   exact h.2.2 c1 c2 m1 m2 h1 (by omega) h3 h4 h5 h6
end Go.Proofs.YtfmphccoeinhcaaDoor

namespace Go.Proofs
open Go.Shelf
def Tryd.keys52_ren : Go.Shelf.Ren := ⟨fun | 7 => 52 | 10 => 68 | n => n, fun | 23 => 82 | 26 => 9 | 3 => 38 | 28 => 92 | 0 => 0 | 27 => 91 | 33 => 73 | 4 => 4 | n => n, fun | n => n⟩
theorem Tryd.keys52 : Go.Proofs.SlLaysZ.n7 Tryd.prog Tryd.keys52_ren := {
  mixed := by kernel_rfl
  f7 := ⟨Tryd.f52.name, by decide, Tryd.func52.trans (congrArg some (by kernel_rfl))⟩
  f10 := ⟨Tryd.f68.name, by decide, Tryd.func68.trans (congrArg some (by kernel_rfl))⟩
  t0 := Tryd.underlying0
  a0 := Tryd.isAgg0
  z0 := Tryd.sizeOf0
  v0 := Tryd.zeroValue0
  t4 := Tryd.underlying4
  a4 := Tryd.isAgg4
  z4 := Tryd.sizeOf4
  v4 := Tryd.zeroValue4
  t23 := Tryd.underlying82
  a23 := Tryd.isAgg82
  z23 := Tryd.sizeOf82
  v23 := Tryd.zeroValue82
  t26 := Tryd.underlying9
  a26 := Tryd.isAgg9
  z26 := Tryd.sizeOf9
  v26 := Tryd.zeroValue9
  t27 := Tryd.underlying91
  a27 := Tryd.isAgg91
  z27 := Tryd.sizeOf91
  v27 := Tryd.zeroValue91
  t28 := Tryd.underlying92
  a28 := Tryd.isAgg92
  z28 := Tryd.sizeOf92
  v28 := Tryd.zeroValue92
  t33 := Tryd.underlying73
  a33 := Tryd.isAgg73
  z33 := Tryd.sizeOf73
  v33 := Tryd.zeroValue73 }
def Tryd.sorted51_ren : Go.Shelf.Ren := ⟨fun | 6 => 51 | 8 => 66 | 9 => 67 | 11 => 78 | 13 => 80 | 12 => 79 | 23 => 96 | 24 => 97 | 14 => 87 | 15 => 88 | 16 => 89 | 17 => 90 | 18 => 91 | 19 => 92 | 20 => 93 | 21 => 94 | 22 => 95 | 25 => 106 | 26 => 107 | 27 => 108 | 28 => 109 | 29 => 110 | 30 => 111 | 31 => 117 | n => n, fun | 26 => 9 | 28 => 92 | 24 => 67 | 0 => 0 | 3 => 3 | 37 => 117 | 48 => 129 | 50 => 131 | 4 => 4 | 40 => 123 | 39 => 122 | 45 => 107 | 5 => 5 | 9 => 9 | 51 => 147 | 55 => 151 | 57 => 156 | 58 => 157 | 33 => 73 | n => n, fun | n => n⟩
theorem Tryd.sorted51 : Go.Proofs.SlLaysZ.n6 Tryd.prog Tryd.sorted51_ren := {
  mixed := by kernel_rfl
  f6 := ⟨Tryd.f51.name, by decide, Tryd.func51.trans (congrArg some (by kernel_rfl))⟩
  f8 := ⟨Tryd.f66.name, by decide, Tryd.func66.trans (congrArg some (by kernel_rfl))⟩
  f11 := ⟨Tryd.f78.name, by decide, Tryd.func78.trans (congrArg some (by kernel_rfl))⟩
  t0 := Tryd.underlying0
  a0 := Tryd.isAgg0
  z0 := Tryd.sizeOf0
  v0 := Tryd.zeroValue0
  t24 := Tryd.underlying67
  a24 := Tryd.isAgg67
  z24 := Tryd.sizeOf67
  v24 := Tryd.zeroValue67
  t26 := Tryd.underlying9
  a26 := Tryd.isAgg9
  z26 := Tryd.sizeOf9
  v26 := Tryd.zeroValue9
  t28 := Tryd.underlying92
  a28 := Tryd.isAgg92
  z28 := Tryd.sizeOf92
  v28 := Tryd.zeroValue92
  i26 := by kernel_rfl }
def Tryd.sort67_ren : Go.Shelf.Ren := ⟨fun | 6 => 67 | 8 => 80 | 9 => 79 | 19 => 96 | 20 => 97 | 21 => 87 | 22 => 88 | 23 => 89 | 24 => 90 | 25 => 91 | 26 => 92 | 27 => 93 | 28 => 94 | 29 => 95 | 36 => 106 | 31 => 107 | 32 => 108 | 37 => 109 | 38 => 110 | 39 => 111 | 41 => 117 | n => n, fun | 27 => 67 | 29 => 9 | 3 => 3 | 32 => 117 | 26 => 67 | 0 => 0 | 44 => 129 | 46 => 131 | 4 => 4 | 36 => 123 | 35 => 122 | 41 => 107 | 5 => 5 | 9 => 9 | 53 => 147 | 57 => 151 | 63 => 156 | 64 => 157 | n => n, fun | n => n⟩
theorem Tryd.sort67 : Go.Proofs.SlLaysM.n6 Tryd.prog Tryd.sort67_ren := {
  mixed := by kernel_rfl
  f6 := ⟨Tryd.f67.name, by decide, Tryd.func67.trans (congrArg some (by kernel_rfl))⟩
  f8 := Tryd.func80.trans (congrArg some (by kernel_rfl))
  f9 := ⟨Tryd.f79.name, by decide, Tryd.func79.trans (congrArg some (by kernel_rfl))⟩
  f19 := Tryd.func96.trans (congrArg some (by kernel_rfl))
  f20 := Tryd.func97.trans (congrArg some (by kernel_rfl))
  f21 := ⟨Tryd.f87.name, by decide, Tryd.func87.trans (congrArg some (by kernel_rfl))⟩
  f22 := ⟨Tryd.f88.name, by decide, Tryd.func88.trans (congrArg some (by kernel_rfl))⟩
  f23 := ⟨Tryd.f89.name, by decide, Tryd.func89.trans (congrArg some (by kernel_rfl))⟩
  f24 := ⟨Tryd.f90.name, by decide, Tryd.func90.trans (congrArg some (by kernel_rfl))⟩
  f25 := ⟨Tryd.f91.name, by decide, Tryd.func91.trans (congrArg some (by kernel_rfl))⟩
  f26 := ⟨Tryd.f92.name, by decide, Tryd.func92.trans (congrArg some (by kernel_rfl))⟩
  f27 := ⟨Tryd.f93.name, by decide, Tryd.func93.trans (congrArg some (by kernel_rfl))⟩
  f28 := ⟨Tryd.f94.name, by decide, Tryd.func94.trans (congrArg some (by kernel_rfl))⟩
  f29 := ⟨Tryd.f95.name, by decide, Tryd.func95.trans (congrArg some (by kernel_rfl))⟩
  f31 := Tryd.func107.trans (congrArg some (by kernel_rfl))
  f32 := Tryd.func108.trans (congrArg some (by kernel_rfl))
  f36 := ⟨Tryd.f106.name, by decide, Tryd.func106.trans (congrArg some (by kernel_rfl))⟩
  f37 := ⟨Tryd.f109.name, by decide, Tryd.func109.trans (congrArg some (by kernel_rfl))⟩
  f38 := ⟨Tryd.f110.name, by decide, Tryd.func110.trans (congrArg some (by kernel_rfl))⟩
  f39 := ⟨Tryd.f111.name, by decide, Tryd.func111.trans (congrArg some (by kernel_rfl))⟩
  f41 := ⟨Tryd.f117.name, by decide, Tryd.func117.trans (congrArg some (by kernel_rfl))⟩
  t0 := Tryd.underlying0
  a0 := Tryd.isAgg0
  z0 := Tryd.sizeOf0
  v0 := Tryd.zeroValue0
  t3 := Tryd.underlying3
  a3 := Tryd.isAgg3
  z3 := Tryd.sizeOf3
  v3 := Tryd.zeroValue3
  t4 := Tryd.underlying4
  a4 := Tryd.isAgg4
  z4 := Tryd.sizeOf4
  v4 := Tryd.zeroValue4
  t5 := Tryd.underlying5
  a5 := Tryd.isAgg5
  z5 := Tryd.sizeOf5
  v5 := Tryd.zeroValue5
  t9 := Tryd.underlying9
  a9 := Tryd.isAgg9
  z9 := Tryd.sizeOf9
  v9 := Tryd.zeroValue9
  t26 := Tryd.underlying67
  a26 := Tryd.isAgg67
  z26 := Tryd.sizeOf67
  v26 := Tryd.zeroValue67
  t27 := Tryd.underlying67
  a27 := Tryd.isAgg67
  z27 := Tryd.sizeOf67
  v27 := Tryd.zeroValue67
  t29 := Tryd.underlying9
  a29 := Tryd.isAgg9
  z29 := Tryd.sizeOf9
  v29 := Tryd.zeroValue9
  t32 := Tryd.underlying117
  a32 := Tryd.isAgg117
  z32 := Tryd.sizeOf117
  v32 := Tryd.zeroValue117
  t35 := Tryd.underlying122
  a35 := Tryd.isAgg122
  z35 := Tryd.sizeOf122
  v35 := Tryd.zeroValue122
  t36 := Tryd.underlying123
  a36 := Tryd.isAgg123
  z36 := Tryd.sizeOf123
  v36 := Tryd.zeroValue123
  t41 := Tryd.underlying107
  a41 := Tryd.isAgg107
  z41 := Tryd.sizeOf107
  v41 := Tryd.zeroValue107
  t44 := Tryd.underlying129
  a44 := Tryd.isAgg129
  z44 := Tryd.sizeOf129
  v44 := Tryd.zeroValue129
  t46 := Tryd.underlying131
  a46 := Tryd.isAgg131
  z46 := Tryd.sizeOf131
  v46 := Tryd.zeroValue131
  t53 := Tryd.underlying147
  a53 := Tryd.isAgg147
  z53 := Tryd.sizeOf147
  v53 := Tryd.zeroValue147
  t57 := Tryd.underlying151
  a57 := Tryd.isAgg151
  z57 := Tryd.sizeOf151
  v57 := Tryd.zeroValue151
  t63 := Tryd.underlying156
  a63 := Tryd.isAgg156
  z63 := Tryd.sizeOf156
  v63 := Tryd.zeroValue156
  t64 := Tryd.underlying157
  a64 := Tryd.isAgg157
  z64 := Tryd.sizeOf157
  v64 := Tryd.zeroValue157 }
open Go.RowKit Go.Maps Go.Sort
theorem Tryd.sorts51 (m : Nat) : AnyZ.SortsIn Tryd.prog Tryd.sorted51_ren Fence.wide m :=
  ⟨fun blk off cap ss W hH hblk hsz => callsIn_wide.2 (AnyM.slices_Sort_string Tryd.sort67 blk off cap ss W hH hblk hsz),
   fun p cap W => callsIn_wide.2 (AnyM.slices_Sort_string_none Tryd.sort67 p cap W)⟩
theorem Tryd.maps_Keys_52 (mb : Option Nat) (W : World) : CallsIn Fence.wide 5 Tryd.prog 52 #[.map mb] W fun e w' => e = .returned (.func (.func 68) #[] #[.pointer (some ⟨W.heap.size, 0, none⟩)]) ∧ w' = W.alloc (.cells #[.map mb] 82) :=
  AnyZ.keys_in Tryd.keys52 Fence.wide 5 trivial rfl mb W
set_option maxHeartbeats 1000000 in
theorem Tryd.slices_Sorted_keys_51_52 {H : Type} (b nn : Nat) (D0 : DataW H) (R : Value → Option (DataW H × List MemPlace)) (w : World) (hown : w.ownsMap Tryd.prog 9 R b nn D0) (hmax : Maps.size D0 ≤ maxLen) (hbytes : Maps.size D0 * 16 ≤ 140737488355328) :
    CallsIn Fence.wide 5 Tryd.prog 51 #[.func (.func 68) #[] #[.pointer (some ⟨w.heap.size, 0, none⟩)]] (w.alloc (.cells #[.map (some b)] 82)) fun e w' => ∃ (v : Value) (ss : List (List UInt8)), e = .returned v ∧ ss.Perm (strKeys D0) ∧
      w'.ownsRow (w.alloc (.cells #[.map (some b)] 82)).heap.size 9 1 v ss.length ((ss.mergeSort (fun x y => decide (x ≤ y))).map encStr) ∧ (v = .slice none 0 0 ↔ ss = []) ∧ Below (w.alloc (.cells #[.map (some b)] 82)).heap.size (w.alloc (.cells #[.map (some b)] 82)) w' := by
  have hbl := hown.lt
  have hseq : SeqGives Fence.wide 2 Tryd.prog 68 #[.pointer (some ⟨w.heap.size, 0, none⟩)] encStr (fun ss => ss.Perm (strKeys D0)) (Maps.size D0) (w.alloc (.cells #[.map (some b)] 82)) :=
    AnyZ.keys_gives (ρ := Tryd.keys52_ren) { Tryd.keys52 with } Fence.wide _ trivial rfl (by omega) w.heap.size b nn D0 _ (by simp) (by simp) (by
      obtain ⟨es, clock, hb, Ft, hs, hD⟩ := hown
      exact ⟨es, clock, (Below.heap_alloc _ _ b hbl).trans hb, Ft, hs, hD⟩)
  exact AnyZ.sorted_in Tryd.sorted51 Fence.wide 5 trivial trivial trivial trivial rfl (by omega) (Tryd.sorts51 _) (enters_of Tryd.func67 (by kernel_rfl) rfl) 68 #[.pointer (some ⟨w.heap.size, 0, none⟩)] trivial (enters_of Tryd.func68 (by kernel_rfl) rfl) _ _ hmax hbytes _ hseq
end Go.Proofs

namespace Go.Proofs.YtfmphccoeinhcaaDoor
open Go.RowKit Go.Maps Go.Proofs.YtfmphccoeinhcaaDoor.Print Go.Proofs.YtfmphccoeinhcaaDoorW.PrintWords Go.Proofs.YtfmphccoeinhcaaDoorW.PrintLast Go.Proofs.YtfmphccoeinhcaaDoorW.PrintMore
set_option linter.unusedVariables false
set_option linter.unusedSimpArgs false
def ldF (m : Mem) (s : PS) (c : Nat) : ByteArray := if m.f2 = 48 then leadOf s c else emp
def ThingsS (w : World) (base : Nat) (l : List Mem) (B : Nat → Nat) (s : PS) : Prop := ∀ c m, l[c]? = some m → ¬ m.f2 = 49 → ThingAt w base (B c) m (ldF m s c)
theorem ThingsS.below {w w1 : World} {base : Nat} {l : List Mem} {B : Nat → Nat} {s : PS} (h : ThingsS w base l B s) (hb : Below w.heap.size w w1) : ThingsS w1 base l B s := fun c m h1 h2 => (h c m h1 h2).below hb
theorem ThingsS.grown {w w1 : World} {base g : Nat} {l : List Mem} {B : Nat → Nat} {s : PS} (h : ThingsS w base l B s) (hg : w.grownBy w1 (some g)) (ho : ∀ cs q, w.heap[g]? = some (.cells cs q (0, 0)) → q ≠ 102 ∧ q ≠ 5) : ThingsS w1 base l B s := fun c m h1 h2 => (h c m h1 h2).grown hg ho
theorem ld_same {m : Mem} {s : PS} {q : ByteArray × Nat} {c : Nat} (h : m.f2 = 48 → q.2 = c → s.any (fun r => decide (r.2 = c)) = true) : ldF m (s ++ [q]) c = ldF m s c := by
 unfold ldF
 by_cases h48 : m.f2 = 48
 ·rw [if_pos h48, if_pos h48, leadOf_snoc]
  by_cases ha : s.any (fun r => decide (r.2 = c)) = true
  ·rw [if_pos ha]
  ·rw [if_neg ha, if_neg (fun e => ha (h h48 e))]
   have ha' : s.any (fun r => decide (r.2 = c)) = false := Bool.eq_false_iff.2 ha
   exact (leadOf_take_none (fun q hq e => by rw [List.any_eq_false] at ha'; exact ha' q hq (decide_eq_true e))).symm
 ·rw [if_neg h48, if_neg h48]
theorem ld_new {m : Mem} {s : PS} {q : ByteArray × Nat} (h48 : m.f2 = 48) (h : s.any (fun r => decide (r.2 = q.2)) = false) : ldF m (s ++ [q]) q.2 = q.1 := by
 unfold ldF
 rw [if_pos h48, leadOf_snoc, if_neg (by rw [h]; simp), if_pos rfl]
theorem ThingsS.stay {w : World} {base : Nat} {l : List Mem} {B : Nat → Nat} {s : PS} {q : ByteArray × Nat} (h : ThingsS w base l B s) (hq : ∀ m, l[q.2]? = some m → m.f2 = 48 → s.any (fun r => decide (r.2 = q.2)) = true) : ThingsS w base l B (s ++ [q]) := fun c m h1 h2 => by
 rw [ld_same (fun h48 e => by subst e; exact hq m h1 h48)]
 exact h c m h1 h2
theorem ThingsS.store {w : World} {base : Nat} {l : List Mem} {B : Nat → Nat} {s : PS} {q : ByteArray × Nat} (h : ThingsS w base l B s) {m : Mem} (hm : l[q.2]? = some m) (h48 : m.f2 = 48) (hn : s.any (fun r => decide (r.2 = q.2)) = false)
  (hinj : ∀ c c' m m', c < c' → l[c]? = some m → ¬ m.f2 = 49 → l[c']? = some m' → ¬ m'.f2 = 49 → B c ≠ B c') : ThingsS (w.setCell ⟨B q.2, 7, none⟩ (.string q.1)) base l B (s ++ [q]) := fun c m' h1 h2 => by
 obtain ⟨_, v0, hb0, _⟩ := h q.2 m hm (by omega)
 obtain ⟨g0, v, hb, hR⟩ := h c m' h1 h2
 have hR' := Kd.R_set hR hb0 (fun k hk => by
  rcases List.mem_cons.1 hk with rfl | hk
  ·decide
  ·cases hk) 7 (.string q.1)
 by_cases e : c = q.2
 ·subst e
  rw [hm] at h1
  cases h1
  rw [ld_new h48 hn]
  exact ⟨g0, v, blk_put hb 7 _ rfl, hR'⟩
 ·rw [ld_same (fun _ e2 => absurd e2.symm e)]
  have hne : B c ≠ B q.2 := by
   rcases Nat.lt_trichotomy c q.2 with h3 | h3 | h3
   ·exact hinj _ _ _ _ h3 h1 h2 hm (by omega)
   ·exact absurd h3 e
   ·exact (hinj _ _ _ _ h3 hm (by omega) h1 h2).symm
  exact ⟨g0, v, (Below.heap_setCell w ⟨B q.2, 7, none⟩ _ _ hne).trans hb, hR'⟩
theorem sorted_row {w : World} {b : Nat} {v : Value} {ss : List (List UInt8)} {s : PS} (h : w.ownsRow b 9 1 v ss.length ((ss.mergeSort (fun x y => decide (x ≤ y))).map encStr)) (hp : ss.Perm (keysP s)) (hn : (s.map (fun q => q.1)).Nodup) :
  (∃ A c, v = .slice A (sortP s).length c) ∧ Kd.R Kd.string 9 w b (fun _ => True) v ((sortP s).map (fun q => q.1)) := by
 have hR : Kd.R Kd.string 9 w b (fun _ => True) v ((sortP s).map (fun q => q.1)) := by
  refine Kd.R_of_own ?_ (fun _ _ => trivial)
  rw [keys_sorted hn hp] at h
  have e1 : ss.length = ((sortP s).map (fun q => q.1)).length := by rw [hp.length_eq, List.length_map, sortP_len]; unfold keysP; rw [List.length_map]
  rw [e1] at h
  have e2 : (keysP (sortP s)).map encStr = encs Value.string ((sortP s).map (fun q => q.1)) := by
   unfold keysP encs
   rw [List.map_map, List.map_map]
   refine List.map_congr_left (fun q _ => ?_)
   simp [encStr]
  rw [e2] at h
  exact h
 obtain ⟨A, c, e⟩ := Kd.R_slice hR
 exact ⟨⟨A, c, by rw [e, List.length_map]⟩, hR⟩
end Go.Proofs.YtfmphccoeinhcaaDoor

namespace Go.Proofs.YtfmphccoeinhcaaDoor
open Go.RowKit Go.Maps Go.Proofs.YtfmphccoeinhcaaDoor.Print Go.Proofs.YtfmphccoeinhcaaDoorW.PrintWords Go.Proofs.YtfmphccoeinhcaaDoorW.PrintLast Go.Proofs.YtfmphccoeinhcaaDoorW.PrintMore
set_option linter.unusedVariables false
set_option linter.unusedSimpArgs false
abbrev pilewA_0 : Array Bool := #[false, false, false, false, false, false, false, false, false, false, false, false, false, false, false, false, false, false, false, false, false]
abbrev pilewA_1 : Array Bool := tb_ 21 1
abbrev pilewA_2 : Array Bool := tb_ 21 3
abbrev pilewA_3 : Array Bool := tb_ 21 7
abbrev pilewA_4 : Array Bool := tb_ 21 15
abbrev pilewA_5 : Array Bool := tb_ 21 31
abbrev pilewA_6 : Array Bool := tb_ 21 63
abbrev pilewA_7 : Array Bool := tb_ 21 127
abbrev pilewA_8 : Array Bool := tb_ 21 255
abbrev pilewA_9 : Array Bool := tb_ 21 511
abbrev pilewA_10 : Array Bool := tb_ 21 1023
abbrev pilewA_11 : Array Bool := tb_ 21 2047
abbrev pilewA_12 : Array Bool := tb_ 21 4095
abbrev pilewA_13 : Array Bool := tb_ 21 8191
abbrev pilewA_14 : Array Bool := tb_ 21 16383
abbrev pilewA_15 : Array Bool := tb_ 21 32767
abbrev pilewA_16 : Array Bool := tb_ 21 65535
abbrev pilewA_17 : Array Bool := tb_ 21 131071
abbrev pilewA_18 : Array Bool := tb_ 21 262143
abbrev pilewA_19 : Array Bool := tb_ 21 524287
abbrev pilewA_20 : Array Bool := tb_ 21 1048575
abbrev pilewA_21 : Array Bool := tb_ 21 2097151
def atL (s : PL) (k : List UInt8) : Option PEnt := s.find? (fun e => decide (e.path.data.toList = k))
theorem atL_at (s : PL) (p : ByteArray) : atL s p.data.toList = atE s p := by
 unfold atL atE
 congr 1
 funext e
 rw [Lib.toList_data, Lib.toList_data]
theorem atL_put (s : PL) (e : PEnt) (k : List UInt8) : atL (putE s e) k = if k = e.path.data.toList then some e else atL s k := by
 have h := atL_at (putE s e) ⟨k.toArray⟩
 have h2 := atL_at s ⟨k.toArray⟩
 simp only at h h2
 rw [h, atE_put, h2]
 by_cases hk : k = e.path.data.toList
 ·have : (⟨k.toArray⟩ : ByteArray) = e.path := ba_data.1 (by simpa using hk)
  rw [if_pos this, if_pos hk]
 ·have : (⟨k.toArray⟩ : ByteArray) ≠ e.path := fun e2 => hk (by rw [← e2])
  rw [if_neg this, if_neg hk]
def keyV (e : PEnt) : Value := .agg #[.int .i64 e.tree, .string e.node.f2]
def nodV (V : List UInt8 → Value) (s : PL) : List UInt8 → Option Value := fun k => (atL s k).map (fun e => Value.agg (nodeCells e.node (V k)))
def keyM (s : PL) : List UInt8 → Option Value := fun k => (atL s k).map keyV
def EntZ (e : PEnt) : Prop := e.path.size ≤ 140737488351232 ∧ NodeZ e.node ∧ (Lit.int .i64 e.tree).wf = true
structure PileAt (w : World) (base g d1 d2 n : Nat) (s : PL) : Prop where
 fence : base ≤ g ∧ base ≤ d1 ∧ base ≤ d2 ∧ d1 ≠ d2
 box : w.heap[g]? = some (.cells #[.map (some d1), .map (some d2)] 85 (0, 0))
 nodes : ∃ V : List UInt8 → Value, MapS Tryd.prog 9 w d1 n (nodV V s) ∧ ∀ k e, atL s k = some e → Kd.R (Kd.int .u8) 5 w base (fun _ => True) (V k) e.node.f5
 keys : MapS Tryd.prog 9 w d2 n (keyM s)
 nodup : NodupE s
 small : ∀ e ∈ s, EntZ e
theorem PileAt.below {w w1 : World} {base g d1 d2 n : Nat} {s : PL} (h : PileAt w base g d1 d2 n s) (hb : Below w.heap.size w w1) : PileAt w1 base g d1 d2 n s := by
 obtain ⟨V, h1, h2⟩ := h.nodes
 exact ⟨h.fence, (hb.block g (blk_lt' h.box)).trans h.box, ⟨V, h1.below hb, fun k e he => Kd.R_below (h2 k e he) hb⟩, h.keys.below hb, h.nodup, h.small⟩
theorem R_turned {w w1 : World} {base b : Nat} {v : Value} {xs : List Int} (h : Kd.R (Kd.int .u8) 5 w base (fun _ => True) v xs) (hm : w.mapTurned w1 b) : Kd.R (Kd.int .u8) 5 w1 base (fun _ => True) v xs := by
 obtain ⟨es, clock, _, _, hb, _⟩ := id hm
 refine Kd.R_mono (Kd.R_grown (Kd.R_bound h) (turned_grown hm) (fun k hk e => ?_)) (fun _ _ => trivial)
 injection e with e
 subst e
 obtain ⟨_, _, _, q, hq, cs, hc⟩ := hk
 rw [hb] at hc
 cases hc
theorem turned_box {w w1 : World} {b g : Nat} {cs : Array Value} {t : TypeId} (hm : w.mapTurned w1 b) (h : w.heap[g]? = some (.cells cs t (0, 0))) : w1.heap[g]? = some (.cells cs t (0, 0)) ∧ g ≠ b := by
 obtain ⟨es, clock, _, _, hb, _⟩ := id hm
 have hne : g ≠ b := fun e => by
  subst e
  rw [hb] at h
  cases h
 exact ⟨((turned_grown hm).block g (blk_lt' h) (fun e => hne (by injection e))).trans h, hne⟩
theorem turned_below {base : Nat} {w w1 : World} {b : Nat} (hm : w.mapTurned w1 b) (hb : base ≤ b) (hs : base ≤ w.heap.size) : Below base w w1 := by
 have hg := turned_grown hm
 exact ⟨hg.os, hg.tape, hg.output, hg.size, fun k hk => hg.block k (by omega) (fun e => by injection e with e; omega)⟩
theorem boxed2 {w : World} {g : Nat} {a b : Value} {t : TypeId} (h : w.heap[g]? = some (.cells #[a, b] t (0, 0))) : w.cell? ⟨g, 0, none⟩ = some a ∧ w.cell? ⟨g, 1, none⟩ = some b := by
 refine ⟨?_, ?_⟩ <;> · unfold World.cell?; dsimp only; rw [h]; rfl
theorem put_cells {w : World} {g b d1 d2 : Nat} {x : Node} {v : Value} {t t' : TypeId} (h1 : w.heap[g]? = some (.cells #[.map (some d1), .map (some d2)] t (0, 0))) (h2 : w.heap[b]? = some (.cells (nodeCells x v) t' (0, 0))) :
  w.cell? ⟨g, 0, none⟩ = some (.map (some d1)) ∧ w.cell? ⟨g, 1, none⟩ = some (.map (some d2)) ∧ w.cell? ⟨b, 0, none⟩ = some (.string x.f0) ∧ w.cell? ⟨b, 1, none⟩ = some (.string x.f1) ∧ w.cell? ⟨b, 2, none⟩ = some (.string x.f2) ∧ w.cell? ⟨b, 3, none⟩ = some (.int .u8 x.f3) ∧ w.cell? ⟨b, 4, none⟩ = some (.int .i64 x.f4.f0) ∧ w.cell? ⟨b, 5, none⟩ = some (.int .i64 x.f4.f1) ∧ w.cell? ⟨b, 6, none⟩ = some (.int .i64 x.f4.f2) ∧ w.cell? ⟨b, 7, none⟩ = some (.int .i64 x.f4.f3) ∧ w.cell? ⟨b, 8, none⟩ = some v := by
 obtain ⟨q0, q1⟩ := boxed2 h1
 refine ⟨q0, q1, ?_, ?_, ?_, ?_, ?_, ?_, ?_, ?_, ?_⟩ <;> · unfold World.cell?; dsimp only; rw [h2]; rfl
theorem zeroNode (w : World) : (zeroValue 38).run Tryd.prog w = .ok (.agg #[.string ⟨#[]⟩, .string ⟨#[]⟩, .string ⟨#[]⟩, .int .u8 0, .int .i64 0, .int .i64 0, .int .i64 0, .int .i64 0, .slice none 0 0]) w := by kernel_rfl
theorem zeroKey (w : World) : (zeroValue 88).run Tryd.prog w = .ok (.agg #[.int .i64 0, .string ⟨#[]⟩]) w := by kernel_rfl
set_option maxRecDepth 100000 in
theorem New_calls (base : Nat) (W : World) (hbase : base ≤ W.heap.size) : Calls Tryd.prog 27 #[] W fun e W' => ∃ g d1 d2, e = .returned (.pointer (some ⟨g, 0, none⟩)) ∧ PileAt W' base g d1 d2 0 [] ∧ Below W.heap.size W W' := by
 have hmm := @run_makeMap Tryd.prog
 generalize hpost : (fun (e : Ending) (W' : World) => ∃ g d1 d2, e = .returned (.pointer (some ⟨g, 0, none⟩)) ∧ PileAt W' base g d1 d2 0 [] ∧ Below W.heap.size W W') = Q
 have hQ := Aside0.mk hpost
 clear hpost
 go_enter Tryd.func27, Tryd.ntmps27
 go_wp2
 rw [← hQ.out]
 have hm1 : MapS Tryd.prog 9 (((W.alloc (.map #[] 0)).alloc (.map #[] 0)).alloc (.cells #[.map (some W.heap.size), .map (some (W.heap.size + 1))] 85)) W.heap.size 0 (fun _ => none) := ((MapS.made _ _ W).alloc _).alloc _
 have hm2 : MapS Tryd.prog 9 (((W.alloc (.map #[] 0)).alloc (.map #[] 0)).alloc (.cells #[.map (some W.heap.size), .map (some (W.heap.size + 1))] 85)) (W.heap.size + 1) 0 (fun _ => none) := by
  have := (MapS.made Tryd.prog 9 (W.alloc (.map #[] 0))).alloc (.cells #[.map (some W.heap.size), .map (some (W.heap.size + 1))] 85)
  rw [World.size_alloc] at this
  exact this
 have hb1 := blk_new ((W.alloc (.map #[] 0)).alloc (.map #[] 0)) (.cells #[.map (some W.heap.size), .map (some (W.heap.size + 1))] 85)
 rw [World.size_alloc, World.size_alloc] at hb1
 refine ⟨W.heap.size + 1 + 1, W.heap.size, W.heap.size + 1, rfl, ⟨⟨by omega, by omega, by omega, by omega⟩, hb1, ⟨fun _ => undef, hm1.ext (fun s => rfl), fun k e h => by cases h⟩, hm2.ext (fun s => rfl), List.nodup_nil, fun e he => by cases he⟩, below_alloc (below_alloc (below_alloc (Below.refl _ _) _) _) _⟩
set_option maxRecDepth 100000 in
set_option maxHeartbeats 4000000 in
theorem Put_calls (base g d1 d2 n : Nat) (s : PL) (tr : Int) (x : Node) (A : Option Addr) (c : Nat) (p : ByteArray) (W : World) (hP : PileAt W base g d1 d2 n s) (hn : n < 1000000000) (hz : EntZ ⟨p, x, tr⟩) (hC : Kd.C (Kd.int .u8) W A x.f5.length x.f5) (hbase : base ≤ W.heap.size) :
  Calls Tryd.prog 28 #[.pointer (some ⟨g, 0, none⟩), .int .i64 tr, .agg (nodeCells x (.slice A x.f5.length c)), .string p] W fun e W' => e = .returned (.tuple #[]) ∧ PileAt W' base g d1 d2 (n + 1) (putE s ⟨p, x, tr⟩) ∧ Below base W W' := by
 have HP := Aside0.mk hP
 have HN := Aside0.mk hn
 have HZ := Aside0.mk hz
 have HC := Aside0.mk hC
 have HBS := Aside0.mk hbase
 clear hP hn hz hC
 generalize hpost : (fun (e : Ending) (W' : World) => e = .returned (.tuple #[]) ∧ PileAt W' base g d1 d2 (n + 1) (putE s ⟨p, x, tr⟩) ∧ Below base W W') = Q
 have hQ := Aside0.mk hpost
 clear hpost
 unfold nodeCells
 go_enter Tryd.func28, Tryd.ntmps28
 go_upto_region 3 with (first
  | (go_at_call 50; refine (Clone_calls A c x.f5 _ (Kd.C_alloc HC.out _) HZ.out.2.1.2.2.2).mono ?_; rintro e w1 ⟨vc, rfl, hRc, hB1⟩; obtain ⟨A8, c8, rfl, hl8, hC8⟩ := Kd.R_reads hRc; clear hl8 hC8; have HRC := Aside0.mk hRc; have HB1 := Aside0.mk hB1; have hk := fun o (v : Value) (h : (W.alloc (.cells #[.string x.f0, .string x.f1, .string x.f2, .int .u8 x.f3, .int .i64 x.f4.f0, .int .i64 x.f4.f1, .int .i64 x.f4.f2, .int .i64 x.f4.f3, .slice A x.f5.length c] 38)).cell? ⟨W.heap.size, o, none⟩ = some v) => fkeep hB1 h; have HKP := Aside0.mk hk; have hfz : w1.frozen? ⟨W.heap.size, 8, none⟩ = false := (by have hq := (hB1.block W.heap.size (by rw [World.size_alloc]; omega)).trans (blk_new W (.cells #[.string x.f0, .string x.f1, .string x.f2, .int .u8 x.f3, .int .i64 x.f4.f0, .int .i64 x.f4.f1, .int .i64 x.f4.f2, .int .i64 x.f4.f3, .slice A x.f5.length c] 38)); exact blk_frozen hq 8); have hc8 : w1.cell? ⟨W.heap.size, 8, none⟩ = some (.slice A x.f5.length c) := (by have hq := (hB1.block W.heap.size (by rw [World.size_alloc]; omega)).trans (blk_new W (.cells #[.string x.f0, .string x.f1, .string x.f2, .int .u8 x.f3, .int .i64 x.f4.f0, .int .i64 x.f4.f1, .int .i64 x.f4.f2, .int .i64 x.f4.f3, .slice A x.f5.length c] 38)); exact (blk_cell hq 8).trans rfl); clear hk hRc hB1)
  | fail)
 have f2 : ∃ w2 b0, w2 = w1.setCell ⟨W.heap.size, 8, none⟩ (.slice A8 x.f5.length c8) ∧ b0 = W.heap.size ∧ Below W.heap.size W w2 ∧ w2.heap[b0]? = some (.cells (nodeCells x (.slice A8 x.f5.length c8)) 38 (0, 0)) ∧ Kd.R (Kd.int .u8) 5 w2 base (fun _ => True) (.slice A8 x.f5.length c8) x.f5 := by
  have hb0 : Below W.heap.size W (W.alloc (.cells (nodeCells x (.slice A x.f5.length c)) 38)) := below_alloc (Below.refl _ _) _
  have hq := (HB1.out.block W.heap.size (by rw [World.size_alloc]; omega)).trans (blk_new W (.cells (nodeCells x (.slice A x.f5.length c)) 38))
  refine ⟨_, _, rfl, rfl, (hb0.trans (HB1.out.mono hb0.size)).setCell (Nat.le_refl _) _, blk_put (cs' := nodeCells x (.slice A8 x.f5.length c8)) hq 8 (.slice A8 x.f5.length c8) rfl, ?_⟩
  refine Kd.R_lower (Kd.R_set HRC.out hq (fun k hk => ?_) 8 (.slice A8 x.f5.length c8)) (Nat.le_trans HBS.out hb0.size)
  rcases List.mem_cons.1 hk with rfl | hk
  ·decide
  ·cases hk
 obtain ⟨w2, b0, e2, e0, hB2, hN2, hR2⟩ := f2
 rw [← e2]
 rw [← e0]
 have hwq : Below w2.heap.size w2 w2.drew := below_drew (Below.refl _ _)
 have hBq := hB2.trans (hwq.mono hB2.size)
 have hNq : w2.drew.heap[b0]? = some (.cells (nodeCells x (.slice A8 x.f5.length c8)) 38 (0, 0)) := hN2
 have hRq := Kd.R_below hR2 hwq
 have hPq := HP.out.below hBq
 obtain ⟨V, hM1, hV⟩ := hPq.nodes
 have hzp : p.size ≤ maxLen := by have := HZ.out.1; unfold maxLen; exact Nat.le_trans this (by decide)
 obtain ⟨va, sta, we1, hE1, hT1, hS1⟩ := hM1.entry (n := n) Tryd.underlying9 Tryd.underlying82 (by have := HN.out; unfold maxLen; omega) zeroNode hzp
 obtain ⟨we2, hE2, hM2, hT2⟩ := hS1 (.agg (nodeCells x (.slice A8 x.f5.length c8)))
 have hK2 := hPq.keys.kept (turned_grown hT2) (by have := hPq.fence; simp; omega)
 obtain ⟨vb, stb, we3, hE3, hT3, hS3⟩ := hK2.entry (n := n) Tryd.underlying9 Tryd.underlying83 (by have := HN.out; unfold maxLen; omega) zeroKey hzp
 obtain ⟨we4, hE4, hM4, hT4⟩ := hS3 (.agg #[.int .i64 tr, .string x.f2])
 have hg0 := hPq.box
 have hb0 := hNq
 obtain ⟨hga, _⟩ := turned_box hT1 hg0
 obtain ⟨hba, _⟩ := turned_box hT1 hb0
 obtain ⟨hgb, _⟩ := turned_box hT2 hg0
 obtain ⟨hbb, _⟩ := turned_box hT2 hb0
 obtain ⟨hgc, _⟩ := turned_box hT3 hgb
 obtain ⟨hbc, _⟩ := turned_box hT3 hbb
 obtain ⟨hgd, _⟩ := turned_box hT4 hgb
 obtain ⟨hbd, _⟩ := turned_box hT4 hbb
 have hfin : PileAt we4 base g d1 d2 (n + 1) (putE s ⟨p, x, tr⟩) := by
  have hVc := R_turned (R_turned hRq hT2) hT4
  refine ⟨hPq.fence, hgd, ⟨fun k => if k = p.data.toList then (.slice A8 x.f5.length c8) else V k, (hM2.kept (turned_grown hT4) (by have := hPq.fence; simp; omega)).ext (fun k => ?_), fun k e he => ?_⟩, hM4.ext (fun k => ?_), putE_nodup hPq.nodup _, fun e he => ?_⟩
  ·unfold putS nodV
   rw [atL_put]
   by_cases hk : k = p.data.toList
   ·rw [if_pos hk, if_pos hk]; simp only [Option.map_some, if_pos hk]
   ·rw [if_neg hk, if_neg hk]; simp only [if_neg hk]
  ·rw [atL_put] at he
   dsimp only at he ⊢
   by_cases hk : k = p.data.toList
   ·rw [if_pos hk] at he ⊢
    cases he
    exact hVc
   ·rw [if_neg hk] at he ⊢
    exact R_turned (R_turned (hV k e he) hT2) hT4
  ·unfold putS keyM
   rw [atL_put]
   by_cases hk : k = p.data.toList
   ·rw [if_pos hk, if_pos hk]; rfl
   ·rw [if_neg hk, if_neg hk]
  ·rcases putE_sub he with ⟨h, _⟩ | rfl
   ·exact hPq.small e h
   ·exact HZ.out
 have hfb : Below base W we4 := ((hBq.mono HBS.out).trans (turned_below hT2 hPq.fence.2.1 (Nat.le_trans HBS.out hBq.size))).trans (turned_below hT4 hPq.fence.2.2.1 (Nat.le_trans (Nat.le_trans HBS.out hBq.size) (turned_grown hT2).size))
 have HFIN := Aside0.mk hfin
 have HFB := Aside0.mk hfb
 have HE : Aside0 (g = g) := ⟨rfl⟩
 clear e0 hfin hfb hT1 hT2 hT3 hT4 hS1 hS3 hM1 hM2 hM4 hK2 hV hPq hRq hR2 hB2 hBq hwq e2 HKP hfz hc8
 unfold goInt at hE1 hE2 hE3 hE4
 unfold nodeCells at hE2
 refine start_ (n := 21) (S := fun w' => w'.cell? ⟨g, 0, none⟩ = some (.map (some d1)) ∧ w'.cell? ⟨g, 1, none⟩ = some (.map (some d2)) ∧ w'.cell? ⟨b0, 0, none⟩ = some (.string x.f0) ∧ w'.cell? ⟨b0, 1, none⟩ = some (.string x.f1) ∧ w'.cell? ⟨b0, 2, none⟩ = some (.string x.f2) ∧ w'.cell? ⟨b0, 3, none⟩ = some (.int .u8 x.f3) ∧ w'.cell? ⟨b0, 4, none⟩ = some (.int .i64 x.f4.f0) ∧ w'.cell? ⟨b0, 5, none⟩ = some (.int .i64 x.f4.f1) ∧ w'.cell? ⟨b0, 6, none⟩ = some (.int .i64 x.f4.f2) ∧ w'.cell? ⟨b0, 7, none⟩ = some (.int .i64 x.f4.f3) ∧ w'.cell? ⟨b0, 8, none⟩ = some (.slice A8 x.f5.length c8)) (ds := []) pilewA_0 (by kernel_rfl) rfl rfl (put_cells hg0 hb0) (fun hHeld => ?_)
 refine pur_ (i := 0) (N := some 14) pilewA_1 (by kernel_rfl) ?_
 refine pur_ (i := 1) (N := some 15) pilewA_2 (by kernel_rfl) ?_
 refine pur_ (i := 2) (N := some 16) pilewA_3 (by kernel_rfl) ?_
 refine tak_ (i := 3) (N := some 17) pilewA_4 (by kernel_rfl) hHeld ?_
 refine pur_ (i := 4) (N := some 18) pilewA_5 (by kernel_rfl) ?_
 refine pur_ (i := 5) (N := some 19) pilewA_6 (by kernel_rfl) ?_
 refine pur_ (i := 6) (N := some 20) pilewA_7 (by kernel_rfl) ?_
 refine pur_ (i := 7) (N := some 21) pilewA_8 (by kernel_rfl) ?_
 refine tak_ (i := 8) (N := some 22) pilewA_9 (by kernel_rfl) hHeld ?_
 refine pur_ (i := 9) (N := some 23) pilewA_10 (by kernel_rfl) ?_
 refine tak_ (i := 10) (N := some 24) pilewA_11 (by kernel_rfl) hHeld ?_
 refine pur_ (i := 11) (N := some 25) pilewA_12 (by kernel_rfl) ?_
 refine pur_ (i := 12) (N := some 26) pilewA_13 (by kernel_rfl) ?_
 refine tak_ (i := 13) (N := some 27) pilewA_14 (by kernel_rfl) hHeld ?_
 refine pur_ (i := 14) (N := some 28) pilewA_15 (by kernel_rfl) ?_
 refine one_ (i := 15) (N := some 29) pilewA_16 rfl rfl (by kernel_rfl) (by decide) (fun K hK => ?_)
 refine value_ (w1 := we1) (v := .tuple #[va, .int .i64 (sta : Int)]) (by rfl) rfl ?_ ?_
 ·first | (go_simp; done) | (go_simp; rfl)
 refine hK.out _ _ (put_cells hga hba) (fun hHeld => ?_)
 clear hK K
 refine norm_ (a' := ?_) ?_ ?_
 rotate_left
 ·show Act.put _ (some 29) _ = _
  simp only [Act.put, List.setIfInBounds_toArray, List.set_cons_zero, List.set_cons_succ]
  rfl
 refine pur_ (i := 16) (N := some 30) pilewA_17 (by kernel_rfl) ?_
 refine one_ (i := 17) (N := none) pilewA_18 rfl rfl (by kernel_rfl) (by decide) (fun K hK => ?_)
 refine skip_ (w1 := we2) (by rfl) rfl ?_ ?_
 ·first | (go_simp; done) | (go_simp; rfl)
 refine hK.out _ _ (put_cells hgb hbb) (fun hHeld => ?_)
 clear hK K
 refine one_ (i := 18) (N := some 31) pilewA_19 rfl rfl (by kernel_rfl) (by decide) (fun K hK => ?_)
 refine value_ (w1 := we3) (v := .tuple #[vb, .int .i64 (stb : Int)]) (by rfl) rfl ?_ ?_
 ·first | (go_simp; done) | (go_simp; rfl)
 refine hK.out _ _ (put_cells hgc hbc) (fun hHeld => ?_)
 clear hK K
 refine norm_ (a' := ?_) ?_ ?_
 rotate_left
 ·show Act.put _ (some 31) _ = _
  simp only [Act.put, List.setIfInBounds_toArray, List.set_cons_zero, List.set_cons_succ]
  rfl
 refine pur_ (i := 19) (N := some 32) pilewA_20 (by kernel_rfl) ?_
 refine one_ (i := 20) (N := none) pilewA_21 rfl rfl (by kernel_rfl) (by decide) (fun K hK => ?_)
 refine skip_ (w1 := we4) (by rfl) rfl ?_ ?_
 ·first | (go_simp; done) | (go_simp; rfl)
 refine hK.out _ _ (put_cells hgd hbd) (fun hHeld => ?_)
 clear hK K
 refine done_ (by kernel_rfl) ?_
 refine bodyPost_ret (v := .tuple #[]) (by simp [results, Tryd.results28, go_sem]) rfl ?_
 rw [← hQ.out]
 exact ⟨rfl, HFIN.out, HFB.out⟩
end Go.Proofs.YtfmphccoeinhcaaDoor

namespace Go.Proofs.YtfmphccoeinhcaaDoor
open Go.RowKit Go.Maps Go.WideMaps Go.ChangeShapes Go.WideShapes Go.Proofs.YtfmphccoeinhcaaDoor.Print
set_option maxRecDepth 100000 in
theorem keyLaw : KeyLaw Tryd.prog 88 := deep_law_laid (by kernel_rfl) (m := 2) (by omega) (of_decide_eq_true (by kernel_rfl)) (by kernel_rfl) (by kernel_rfl)
set_option maxRecDepth 100000 in
theorem keyOf_key {e : PEnt} (hz : EntZ e) : ∃ l, keyOf Tryd.prog 88 (keyV e) = some l := by
 have hs : e.node.f2.size ≤ maxLen := by have := hz.2.1.2.2.1; exact Nat.le_trans this (by unfold maxLen; decide)
 have ht := hz.2.2
 have hkt : Tryd.prog.keyType 88 = true := by kernel_rfl
 have hsz : ∃ m, Tryd.prog.types.size = m + 2 := ⟨Tryd.prog.types.size - 2, by have : 2 ≤ Tryd.prog.types.size := of_decide_eq_true (by kernel_rfl); omega⟩
 obtain ⟨m, hm⟩ := hsz
 unfold keyOf keyV
 simp only [Tryd.underlying88]
 rw [if_pos (by simp [hkt, Value.formed, Tryd.underlying88]; kernel_rfl), hm]
 unfold Program.keyLits
 simp only [Tryd.underlying88, Value.cells]
 have c3 : Tryd.prog.cellsOf 3 = 1 := by kernel_rfl
 have c9 : Tryd.prog.cellsOf 9 = 1 := by kernel_rfl
 have c88 : Tryd.prog.cellsOf 88 = 2 := by kernel_rfl
 rw [if_pos ⟨by rw [c88]; rfl, by kernel_rfl⟩]
 simp only [List.mapM_cons, List.mapM_nil, c3, c9, List.drop_zero, List.drop_succ_cons, List.take_succ_cons, List.take_zero]
 simp [Program.keyLits, Tryd.underlying3, Tryd.underlying9, ht, hs]
end Go.Proofs.YtfmphccoeinhcaaDoor

namespace Go.Proofs.YtfmphccoeinhcaaDoor
open Go.RowKit Go.Maps Go.WideMaps Go.Proofs.YtfmphccoeinhcaaDoor.Print Go.Proofs.YtfmphccoeinhcaaDoorW.PrintWords Go.Proofs.YtfmphccoeinhcaaDoorW.PrintLast Go.Proofs.YtfmphccoeinhcaaDoorW.PrintMore
set_option linter.unusedVariables false
set_option linter.unusedSimpArgs false
def psE (s : PL) : PS := s.map (fun e => (e.path, 0))
theorem psE_keys (s : PL) : keysP (psE s) = s.map (fun e => e.path.data.toList) := by unfold keysP psE; rw [List.map_map]; rfl
theorem psE_paths (s : PL) : (psE s).map (fun q => q.1) = s.map (fun e => e.path) := by unfold psE; rw [List.map_map]; rfl
theorem psE_ins (q : PEnt) : ∀ s : PL, psE (insE q s) = insP (q.path, 0) (psE s)
 | [] => rfl
 | r :: s => by
  unfold insE psE
  by_cases h : lt q.path r.path = true
  ·rw [if_pos h]
   simp only [List.map_cons, insP]
   rw [if_pos h]
  ·rw [if_neg h]
   simp only [List.map_cons, insP]
   rw [if_neg h]
   have := psE_ins q s
   unfold psE at this
   rw [this]
theorem psE_sort : ∀ s : PL, psE (sortE s) = sortP (psE s)
 | [] => rfl
 | q :: s => by
  show psE (insE q (sortE s)) = insP (q.path, 0) (sortP (psE s))
  rw [psE_ins, psE_sort s]
theorem atL_is (s : PL) (k : List UInt8) : k ∈ s.map (fun e => e.path.data.toList) ↔ (atL s k).isSome = true := by
 unfold atL
 rw [List.find?_isSome, List.mem_map]
 exact ⟨fun ⟨e, h1, h2⟩ => ⟨e, h1, by simpa using h2⟩, fun ⟨e, h1, h2⟩ => ⟨e, h1, by simpa using h2⟩⟩
theorem nodupE_data {s : PL} (h : NodupE s) : (s.map (fun e => e.path.data.toList)).Nodup := by
 have := keysP_nodup (s := psE s) (by rw [psE_paths]; exact h)
 rw [psE_keys] at this
 exact this
theorem pile_keys {w : World} {d n : Nat} {s : PL} {V : List UInt8 → Value} (h : MapS Tryd.prog 9 w d n (nodV V s)) (hn : NodupE s) : ∃ D : DataW Value, w.ownsMap Tryd.prog 9 heldE d n D ∧ (keysP (psE s)).Perm (strKeys D) ∧ Maps.size D = s.length := by
 obtain ⟨D, h1, h2, h3⟩ := h.keys Tryd.underlying9 (nodupE_data hn) (fun k => by rw [atL_is]; unfold nodV; cases atL s k <;> rfl)
 exact ⟨D, h1, by rw [psE_keys]; exact h2, by rw [h3, List.length_map]⟩
set_option maxRecDepth 100000 in
theorem Len_calls (base g d1 d2 n : Nat) (s : PL) (W : World) (hP : PileAt W base g d1 d2 n s) : Calls Tryd.prog 31 #[.pointer (some ⟨g, 0, none⟩)] W fun e W' => e = .returned (.int .i64 s.length) ∧ Below W.heap.size W W' := by
 obtain ⟨V, hM, _⟩ := hP.nodes
 obtain ⟨D, hD, _, hsz⟩ := pile_keys hM hP.nodup
 obtain ⟨q0, q1⟩ := boxed2 hP.box
 have HD := Aside0.mk hD
 have HS := Aside0.mk hsz
 clear hM hD hsz hP
 generalize hpost : (fun (e : Ending) (W' : World) => e = .returned (.int .i64 s.length) ∧ Below W.heap.size W W') = Q
 have hQ := Aside0.mk hpost
 clear hpost
 go_enter Tryd.func31, Tryd.ntmps31
 go_wp2_with (at_len; refine wpList_len_own _ rfl _ 82 rfl 9 38 Tryd.underlying82 heldE d1 n D rfl HD.out ?_; rw [HS.out])
 rw [← hQ.out]
 exact ⟨rfl, Below.refl _ _⟩
open Classical in
noncomputable def isK (v : Value) (q : PEnt) : Bool := decide (q.node.f3 = 48 ∧ keyV q = v)
theorem isK_iff {v : Value} {q : PEnt} : isK v q = true ↔ q.node.f3 = 48 ∧ keyV q = v := by unfold isK; simp
theorem isK_not {v : Value} {q : PEnt} (h : ¬ (q.node.f3 = 48 ∧ keyV q = v)) : isK v q = false := by rw [Bool.eq_false_iff]; exact fun e => h (isK_iff.1 e)
noncomputable def fk (l : PL) : Value → Option Value := fun v => (l.find? (isK v)).map (fun q => .string q.path)
theorem keyV_eq {e q : PEnt} : keyV q = keyV e ↔ q.tree = e.tree ∧ q.node.f2 = e.node.f2 := by
 unfold keyV
 constructor
 ·intro h
  injection h with h
  have h := congrArg Array.toList h
  simp at h
  exact h
 ·rintro ⟨h1, h2⟩
  rw [h1, h2]
theorem fk_key (l : PL) (e : PEnt) : fk l (keyV e) = (l.find? (oneE e)).map (fun q => .string q.path) := by
 unfold fk
 congr 2
 funext q
 rw [Bool.eq_iff_iff, oneE_iff, isK_iff, keyV_eq]
theorem fk_snoc (l : PL) (e : PEnt) (v : Value) : fk (l ++ [e]) v = match fk l v with | some u => some u | none => if isK v e = true then some (.string e.path) else none := by
 unfold fk
 rw [List.find?_append]
 cases List.find? (isK v) l with
 | some q => rfl
 | none =>
  simp only [Option.none_or, Option.map_none]
  by_cases h : isK v e = true
  ·rw [List.find?_cons_of_pos h, if_pos h]; rfl
  ·rw [List.find?_cons_of_neg h, if_neg h]; rfl
theorem fk_other {l : PL} {e : PEnt} (h : ¬ e.node.f3 = 48) (v : Value) : fk (l ++ [e]) v = fk l v := by
 rw [fk_snoc, isK_not (fun h2 => h h2.1)]
 cases fk l v <;> rfl
theorem fk_old {l : PL} {e : PEnt} {u : Value} (h : fk l (keyV e) = some u) (v : Value) : fk (l ++ [e]) v = fk l v := by
 rw [fk_snoc]
 cases hf : fk l v with
 | some q => rfl
 | none =>
  rw [isK_not (fun h2 => by rw [h2.2, hf] at h; cases h)]
  rfl
theorem fk_new {l : PL} {e : PEnt} (h48 : e.node.f3 = 48) (h : fk l (keyV e) = none) (v : Value) : putK (fk l) (keyV e) (.string e.path) v = fk (l ++ [e]) v := by
 unfold putK
 rw [fk_snoc]
 by_cases hv : v = keyV e
 ·subst hv
  rw [if_pos rfl, h, isK_iff.2 ⟨h48, rfl⟩]
  rfl
 ·rw [if_neg hv, isK_not (fun h2 => hv h2.2.symm)]
  cases fk l v <;> rfl
theorem lead_old {sp : PL} {n : Nat} (hn : n < sp.length) {p : ByteArray} (h : fk (sp.take n) (keyV sp[n]) = some (.string p)) : leadE sp sp[n] = p := by
 rw [fk_key] at h
 obtain ⟨q, hq, e⟩ := Option.map_eq_some_iff.1 h
 injection e with e
 unfold leadE
 have h2 : sp.find? (oneE sp[n]) = some q := by
  have h4 : (sp.take n ++ sp.drop n).find? (oneE sp[n]) = some q := by rw [List.find?_append, hq]; rfl
  rw [List.take_append_drop] at h4
  exact h4
 rw [h2]
 exact e
theorem lead_new {sp : PL} {n : Nat} (hn : n < sp.length) (h48 : sp[n].node.f3 = 48) (h : fk (sp.take n) (keyV sp[n]) = none) : leadE sp sp[n] = sp[n].path := by
 rw [fk_key, Option.map_eq_none_iff] at h
 unfold leadE
 have h2 : sp.find? (oneE sp[n]) = some sp[n] := by
  have h4 : (sp.take n ++ sp.drop n).find? (oneE sp[n]) = some sp[n] := by
   rw [List.find?_append, h, List.drop_eq_getElem_cons hn, List.find?_cons_of_pos (oneE_iff.2 ⟨h48, rfl, rfl⟩)]
   rfl
  rw [List.take_append_drop] at h4
  exact h4
 rw [h2]
end Go.Proofs.YtfmphccoeinhcaaDoor

namespace Go.Proofs.YtfmphccoeinhcaaDoor
open Go.RowKit Go.Maps Go.WideMaps Go.Proofs.YtfmphccoeinhcaaDoor.Print Go.Proofs.YtfmphccoeinhcaaDoorW.PrintWords Go.Proofs.YtfmphccoeinhcaaDoorW.PrintLast Go.Proofs.YtfmphccoeinhcaaDoorW.PrintMore
set_option linter.unusedVariables false
set_option linter.unusedSimpArgs false
theorem S_turned {w w1 : World} {base b : Nat} {v : Value} {xs : List ByteArray} (h : Kd.R Kd.string 9 w base (fun _ => True) v xs) (hm : w.mapTurned w1 b) : Kd.R Kd.string 9 w1 base (fun _ => True) v xs := by
 obtain ⟨es, clock, _, _, hb, _⟩ := id hm
 refine Kd.R_mono (Kd.R_grown (Kd.R_bound h) (turned_grown hm) (fun k hk e => ?_)) (fun _ _ => trivial)
 injection e with e
 subst e
 obtain ⟨_, _, _, q, hq, cs, hc⟩ := hk
 rw [hb] at hc
 cases hc
abbrev NN (w : World) (base : Nat) (ok : Nat → Prop) (v : Value) (xs : List Node) : Prop := Kd.N k38 38 w base ok v xs
def TreRel (s : PL) (W : World) (vq : Value) (i : Int) (v : Value) (wr : World) : Prop :=
 0 ≤ i ∧ i ≤ (sortE s).length ∧ MapK Tryd.prog 88 wr W.heap.size i.toNat (fk ((sortE s).take i.toNat)) ∧ NN wr W.heap.size (fun k => W.heap.size + 1 ≤ k) v (((sortE s).take i.toNat).map (outE (sortE s))) ∧
  Kd.R Kd.string 9 wr W.heap.size (fun _ => True) vq ((sortE s).map (fun e => e.path)) ∧ Below W.heap.size W wr
structure TreMid (s : PL) (W : World) (vq : Value) (n : Int) (out : List Node) (v : Value) (z : Nat) (w : World) : Prop where
 M : MapK Tryd.prog 88 w W.heap.size (n.toNat + 1) (fk ((sortE s).take (n.toNat + 1)))
 N : NN w W.heap.size (fun k => W.heap.size + 1 ≤ k ∧ k < z) v out
 R : Kd.R Kd.string 9 w W.heap.size (fun _ => True) vq ((sortE s).map (fun e => e.path))
 B : Below W.heap.size W w
theorem tre_next {s : PL} {W w w1 : World} {vq v v1 : Value} {n : Int} {z : Nat} (h0 : 0 ≤ n) (hn : n.toNat < (sortE s).length) {out : List Node} (hout : ((sortE s).take n.toNat).map (outE (sortE s)) = out) (h : TreMid s W vq n out v z w) (hg : w.grownBy w1 v.ownBlock)
  (hN : NN w1 W.heap.size (fun k => W.heap.size + 1 ≤ k) v1 (out ++ [outE (sortE s) (sortE s)[n.toNat]])) (hB : Below W.heap.size W w1) : TreRel s W vq (n + 1) v1 w1 := by
 have e1 : (n + 1).toNat = n.toNat + 1 := by omega
 refine ⟨by omega, by omega, ?_, ?_, ?_, hB⟩
 ·rw [e1]
  obtain ⟨es, clock, hm⟩ := h.M.isMap
  refine h.M.kept hg (fun e => ?_)
  obtain ⟨cs, hc⟩ := Kd.N_typed h.N _ e.symm
  rw [hm] at hc
  cases hc
 ·rw [e1, List.take_succ_eq_append_getElem hn, List.map_append, hout]
  exact hN
 ·refine Kd.R_mono (Kd.R_grown (Kd.R_bound h.R) hg (fun k hk e => ?_)) (fun _ _ => trivial)
  obtain ⟨_, _, _, q, hq, cs, hc⟩ := hk
  obtain ⟨cs', hc'⟩ := Kd.N_typed h.N k e.symm
  rw [hc'] at hc
  injection hc with hc
  injection hc with _ hc
  rcases List.mem_cons.1 hq with h | h
  ·rw [h] at hc; exact absurd hc (by decide)
  ·cases h
structure TrePre (s : PL) (W : World) (vq : Value) (n : Int) (out : List Node) (v : Value) (z : Nat) (w : World) : Prop where
 M : MapK Tryd.prog 88 w W.heap.size n.toNat (fk ((sortE s).take n.toNat))
 N : NN w W.heap.size (fun k => W.heap.size + 1 ≤ k ∧ k < z) v out
 R : Kd.R Kd.string 9 w W.heap.size (fun _ => True) vq ((sortE s).map (fun e => e.path))
 B : Below W.heap.size W w
theorem TrePre.of {s : PL} {W wr : World} {vq v : Value} {n : Int} (h : TreRel s W vq n v wr) {out : List Node} (hout : ((sortE s).take n.toNat).map (outE (sortE s)) = out) : TrePre s W vq n out v wr.heap.size wr := by
 obtain ⟨_, _, h1, h2, h3, h4⟩ := h
 rw [hout] at h2
 exact ⟨h1, Kd.N_bound h2, h3, h4⟩
section
variable {s : PL} {W w w1 : World} {vq v : Value} {n : Int} {out : List Node} {z : Nat}
theorem TrePre.below (h : TrePre s W vq n out v z w) (hb : Below w.heap.size w w1) : TrePre s W vq n out v z w1 :=
 ⟨h.M.below hb, Kd.N_below h.N hb, Kd.R_below h.R hb, h.B.trans (hb.mono h.B.size)⟩
theorem TreMid.below (h : TreMid s W vq n out v z w) (hb : Below w.heap.size w w1) : TreMid s W vq n out v z w1 :=
 ⟨h.M.below hb, Kd.N_below h.N hb, Kd.R_below h.R hb, h.B.trans (hb.mono h.B.size)⟩
theorem TrePre.stay (h : TrePre s W vq n out v z w) (hf : ∀ u, fk ((sortE s).take (n.toNat + 1)) u = fk ((sortE s).take n.toNat) u) : TreMid s W vq n out v z w :=
 ⟨by rw [show fk ((sortE s).take (n.toNat + 1)) = fk ((sortE s).take n.toNat) from funext hf]; exact h.M.mono (Nat.le_succ _), h.N, h.R, h.B⟩
theorem TrePre.turn (h : TrePre s W vq n out v z w) {k u : Value} (hM : MapK Tryd.prog 88 w1 W.heap.size (n.toNat + 1) (putK (fk ((sortE s).take n.toNat)) k u)) (hm : w.mapTurned w1 W.heap.size) (hf : ∀ v, putK (fk ((sortE s).take n.toNat)) k u v = fk ((sortE s).take (n.toNat + 1)) v) : TreMid s W vq n out v z w1 :=
 ⟨by rw [show fk ((sortE s).take (n.toNat + 1)) = putK (fk ((sortE s).take n.toNat)) k u from (funext hf).symm]; exact hM, Kd.N_grown h.N (turned_grown hm) (fun k hk e => by injection e with e; have := hk.1; omega), S_turned h.R hm, h.B.trans (turned_below hm (Nat.le_refl _) h.B.size)⟩
theorem TreMid.set (h : TreMid s W vq n out v z w) {b j : Nat} {cs : Array Value} (hb : w.heap[b]? = some (.cells cs 38 (0, 0))) (hz : z ≤ b) (hW : W.heap.size ≤ b) (u : Value) : TreMid s W vq n out v z (w.setCell ⟨b, j, none⟩ u) := by
 obtain ⟨es, clock, hm⟩ := h.M.isMap
 refine ⟨h.M.kept (row := some b) ?_ ?_, Kd.N_far h.N (p := ⟨b, j, none⟩) (fun k hk e => ?_) u, Kd.R_set h.R hb (fun k hk => ?_) j u, h.B.setCell hW u⟩
 ·exact ⟨rfl, rfl, rfl, by rw [World.size_setCell]; exact Nat.le_refl _, fun i hi hne => Below.heap_setCell w ⟨b, j, none⟩ u i (fun e => hne (by rw [e]))⟩
 ·intro e
  injection e with e
  rw [← e, hm] at hb
  cases hb
 ·have := hk.2
  have e' : k = b := e
  omega
 ·rcases List.mem_cons.1 hk with rfl | hk
  ·decide
  ·cases hk
end
theorem fk_str {l : PL} {v u : Value} (h : fk l v = some u) : ∃ p, u = .string p := by
 unfold fk at h
 obtain ⟨q, _, rfl⟩ := Option.map_eq_some_iff.1 h
 exact ⟨_, rfl⟩
theorem node_cells9 {w : World} {b : Nat} {t : TypeId} {a0 a1 a2 a3 a4 a5 a6 a7 a8 : Value} (h : w.heap[b]? = some (.cells #[a0, a1, a2, a3, a4, a5, a6, a7, a8] t (0, 0))) :
  w.cell? ⟨b, 0, none⟩ = some a0 ∧ w.cell? ⟨b, 1, none⟩ = some a1 ∧ w.cell? ⟨b, 2, none⟩ = some a2 ∧ w.cell? ⟨b, 3, none⟩ = some a3 ∧ w.cell? ⟨b, 4, none⟩ = some a4 ∧ w.cell? ⟨b, 5, none⟩ = some a5 ∧ w.cell? ⟨b, 6, none⟩ = some a6 ∧ w.cell? ⟨b, 7, none⟩ = some a7 ∧ w.cell? ⟨b, 8, none⟩ = some a8 := by
 refine ⟨?_, ?_, ?_, ?_, ?_, ?_, ?_, ?_, ?_⟩ <;> · unfold World.cell?; dsimp only; rw [h]; rfl
theorem start_row {w : World} {b : Nat} {v : Value} {ss : List (List UInt8)} {s : PL} (hn : NodupE s) (h : w.ownsRow b 9 1 v ss.length ((ss.mergeSort (fun x y => decide (x ≤ y))).map encStr)) (hp : ss.Perm (keysP (psE s))) :
  (∃ A c, v = .slice A (sortE s).length c) ∧ Kd.R Kd.string 9 w b (fun _ => True) v ((sortE s).map (fun e => e.path)) := by
 obtain ⟨⟨A, c, e⟩, hR⟩ := sorted_row h hp (by rw [psE_paths]; exact hn)
 rw [← psE_sort, psE_paths] at hR
 exact ⟨⟨A, c, by rw [e, ← psE_sort]; unfold psE; rw [List.length_map]⟩, hR⟩
set_option maxRecDepth 100000 in
set_option maxHeartbeats 8000000 in
theorem Tree_calls (base g d1 d2 n0 : Nat) (s : PL) (W : World) (hP : PileAt W base g d1 d2 n0 s) (hlen : s.length ≤ 1000000) :
  Calls Tryd.prog 30 #[.pointer (some ⟨g, 0, none⟩)] W fun e W' => ∃ v, e = .returned v ∧ NN W' W.heap.size (fun k => W.heap.size + 1 ≤ k) v (treeE s) ∧ Below W.heap.size W W' := by
 have hmm := @run_makeMap Tryd.prog
 obtain ⟨V0, hM0, _⟩ := hP.nodes
 have hbA := below_alloc (Below.refl W.heap.size W) (.map #[] 0)
 obtain ⟨D1, hown1, hperm1, hsz1⟩ := pile_keys (hM0.alloc (.map #[] 0)) hP.nodup
 have hcS := callsIn_wide.1 (Tryd.slices_Sorted_keys_51_52 d1 n0 D1 heldE _ hown1 (by rw [hsz1]; unfold maxLen; omega) (by rw [hsz1]; omega))
 simp only [World.size_alloc] at hcS
 have HCS := Aside0.mk hcS
 have HKK := Aside0.mk hperm1
 have HP := Aside0.mk hP
 have hsl : ((sortE s).length : Int) ≤ 1000000 := by rw [(sortE_perm s).length_eq]; omega
 obtain ⟨q0, q1⟩ := boxed2 ((hbA.block g (blk_lt' hP.box)).trans hP.box)
 clear hP hown1 hperm1 hsz1 hcS hM0
 generalize hpost : (fun (e : Ending) (W' : World) => ∃ v, e = .returned v ∧ NN W' W.heap.size (fun k => W.heap.size + 1 ≤ k) v (treeE s) ∧ Below W.heap.size W W') = Q
 have hQ := Aside0.mk hpost
 clear hpost
 go_enter Tryd.func30, Tryd.ntmps30
 go_wp2_with (first
  | (go_at_call 52; refine (callsIn_wide.1 (Tryd.maps_Keys_52 _ _)).mono ?_; rintro e w' ⟨rfl, rfl⟩)
  | (go_at_call 51; refine HCS.out.mono ?_; rintro e w2 ⟨vq, ss, rfl, hS, hrow, hnil, hb2⟩; obtain ⟨⟨Aq, cq, rfl⟩, hRq⟩ := start_row HP.out.nodup hrow (hS.trans HKK.out.symm); have HRq := Aside0.mk hRq; have HB2 := Aside0.mk hb2; clear hS hrow hnil hb2 hRq))
 have hBA := below_alloc (below_alloc (Below.refl W.heap.size W) (Obj.map #[] 0)) (Obj.cells #[Value.map (some d1)] 82)
 have hB2 : Below W.heap.size W w2 := hBA.trans (HB2.out.mono (by omega))
 have hstart : TreRel s W (.slice Aq (sortE s).length cq) 0 (.slice none 0 0) w2 := by
  refine ⟨by omega, by omega, ?_, Kd.N_nil _ _ _ _ _, Kd.R_lower HRq.out (by omega), hB2⟩
  have h1 := ((MapK.made Tryd.prog 88 W).alloc (Obj.cells #[Value.map (some d1)] 82)).below (w' := w2) (by rw [World.size_alloc, World.size_alloc]; exact HB2.out)
  have e : (fun _ => none : Value → Option Value) = fk ((sortE s).take (0 : Int).toNat) := by funext v; rfl
  rw [← e]
  exact h1
 have HST := Aside0.mk hstart
 clear hstart hB2 hBA HRq HB2 q0 q1 hbA HCS HKK
 go_loopw [21, 4] (fun i o wr => ∃ n : Int, i = .int .i64 n ∧ Aside0 (TreRel s W (.slice Aq (sortE s).length cq) n o wr)) (fun i _ _ => ((sortE s).length - (intOf i)).toNat)
 case atStart => exact ⟨0, rfl, HST⟩
 case round =>
  obtain ⟨n, rfl, HR⟩ := hrel
  have h0 := HR.out.1
  have h1 := HR.out.2.1
  have HW1 : Aside0 (W.heap.size + 1 ≤ wr.heap.size) := ⟨by have := HR.out.2.2.1.lt; omega⟩
  have hNv := HR.out.2.2.2.1
  generalize hout : ((sortE s).take n.toNat).map (outE (sortE s)) = out at hNv
  obtain ⟨Ao, co, rfl⟩ := Kd.N_slice hNv
  have hol : out.length = n.toNat := by rw [← hout, List.length_map, List.length_take]; omega
  have HOL : Aside0 (out.length ≤ 1000000) := ⟨by omega⟩
  have HOUT := Aside0.mk hout
  have HPR := Aside0.mk (TrePre.of HR.out hout)
  have HNV := Aside0.mk hNv
  clear hol hout hNv
  by_cases hlt : n < ((sortE s).length : Int)
  ·have c1b : decide (n < ((sortE s).length : Int)) = true := decide_eq_true hlt
   have hnl : n.toNat < (sortE s).length := by omega
   have HNL := Aside0.mk hnl
   have hem : (sortE s)[n.toNat] ∈ s := sortE_mem.1 (List.getElem_mem _)
   have hCq := (Kd.R_reads' HR.out.2.2.2.2.1).2.2
   rw [List.length_map] at hCq
   obtain ⟨ad, hAq, x0⟩ := Kd.at_string hCq n h0 hlt
   have hx : rdOf ByteArray.empty ((sortE s).map (fun q => q.path)) n = (sortE s)[n.toNat].path := by
    unfold rdOf
    rw [List.getD_eq_getElem?_getD, List.getElem?_map, List.getElem?_eq_getElem hnl]
    rfl
   rw [hx] at x0
   cases hAq
   have hez := HP.out.small _ hem
   have hat : atL s (sortE s)[n.toNat].path.data.toList = some (sortE s)[n.toNat] := by rw [atL_at]; exact atE_of HP.out.nodup hem
   have htk := List.take_succ_eq_append_getElem hnl
   have hlo : ∀ p, fk ((sortE s).take n.toNat) (keyV (sortE s)[n.toNat]) = some (.string p) → leadE (sortE s) (sortE s)[n.toNat] = p := fun p => lead_old hnl
   have hln : (sortE s)[n.toNat].node.f3 = 48 → fk ((sortE s).take n.toNat) (keyV (sortE s)[n.toNat]) = none → leadE (sortE s) (sortE s)[n.toNat] = (sortE s)[n.toNat].path := fun h => lead_new hnl h
   generalize hqe : (sortE s)[n.toNat] = e at hem x0 hez hat htk hlo hln hx
   have HQE := Aside0.mk hqe
   have HTK := Aside0.mk htk
   have HLO := Aside0.mk hlo
   have HLN := Aside0.mk hln
   have HAT := Aside0.mk hat
   have HEZ := Aside0.mk hez
   have hps : e.path.size ≤ maxLen := Nat.le_trans hez.1 (by unfold maxLen; decide)
   have HPS := Aside0.mk hps
   have hPw := HP.out.below HPR.out.B
   obtain ⟨V, hM, hV⟩ := hPw.nodes
   have hRb := hV _ _ hat
   obtain ⟨Ab, cb, hvb, hlb, hCb⟩ := Kd.R_reads hRb
   have hlook := hM.look Tryd.underlying9 Tryd.underlying82 (zeroNode _) hps
   have hnv : nodV V s e.path.data.toList = some (.agg (nodeCells e.node (.slice Ab e.node.f5.length cb))) := by unfold nodV; rw [hat, Option.map_some, hvb]
   rw [hnv, Option.getD_some] at hlook
   unfold nodeCells at hlook
   obtain ⟨q0, q1⟩ := boxed2 hPw.box
   have HCB := Aside0.mk hCb
   clear hqe htk hlo hln hat hez hps hM hV hRb hvb hlb hCb hnv hPw hem hx hCq
   go_upto_region 9 with (fail)
   go_upto_region 10 with (first
    | (go_at_call 50; refine (Clone_calls Ab cb e.node.f5 _ (Kd.C_alloc HCB.out _) HEZ.out.2.1.2.2.2).mono ?_; rintro e1 w1 ⟨vc, rfl, hRc, hB1⟩; obtain ⟨A8, c8, rfl, hl8, hC8⟩ := Kd.R_reads hRc; have HL8 := Aside0.mk hl8; clear hl8 hC8; have hq := (hB1.block wr.heap.size (by rw [World.size_alloc]; omega)).trans (blk_new wr (.cells #[.string e.node.f0, .string e.node.f1, .string e.node.f2, .int .u8 e.node.f3, .int .i64 e.node.f4.f0, .int .i64 e.node.f4.f1, .int .i64 e.node.f4.f2, .int .i64 e.node.f4.f3, .slice Ab e.node.f5.length cb] 38)); have hfz := blk_frozen hq 8; have hfz0 := blk_frozen hq 0; have hc8 : w1.cell? ⟨wr.heap.size, 8, none⟩ = some (.slice Ab e.node.f5.length cb) := (blk_cell hq 8).trans rfl; have hc0 : w1.cell? ⟨wr.heap.size, 0, none⟩ = some (.string e.node.f0) := (blk_cell hq 0).trans rfl; have HRC := Aside0.mk hRc; have HB1 := Aside0.mk hB1; have HQ1 := Aside0.mk hq; clear hq hRc hB1)
    | fail)
   have f7 : ∃ w7 b7, w7 = (w1.setCell ⟨wr.heap.size, 0, none⟩ (.string e.path)).setCell ⟨wr.heap.size, 8, none⟩ (.slice A8 e.node.f5.length c8) ∧ b7 = wr.heap.size ∧ Below wr.heap.size wr w7 ∧ w7.heap[b7]? = some (.cells #[.string e.path, .string e.node.f1, .string e.node.f2, .int .u8 e.node.f3, .int .i64 e.node.f4.f0, .int .i64 e.node.f4.f1, .int .i64 e.node.f4.f2, .int .i64 e.node.f4.f3, .slice A8 e.node.f5.length c8] 38 (0, 0)) ∧ Kd.R (Kd.int .u8) 5 w7 wr.heap.size (fun _ => True) (.slice A8 e.node.f5.length c8) e.node.f5 := by
    have hbA : Below wr.heap.size wr w1 := (below_alloc (Below.refl wr.heap.size wr) (.cells #[.string e.node.f0, .string e.node.f1, .string e.node.f2, .int .u8 e.node.f3, .int .i64 e.node.f4.f0, .int .i64 e.node.f4.f1, .int .i64 e.node.f4.f2, .int .i64 e.node.f4.f3, .slice Ab e.node.f5.length cb] 38)).trans (HB1.out.mono (by rw [World.size_alloc]; omega))
    have hq1 := blk_put (cs' := #[.string e.path, .string e.node.f1, .string e.node.f2, .int .u8 e.node.f3, .int .i64 e.node.f4.f0, .int .i64 e.node.f4.f1, .int .i64 e.node.f4.f2, .int .i64 e.node.f4.f3, .slice Ab e.node.f5.length cb]) HQ1.out 0 (.string e.path) rfl
    refine ⟨_, _, rfl, rfl, (hbA.setCell (Nat.le_refl _) _).setCell (Nat.le_refl _) _, blk_put (cs' := #[.string e.path, .string e.node.f1, .string e.node.f2, .int .u8 e.node.f3, .int .i64 e.node.f4.f0, .int .i64 e.node.f4.f1, .int .i64 e.node.f4.f2, .int .i64 e.node.f4.f3, .slice A8 e.node.f5.length c8]) hq1 8 _ rfl, ?_⟩
    exact Kd.R_set (Kd.R_set (Kd.R_lower HRC.out (by rw [World.size_alloc]; omega)) HQ1.out (fun k hk => by rcases List.mem_cons.1 hk with rfl | hk; decide; cases hk) 0 _) hq1 (fun k hk => by rcases List.mem_cons.1 hk with rfl | hk; decide; cases hk) 8 _
   obtain ⟨w7, b7, e7, eb7, hB7, hN7, hR7⟩ := f7
   rw [← e7, ← eb7]
   have hPw7 := HP.out.below (HPR.out.B.trans (hB7.mono HPR.out.B.size))
   obtain ⟨q0, q1⟩ := boxed2 hPw7.box
   have hlook2 := hPw7.keys.look Tryd.underlying9 Tryd.underlying83 (zeroKey _) HPS.out
   have hkm : keyM s e.path.data.toList = some (keyV e) := by unfold keyM; rw [HAT.out]; rfl
   rw [hkm, Option.getD_some] at hlook2
   unfold keyV at hlook2
   have HP7 := Aside0.mk (HPR.out.below hB7)
   have HB7 := Aside0.mk hB7
   have HN7 := Aside0.mk hN7
   have HR7 := Aside0.mk hR7
   have HE7 := Aside0.mk eb7
   clear e7 eb7 hPw7 hkm hB7 hN7 hR7 hlook HQ1 HRC HB1 hfz hfz0 hc8 hc0 x0
   go_upto_region 11 with (fail)
   have f8 : ∃ w8 b8, w8 = w7.alloc (.cells #[.int .i64 e.tree, .string e.node.f2] 88) ∧ b8 = w7.heap.size ∧ Below w7.heap.size w7 w8 ∧ w8.heap[b8]? = some (.cells #[.int .i64 e.tree, .string e.node.f2] 88 (0, 0)) :=
    ⟨_, _, rfl, rfl, below_alloc (Below.refl _ _) _, blk_new _ _⟩
   obtain ⟨w8, b8, e8, eb8, hB8, hN8⟩ := f8
   rw [← e8, ← eb8]
   have HP8 := Aside0.mk (HP7.out.below hB8)
   have HBX8 := Aside0.mk ((hB8.block b7 (blk_lt' HN7.out)).trans HN7.out)
   have HRX8 := Aside0.mk (Kd.R_below HR7.out hB8)
   have HSX8 : Aside0 (wr.heap.size ≤ w8.heap.size) := ⟨Nat.le_trans HB7.out.size hB8.size⟩
   have HZ7 : Aside0 (wr.heap.size ≤ b7 ∧ W.heap.size ≤ b7) := ⟨by have := HE7.out; have := HW1.out; omega⟩
   have HN8 := Aside0.mk hN8
   clear e8 eb8 hB8 hN8 hlook2 q0 q1 HP7 HN7 HR7 HB7 HE7
   obtain ⟨k0, k1, k2, k3, k4, k5, k6, k7, k8⟩ := node_cells9 HBX8.out
   by_cases h48 : e.node.f3 = 48
   ·have e48 : (e.node.f3 == 48) = true := beq_iff_eq.2 h48
    have H48 := Aside0.mk h48
    clear h48
    obtain ⟨j0, j1⟩ := boxed2 HN8.out
    obtain ⟨l, hl⟩ := keyOf_key HEZ.out
    have hlk := HP8.out.M.look_ok keyLaw Tryd.underlying89 (zeroStr w8) hl
    have HL := Aside0.mk hl
    have hfz2 := blk_frozen HBX8.out 2
    clear hl
    cases hf : fk ((sortE s).take n.toNat) (keyV e) with
    | some u =>
     obtain ⟨p, rfl⟩ := fk_str hf
     have hlk2 := HP8.out.M.look keyLaw Tryd.underlying89 (zeroStr w8) HL.out
     rw [hf] at hlk hlk2
     simp only [Option.getD_some, Option.isSome_some] at hlk hlk2
     unfold keyV at hlk hlk2
     have HF := Aside0.mk hf
     clear hf
     go_upto_region 16 with (fail)
     have f10 : ∃ wx, wx = w8.setCell ⟨b7, 2, none⟩ (.string p) ∧ TreMid s W (.slice (some ad) (sortE s).length cq) n out (.slice Ao out.length co) wr.heap.size wx ∧ wx.heap[b7]? = some (.cells #[.string e.path, .string e.node.f1, .string p, .int .u8 e.node.f3, .int .i64 e.node.f4.f0, .int .i64 e.node.f4.f1, .int .i64 e.node.f4.f2, .int .i64 e.node.f4.f3, .slice A8 e.node.f5.length c8] 38 (0, 0)) ∧ Kd.R (Kd.int .u8) 5 wx wr.heap.size (fun _ => True) (.slice A8 e.node.f5.length c8) e.node.f5 ∧ wr.heap.size ≤ wx.heap.size :=
      ⟨_, rfl, (HP8.out.stay (fun v => by rw [HTK.out]; exact fk_old HF.out v)).set HBX8.out HZ7.out.1 HZ7.out.2 _, blk_put (cs' := #[.string e.path, .string e.node.f1, .string p, .int .u8 e.node.f3, .int .i64 e.node.f4.f0, .int .i64 e.node.f4.f1, .int .i64 e.node.f4.f2, .int .i64 e.node.f4.f3, .slice A8 e.node.f5.length c8]) HBX8.out 2 _ rfl, Kd.R_set HRX8.out HBX8.out (fun k hk => by rcases List.mem_cons.1 hk with rfl | hk; decide; cases hk) 2 _, by rw [World.size_setCell]; exact HSX8.out⟩
     have HOE : Aside0 (outE (sortE s) e = ⟨e.path, e.node.f1, p, e.node.f3, e.node.f4, e.node.f5⟩) := ⟨by unfold outE; rw [if_pos H48.out, HLO.out p HF.out]⟩
     obtain ⟨wx, ex, hMX, hBX, hRX, hSX⟩ := f10
     rw [← ex]
     have HM := Aside0.mk hMX
     have HBX := Aside0.mk hBX
     have HRX := Aside0.mk hRX
     have HSX := Aside0.mk hSX
     clear ex hMX hBX hRX hSX k0 k1 k2 k3 k4 k5 k6 k7 k8
     obtain ⟨k0, k1, k2, k3, k4, k5, k6, k7, k8⟩ := node_cells9 HBX.out
     go_wp2_with (first
      | (at_builtin; have hFK : Kd.FK k38 wx (fun k => wr.heap.size ≤ k) (outE (sortE s) e) [.string e.path, .string e.node.f1, .string p, .int .u8 e.node.f3, .int .i64 e.node.f4.f0, .int .i64 e.node.f4.f1, .int .i64 e.node.f4.f2, .int .i64 e.node.f4.f3, .slice A8 e.node.f5.length c8] := (by rw [HOE.out]; exact k38_mkF wx _ ⟨e.path, e.node.f1, p, e.node.f3, e.node.f4, e.node.f5⟩ HL8.out (Kd.R_F (Kd.R_mono (Kd.R_bound HRX.out) (fun k hk => hk.2.1)))); refine Kd.N_append k38 (w0 := W) W.heap.size rfl _ _ 31 38 _ 112 rfl Tryd.underlying31 infoNode rfl (by decide) (by decide) (.slice Ao out.length co) out (outE (sortE s) e) [.string e.path, .string e.node.f1, .string p, .int .u8 e.node.f3, .int .i64 e.node.f4.f0, .int .i64 e.node.f4.f1, .int .i64 e.node.f4.f2, .int .i64 e.node.f4.f3, .slice A8 e.node.f5.length c8] (fun k => W.heap.size + 1 ≤ k) (fun k => wr.heap.size ≤ k) rfl rfl hFK (fun k hk => ⟨by have := HW1.out; omega, fun e2 => by have := HM.out.N.1 k e2.symm; omega⟩) (fun k hk => by have := HW1.out; have := HSX.out; omega) (Kd.N_mono HM.out.N (fun k hk => hk.1)) HM.out.B (by have := HM.out.B.size; omega) (by have := HOL.out; omega) ?_; intro v4 w4 hN4 hB4 hg4 hat4; have HN4 := Aside0.mk hN4; have HB4 := Aside0.mk hB4; have HG4 := Aside0.mk hg4; clear hN4 hB4 hg4 hat4 hFK k0 k1 k2 k3 k4 k5 k6 k7 k8)
      | fail)
     have hfin : TreRel s W (.slice (some ad) (sortE s).length cq) (n + 1) v4 w4 := tre_next h0 HNL.out HOUT.out HM.out HG4.out (by rw [HQE.out]; exact HN4.out) HB4.out
     have HFIN := Aside0.mk hfin
     clear hfin
     go_roundw
     case rel => exact ⟨n + 1, by go_num, HFIN⟩
     case measure => simp [intOf]; omega
    | none =>
     rw [hf] at hlk
     simp only [Option.getD_none, Option.isSome_none] at hlk
     unfold keyV at hlk
     have HF := Aside0.mk hf
     clear hf
     go_upto_region 16 with (first
      | (at_mapUpdate; refine MapK.wpput (k := keyV e) (u := .string e.path) HP8.out.M rfl _ _ _ rfl keyLaw Tryd.underlying89 (by unfold maxLen; omega) rfl rfl HL.out rfl ?_; intro w9 hM9 hT9; have hlk3 := hM9.look keyLaw Tryd.underlying89 (zeroStr w9) HL.out; have hpk : putK (fk ((sortE s).take n.toNat)) (keyV e) (.string e.path) (keyV e) = some (.string e.path) := (by unfold putK; rw [if_pos rfl]); rw [hpk, Option.getD_some] at hlk3; unfold keyV at hlk3; obtain ⟨hb7, _⟩ := turned_box hT9 HBX8.out; obtain ⟨hb8, _⟩ := turned_box hT9 HN8.out; have HBX9 := Aside0.mk hb7; have HM9 := Aside0.mk (HP8.out.turn hM9 hT9 (fun v => by rw [HTK.out]; exact fk_new H48.out HF.out v)); have HRX9 := Aside0.mk (R_turned HRX8.out hT9); have HSX9 := Aside0.mk (Nat.le_trans HSX8.out (turned_grown hT9).size); clear hM9 hT9 hpk k0 k1 k2 k3 k4 k5 k6 k7 k8 j0 j1 hfz2 hlk; obtain ⟨k0, k1, k2, k3, k4, k5, k6, k7, k8⟩ := node_cells9 hb7; obtain ⟨j0, j1⟩ := boxed2 hb8; have hfz2 := blk_frozen hb7 2; clear hb7 hb8)
      | fail)
     have f10 : ∃ wx, wx = w9.setCell ⟨b7, 2, none⟩ (.string e.path) ∧ TreMid s W (.slice (some ad) (sortE s).length cq) n out (.slice Ao out.length co) wr.heap.size wx ∧ wx.heap[b7]? = some (.cells #[.string e.path, .string e.node.f1, .string e.path, .int .u8 e.node.f3, .int .i64 e.node.f4.f0, .int .i64 e.node.f4.f1, .int .i64 e.node.f4.f2, .int .i64 e.node.f4.f3, .slice A8 e.node.f5.length c8] 38 (0, 0)) ∧ Kd.R (Kd.int .u8) 5 wx wr.heap.size (fun _ => True) (.slice A8 e.node.f5.length c8) e.node.f5 ∧ wr.heap.size ≤ wx.heap.size :=
      ⟨_, rfl, HM9.out.set HBX9.out HZ7.out.1 HZ7.out.2 _, blk_put (cs' := #[.string e.path, .string e.node.f1, .string e.path, .int .u8 e.node.f3, .int .i64 e.node.f4.f0, .int .i64 e.node.f4.f1, .int .i64 e.node.f4.f2, .int .i64 e.node.f4.f3, .slice A8 e.node.f5.length c8]) HBX9.out 2 _ rfl, Kd.R_set HRX9.out HBX9.out (fun k hk => by rcases List.mem_cons.1 hk with rfl | hk; decide; cases hk) 2 _, by rw [World.size_setCell]; exact HSX9.out⟩
     have HOE : Aside0 (outE (sortE s) e = ⟨e.path, e.node.f1, e.path, e.node.f3, e.node.f4, e.node.f5⟩) := ⟨by unfold outE; rw [if_pos H48.out, HLN.out H48.out HF.out]⟩
     obtain ⟨wx, ex, hMX, hBX, hRX, hSX⟩ := f10
     rw [← ex]
     have HM := Aside0.mk hMX
     have HBX := Aside0.mk hBX
     have HRX := Aside0.mk hRX
     have HSX := Aside0.mk hSX
     clear ex hMX hBX hRX hSX k0 k1 k2 k3 k4 k5 k6 k7 k8
     obtain ⟨k0, k1, k2, k3, k4, k5, k6, k7, k8⟩ := node_cells9 HBX.out
     go_wp2_with (first
      | (at_builtin; have hFK : Kd.FK k38 wx (fun k => wr.heap.size ≤ k) (outE (sortE s) e) [.string e.path, .string e.node.f1, .string e.path, .int .u8 e.node.f3, .int .i64 e.node.f4.f0, .int .i64 e.node.f4.f1, .int .i64 e.node.f4.f2, .int .i64 e.node.f4.f3, .slice A8 e.node.f5.length c8] := (by rw [HOE.out]; exact k38_mkF wx _ ⟨e.path, e.node.f1, e.path, e.node.f3, e.node.f4, e.node.f5⟩ HL8.out (Kd.R_F (Kd.R_mono (Kd.R_bound HRX.out) (fun k hk => hk.2.1)))); refine Kd.N_append k38 (w0 := W) W.heap.size rfl _ _ 31 38 _ 112 rfl Tryd.underlying31 infoNode rfl (by decide) (by decide) (.slice Ao out.length co) out (outE (sortE s) e) [.string e.path, .string e.node.f1, .string e.path, .int .u8 e.node.f3, .int .i64 e.node.f4.f0, .int .i64 e.node.f4.f1, .int .i64 e.node.f4.f2, .int .i64 e.node.f4.f3, .slice A8 e.node.f5.length c8] (fun k => W.heap.size + 1 ≤ k) (fun k => wr.heap.size ≤ k) rfl rfl hFK (fun k hk => ⟨by have := HW1.out; omega, fun e2 => by have := HM.out.N.1 k e2.symm; omega⟩) (fun k hk => by have := HW1.out; have := HSX.out; omega) (Kd.N_mono HM.out.N (fun k hk => hk.1)) HM.out.B (by have := HM.out.B.size; omega) (by have := HOL.out; omega) ?_; intro v4 w4 hN4 hB4 hg4 hat4; have HN4 := Aside0.mk hN4; have HB4 := Aside0.mk hB4; have HG4 := Aside0.mk hg4; clear hN4 hB4 hg4 hat4 hFK k0 k1 k2 k3 k4 k5 k6 k7 k8)
      | fail)
     have hfin : TreRel s W (.slice (some ad) (sortE s).length cq) (n + 1) v4 w4 := tre_next h0 HNL.out HOUT.out HM.out HG4.out (by rw [HQE.out]; exact HN4.out) HB4.out
     have HFIN := Aside0.mk hfin
     clear hfin
     go_roundw
     case rel => exact ⟨n + 1, by go_num, HFIN⟩
     case measure => simp [intOf]; omega
   ·have e48 : (e.node.f3 == 48) = false := beq_eq_false_iff_ne.2 h48
    have H48 := Aside0.mk h48
    clear h48
    go_upto_region 16 with (fail)
    have f10 : ∃ wx, wx = w8 ∧ TreMid s W (.slice (some ad) (sortE s).length cq) n out (.slice Ao out.length co) wr.heap.size wx ∧ wx.heap[b7]? = some (.cells #[.string e.path, .string e.node.f1, .string e.node.f2, .int .u8 e.node.f3, .int .i64 e.node.f4.f0, .int .i64 e.node.f4.f1, .int .i64 e.node.f4.f2, .int .i64 e.node.f4.f3, .slice A8 e.node.f5.length c8] 38 (0, 0)) ∧ Kd.R (Kd.int .u8) 5 wx wr.heap.size (fun _ => True) (.slice A8 e.node.f5.length c8) e.node.f5 ∧ wr.heap.size ≤ wx.heap.size :=
     ⟨_, rfl, HP8.out.stay (fun v => by rw [HTK.out]; exact fk_other H48.out v), HBX8.out, HRX8.out, HSX8.out⟩
    have HOE : Aside0 (outE (sortE s) e = ⟨e.path, e.node.f1, e.node.f2, e.node.f3, e.node.f4, e.node.f5⟩) := ⟨by unfold outE; rw [if_neg H48.out]⟩
    obtain ⟨wx, ex, hMX, hBX, hRX, hSX⟩ := f10
    rw [← ex]
    have HM := Aside0.mk hMX
    have HBX := Aside0.mk hBX
    have HRX := Aside0.mk hRX
    have HSX := Aside0.mk hSX
    clear ex hMX hBX hRX hSX k0 k1 k2 k3 k4 k5 k6 k7 k8
    obtain ⟨k0, k1, k2, k3, k4, k5, k6, k7, k8⟩ := node_cells9 HBX.out
    go_wp2_with (first
     | (at_builtin; have hFK : Kd.FK k38 wx (fun k => wr.heap.size ≤ k) (outE (sortE s) e) [.string e.path, .string e.node.f1, .string e.node.f2, .int .u8 e.node.f3, .int .i64 e.node.f4.f0, .int .i64 e.node.f4.f1, .int .i64 e.node.f4.f2, .int .i64 e.node.f4.f3, .slice A8 e.node.f5.length c8] := (by rw [HOE.out]; exact k38_mkF wx _ ⟨e.path, e.node.f1, e.node.f2, e.node.f3, e.node.f4, e.node.f5⟩ HL8.out (Kd.R_F (Kd.R_mono (Kd.R_bound HRX.out) (fun k hk => hk.2.1)))); refine Kd.N_append k38 (w0 := W) W.heap.size rfl _ _ 31 38 _ 112 rfl Tryd.underlying31 infoNode rfl (by decide) (by decide) (.slice Ao out.length co) out (outE (sortE s) e) [.string e.path, .string e.node.f1, .string e.node.f2, .int .u8 e.node.f3, .int .i64 e.node.f4.f0, .int .i64 e.node.f4.f1, .int .i64 e.node.f4.f2, .int .i64 e.node.f4.f3, .slice A8 e.node.f5.length c8] (fun k => W.heap.size + 1 ≤ k) (fun k => wr.heap.size ≤ k) rfl rfl hFK (fun k hk => ⟨by have := HW1.out; omega, fun e2 => by have := HM.out.N.1 k e2.symm; omega⟩) (fun k hk => by have := HW1.out; have := HSX.out; omega) (Kd.N_mono HM.out.N (fun k hk => hk.1)) HM.out.B (by have := HM.out.B.size; omega) (by have := HOL.out; omega) ?_; intro v4 w4 hN4 hB4 hg4 hat4; have HN4 := Aside0.mk hN4; have HB4 := Aside0.mk hB4; have HG4 := Aside0.mk hg4; clear hN4 hB4 hg4 hat4 hFK k0 k1 k2 k3 k4 k5 k6 k7 k8)
     | fail)
    have hfin : TreRel s W (.slice (some ad) (sortE s).length cq) (n + 1) v4 w4 := tre_next h0 HNL.out HOUT.out HM.out HG4.out (by rw [HQE.out]; exact HN4.out) HB4.out
    have HFIN := Aside0.mk hfin
    clear hfin
    go_roundw
    case rel => exact ⟨n + 1, by go_num, HFIN⟩
    case measure => simp [intOf]; omega
  ·have c1b : decide (n < ((sortE s).length : Int)) = false := decide_eq_false hlt
   have hend : n = (sortE s).length := by omega
   go_wp2
   rw [← hQ.out]
   refine ⟨_, rfl, ?_, HPR.out.B⟩
   have e : out = treeE s := by
    rw [← HOUT.out, hend, Int.toNat_natCast, List.take_length]
    rfl
   rw [← e]
   exact HNV.out
end Go.Proofs.YtfmphccoeinhcaaDoor

namespace Go.Proofs.YtfmphccoeinhcaaDoor
open Go.RowKit Go.Proofs.YtfmphccoeinhcaaDoor.Print Go.Proofs.YtfmphccoeinhcaaDoorW.PrintWords
set_option linter.unusedVariables false
structure FromT {κ : Type} (U : List Node) (src : ByteArray → Option (κ × Node)) : Prop where
 good : goodTree U = true
 no : ∀ p, src p = none → findF U p = none
 yes : ∀ p k x, src p = some (k, x) → ∃ y, findF U p = some y ∧ equalB y x = true
 cls : ∀ p q k k' x x' y y', src p = some (k, x) → src q = some (k', x') → findF U p = some y → findF U q = some y' → x.f3 = 48 → x'.f3 = 48 → (y.f2 = y'.f2 ↔ k = k')
structure SameSrc {κ κ' : Type} (s : ByteArray → Option (κ × Node)) (t : ByteArray → Option (κ' × Node)) : Prop where
 data : ∀ p, (s p = none ∧ t p = none) ∨ ∃ k x k' x', s p = some (k, x) ∧ t p = some (k', x') ∧ equalB x x' = true
 cls : ∀ p q k x k' x' l y l' y', s p = some (k, x) → t p = some (k', x') → s q = some (l, y) → t q = some (l', y') → x.f3 = 48 → y.f3 = 48 → (k = l ↔ k' = l')
def pileFrom (n : Int) (s : PL) (t : List Node) : PL := t.foldl (fun s x => putE s ⟨x.f0, x, n⟩) s
def pilesFrom : Nat → PL → List (List Node) → PL
 | _, s, [] => s
 | n, s, t :: r => pilesFrom (n + 1) (pileFrom n s t) r
def unionF (ls : List (List Node)) : List Node × Int := if ls.all goodTree = true then (if 4096 < (pilesFrom 0 [] ls).length then ([], 10) else (treeE (pilesFrom 0 [] ls), 0)) else ([], 1)
theorem pileFrom_len (n : Int) (t : List Node) : ∀ (s : PL), (pileFrom n s t).length ≤ s.length + t.length := by
 induction t with
 | nil => intro s; exact Nat.le_refl _
 | cons x r ih =>
  intro s
  have h1 := ih (putE s ⟨x.f0, x, n⟩)
  have h2 := putE_len s ⟨x.f0, x, n⟩
  rw [List.length_cons]
  show (pileFrom n (putE s ⟨x.f0, x, n⟩) r).length ≤ _
  omega
theorem pilesFrom_len (ls : List (List Node)) (k : Nat) (hk : ∀ t ∈ ls, t.length ≤ k) : ∀ (n : Nat) (s : PL), (pilesFrom n s ls).length ≤ s.length + ls.length * k := by
 induction ls with
 | nil => intro n s; simp [pilesFrom]
 | cons t r ih =>
  intro n s
  have h1 := ih (fun u hu => hk u (List.mem_cons_of_mem _ hu)) (n + 1) (pileFrom n s t)
  have h2 := pileFrom_len n t s
  have h3 := hk t List.mem_cons_self
  rw [List.length_cons, Nat.succ_mul]
  show (pilesFrom (n + 1) (pileFrom n s t) r).length ≤ _
  omega
end Go.Proofs.YtfmphccoeinhcaaDoor

namespace Go.Proofs.YtfmphccoeinhcaaDoor.Print
open Go.RowKit Go.Proofs.YtfmphccoeinhcaaDoor Go.Proofs.YtfmphccoeinhcaaDoorW.PrintWords Go.Proofs.YtfmphccoeinhcaaDoorW.PrintLast Go.Proofs.YtfmphccoeinhcaaDoorW.PrintMore
set_option linter.unusedVariables false
def tree_Find.f (l : List S38) (p : ByteArray) : Option (ByteArray × ByteArray × ByteArray × Int × Int × Int × Int × Int × List Int × Bool) :=
 if riseB l = true ∧ nodesZ l = true then some (tupN (findF l p)) else none
theorem tree_Find.calls (A0 : Option Addr) (c0 : Nat) (l0 : List S38) (a1 : ByteArray) (r1 r2 r3 : ByteArray) (r4 r5 r6 r7 r8 : Int) (r9 : List Int) (r10 : Bool) (w : World) (hr0 : Kd.C k38 w A0 l0.length l0) (hc0 : l0.length ≤ c0) (h : tree_Find.f l0 a1 = some (r1, r2, r3, r4, r5, r6, r7, r8, r9, r10)) :
  Calls Tryd.prog 54 #[.slice A0 l0.length c0, .string a1] w fun e w' => ∃ v8_ : Value, e = .returned (.tuple #[.agg #[.string r1, .string r2, .string r3, .int .u8 r4, .int .i64 r5, .int .i64 r6, .int .i64 r7, .int .i64 r8, v8_], .bool r10]) ∧ Kd.V (Kd.int .u8) 5 w' w.heap.size (fun k_ => w.heap.size ≤ k_) v8_ r9 ∧ Below w.heap.size w w' := by
 unfold tree_Find.f at h
 split at h
 ·rename_i hc
  refine (Find_calls A0 c0 l0 a1 w hr0 hc.1 ((nodesZ_iff l0).1 hc.2)).mono ?_
  rintro e w' ⟨x, b, v, hm, rfl, hR, hB⟩
  have hV := Kd.R_V (base' := w.heap.size) (Kd.R_mono (ok' := fun k_ => w.heap.size ≤ k_) (Kd.R_bound hR) (fun k hk => hk.2.1))
  cases hf : findF l0 a1 with
  | none =>
   rw [hf] at hm h
   obtain ⟨rfl, rfl⟩ := hm
   simp only [tupN, Option.some.injEq, Prod.mk.injEq] at h
   obtain ⟨rfl, rfl, rfl, rfl, rfl, rfl, rfl, rfl, rfl, rfl⟩ := h
   exact ⟨v, rfl, hV, hB⟩
  | some y =>
   rw [hf] at hm h
   obtain ⟨rfl, rfl⟩ := hm
   simp only [tupN, Option.some.injEq, Prod.mk.injEq] at h
   obtain ⟨rfl, rfl, rfl, rfl, rfl, rfl, rfl, rfl, rfl, rfl⟩ := h
   exact ⟨v, rfl, hV, hB⟩
 ·cases h
end Go.Proofs.YtfmphccoeinhcaaDoor.Print

namespace Go.Proofs.YtfmphccoeinhcaaDoor
open Go.RowKit
theorem binOp_leq_less (t : TypeId) (a b : ByteArray) : binOp .leq t (.string a) (.string b) = pure (.bool !(Op.bytesLess b.toList a.toList)) := by
 rw [binOp_string_leq]
 congr 2
 rcases less_tri a.toList b.toList with h | h | h
 ·rw [h]
  cases h2 : Op.bytesLess b.toList a.toList with
  | false => rfl
  | true =>
   have := less_trans _ _ _ h h2
   rw [less_irr] at this
   cases this
 ·rw [h, less_irr]; simp
 ·rw [h]
  cases h2 : Op.bytesLess a.toList b.toList with
  | true =>
   have := less_trans _ _ _ h h2
   rw [less_irr] at this
   cases this
  | false =>
   cases h3 : (a.toList == b.toList) with
   | false => rfl
   | true =>
    rw [beq_iff_eq] at h3
    rw [h3, less_irr] at h
    cases h
end Go.Proofs.YtfmphccoeinhcaaDoor

namespace Go.Proofs.YtfmphccoeinhcaaDoor.Print
open Go.RowKit Go.Proofs.YtfmphccoeinhcaaDoorW.PrintWords Go.Proofs.YtfmphccoeinhcaaDoorW.PrintLast Go.Proofs.YtfmphccoeinhcaaDoorW.PrintMore
attribute [local go_sem] max2_int min2_int max_two min_two max_three min_three max_four min_four   -- for this text's walks alone
set_option linter.unusedVariables false
set_option linter.unusedSimpArgs false
theorem eqA24 (d : Nat) (w : World) (x0 y0 : Int) (x1 y1 : Int) (x2 y2 : Int) (x3 y3 : Int) :
  (Op.equalIn (d + 2) 24 (.agg #[.int .i64 x0, .int .i64 x1, .int .i64 x2, .int .i64 x3]) (.agg #[.int .i64 y0, .int .i64 y1, .int .i64 y2, .int .i64 y3])).run Tryd.prog w = .ok (x0 == y0 && (x1 == y1 && (x2 == y2 && (x3 == y3)))) w := by
 refine eqA_of Tryd.underlying24 (by kernel_rfl) ?_
 refine eqf_cons (by rfl) (by go_simp; rfl) (by go_simp; rfl) (by go_simp) ?_
 refine eqf_cons (by rfl) (by go_simp; rfl) (by go_simp; rfl) (by go_simp) ?_
 refine eqf_cons (by rfl) (by go_simp; rfl) (by go_simp; rfl) (by go_simp) ?_
 exact eqf_last (by rfl) (by go_simp; rfl) (by go_simp; rfl) (by go_simp)
end Go.Proofs.YtfmphccoeinhcaaDoor.Print

namespace Go.Proofs.YtfmphccoeinhcaaDoor.Print
open Go.RowKit Go.Proofs.YtfmphccoeinhcaaDoorW.PrintWords Go.Proofs.YtfmphccoeinhcaaDoorW.PrintLast Go.Proofs.YtfmphccoeinhcaaDoorW.PrintMore
attribute [local go_sem] max2_int min2_int max_two min_two max_three min_three max_four min_four   -- for this text's walks alone
set_option linter.unusedVariables false
set_option linter.unusedSimpArgs false
def bytes_Equal.f (l0 : List Int) (l1 : List Int) : Option (Bool) := some ((strOfNums l0).toList == (strOfNums l1).toList)
set_option maxHeartbeats 8000000 in
set_option maxRecDepth 100000 in
theorem bytes_Equal.calls (A0 : Option Addr) (c0 : Nat) (l0 : List Int) (A1 : Option Addr) (c1 : Nat) (l1 : List Int) (r : Bool) (w : World) (hr0 : Kd.C (Kd.int .u8) w A0 l0.length l0) (hc0 : l0.length ≤ c0) (hr1 : Kd.C (Kd.int .u8) w A1 l1.length l1) (hc1 : l1.length ≤ c1) (h : bytes_Equal.f l0 l1 = some r) :
  Calls Tryd.prog 72 #[.slice A0 l0.length c0, .slice A1 l1.length c1] w fun e w' => e = .returned (.bool r) ∧ Drawn0 w w' := by
 have HR0 := A0_ hr0
 have HC0 := A0_ hc0
 clear hr0 hc0
 have HR1 := A0_ hr1
 have HC1 := A0_ hc1
 clear hr1 hc1
 have H : (some ((strOfNums l0).toList == (strOfNums l1).toList)) = some r := h
 clear h
 obtain rfl := Option.some.inj H
 have hcv3 := Kd.C_string (P := Tryd.prog) (A := A0) (c := c0) Tryd.underlying25 Tryd.underlying5 Tryd.underlying9 HR0.out
 have hcv4 := Kd.C_string (P := Tryd.prog) (A := A1) (c := c1) Tryd.underlying25 Tryd.underlying5 Tryd.underlying9 HR1.out
 go_enter Tryd.func72, Tryd.ntmps72
 go_wp2
 go_ret
 exact ⟨by first | rfl | (simp; done) | (simp [*]; done), by repeat (first | exact Drawn0.refl _ | apply Drawn0.step)⟩
end Go.Proofs.YtfmphccoeinhcaaDoor.Print

namespace Go.Proofs.YtfmphccoeinhcaaDoor.Print
open Go.RowKit Go.Proofs.YtfmphccoeinhcaaDoorW.PrintWords Go.Proofs.YtfmphccoeinhcaaDoorW.PrintLast Go.Proofs.YtfmphccoeinhcaaDoorW.PrintMore
attribute [local go_sem] max2_int min2_int max_two min_two max_three min_three max_four min_four   -- for this text's walks alone
set_option linter.unusedVariables false
set_option linter.unusedSimpArgs false
attribute [local go_sem high] eqA24
attribute [local go_sem high] binOp_leq_less
def tree_led.f (l0 : List (S38)) (a1_0 : ByteArray) (a1_1 : ByteArray) (a1_2 : ByteArray) (a1_3 : Int) (a1_4 : Int) (a1_5 : Int) (a1_6 : Int) (a1_7 : Int) (l1_8 : List Int) : Option (Bool) := if a1_3 = 48 then ((tree_Find.f l0 a1_2).bind fun bt905 => (if bt905.2.2.2.2.2.2.2.2.2 = true then (if bt905.2.2.2.1 = 48 then (if bt905.2.2.1.toList = bt905.1.toList then (if ((Op.bytesLess a1_0.toList bt905.1.toList) = true) then (some false) else (if (bt905.2.2.2.2.1 == a1_4 && (bt905.2.2.2.2.2.1 == a1_5 && (bt905.2.2.2.2.2.2.1 == a1_6 && (bt905.2.2.2.2.2.2.2.1 == a1_7)))) = true then ((bytes_Equal.f bt905.2.2.2.2.2.2.2.2.1 l1_8).bind fun t918 => (some t918)) else (some false))) else (some false)) else (some false)) else (some false))) else (some (a1_2.toList == ([] : List UInt8)))
set_option maxHeartbeats 8000000 in
set_option maxRecDepth 100000 in
theorem tree_led.calls (A0 : Option Addr) (c0 : Nat) (l0 : List (S38)) (a1_0 : ByteArray) (a1_1 : ByteArray) (a1_2 : ByteArray) (a1_3 : Int) (a1_4 : Int) (a1_5 : Int) (a1_6 : Int) (a1_7 : Int) (A1_8 : Option Addr) (c1_8 : Nat) (l1_8 : List Int) (r : Bool) (w : World) (hr0 : Kd.C k38 w A0 l0.length l0) (hc0 : l0.length ≤ c0) (hr1_8 : Kd.C (Kd.int .u8) w A1_8 l1_8.length l1_8) (hc1_8 : l1_8.length ≤ c1_8) (h : tree_led.f l0 a1_0 a1_1 a1_2 a1_3 a1_4 a1_5 a1_6 a1_7 l1_8 = some r) :
  Calls Tryd.prog 60 #[.slice A0 l0.length c0, .agg #[.string a1_0, .string a1_1, .string a1_2, .int .u8 a1_3, .int .i64 a1_4, .int .i64 a1_5, .int .i64 a1_6, .int .i64 a1_7, .slice A1_8 l1_8.length c1_8]] w fun e w' => e = .returned (.bool r) ∧ Below w.heap.size w w' := by
 have hu38 := Tryd.underlying38
 have hu24 := Tryd.underlying24
 have HR0 := A0_ hr0
 have HC0 := A0_ hc0
 clear hr0 hc0
 have HR1_8 := A0_ hr1_8
 have HC1_8 := A0_ hc1_8
 clear hr1_8 hc1_8
 have HB := A0_ (Below.refl w.heap.size w)
 have H : (if a1_3 = 48 then ((tree_Find.f l0 a1_2).bind fun bt905 => (if bt905.2.2.2.2.2.2.2.2.2 = true then (if bt905.2.2.2.1 = 48 then (if bt905.2.2.1.toList = bt905.1.toList then (if ((Op.bytesLess a1_0.toList bt905.1.toList) = true) then (some false) else (if (bt905.2.2.2.2.1 == a1_4 && (bt905.2.2.2.2.2.1 == a1_5 && (bt905.2.2.2.2.2.2.1 == a1_6 && (bt905.2.2.2.2.2.2.2.1 == a1_7)))) = true then ((bytes_Equal.f bt905.2.2.2.2.2.2.2.2.1 l1_8).bind fun t918 => (some t918)) else (some false))) else (some false)) else (some false)) else (some false))) else (some (a1_2.toList == ([] : List UInt8)))) = some r := h
 clear h
 by_cases c3 : a1_3 = 48
 rotate_left
 ·rw [if_neg c3] at H
  have c3b0 : (a1_3 == 48) = false := beq_eq_false_iff_ne.mpr c3
  have c3b1 : (a1_3 != 48) = true := bne_iff_ne.mpr c3
  obtain rfl := Option.some.inj H
  go_enter Tryd.func60, Tryd.ntmps60
  go_wp2_with (first | ((with_reducible refine gate_dst (N := 3) rfl ?_); refine box_event ?hg (N := 3) ?hd (cs := #[.string a1_0, .string a1_1, .string a1_2, .int .u8 a1_3, .int .i64 a1_4, .int .i64 a1_5, .int .i64 a1_6, .int .i64 a1_7, .slice A1_8 l1_8.length c1_8]) (t := 38) ?hr ?_; (case hd => rfl); (case hg => rfl); (case hr => first | (go_simp; done) | (go_simp; rfl)); intro gb904 hg w56 hbox hb; have n0_ := A0_ (below_step (wb_ HB.out) hb); have n1_ := A0_ (hbox); have n2_ := A0_ ((by rw [hg]; exact (below_size (wb_ HB.out)) : w.heap.size ≤ gb904)); have n3_ := A0_ ((by rw [hg]; exact (below_size (wb_ HB.out)) : w.heap.size ≤ gb904)); clear HB; have HB := n0_; have BK904 := n1_; have GW904 := n2_; have GE904 := n3_; clear n0_ n1_ n2_ n3_; clear hb hbox hg; have hcz57_0 : w56.cell? ⟨gb904, 0, none⟩ = some (.string a1_0) := (bc_ BK904.out 0).trans rfl; have hcz57_1 : w56.cell? ⟨gb904, 1, none⟩ = some (.string a1_1) := (bc_ BK904.out 1).trans rfl; have hcz57_2 : w56.cell? ⟨gb904, 2, none⟩ = some (.string a1_2) := (bc_ BK904.out 2).trans rfl; have hcz57_3 : w56.cell? ⟨gb904, 3, none⟩ = some (.int .u8 a1_3) := (bc_ BK904.out 3).trans rfl; have hcz57_4 : w56.cell? ⟨gb904, 4, none⟩ = some (.int .i64 a1_4) := (bc_ BK904.out 4).trans rfl; have hcz57_5 : w56.cell? ⟨gb904, 5, none⟩ = some (.int .i64 a1_5) := (bc_ BK904.out 5).trans rfl; have hcz57_6 : w56.cell? ⟨gb904, 6, none⟩ = some (.int .i64 a1_6) := (bc_ BK904.out 6).trans rfl; have hcz57_7 : w56.cell? ⟨gb904, 7, none⟩ = some (.int .i64 a1_7) := (bc_ BK904.out 7).trans rfl; have hcz57_8 : w56.cell? ⟨gb904, 8, none⟩ = some (.slice A1_8 l1_8.length c1_8) := (bc_ BK904.out 8).trans rfl; have hfz57_0 := bf_ BK904.out 0; have hfz57_1 := bf_ BK904.out 1; have hfz57_2 := bf_ BK904.out 2; have hfz57_3 := bf_ BK904.out 3; have hfz57_4 := bf_ BK904.out 4; have hfz57_5 := bf_ BK904.out 5; have hfz57_6 := bf_ BK904.out 6; have hfz57_7 := bf_ BK904.out 7; have hfz57_8 := bf_ BK904.out 8))
  go_ret
  exact ⟨we_, wb1_ HB.out GE904.out⟩
 rw [if_pos c3] at H
 have c3b0 : (a1_3 == 48) = true := beq_iff_eq.mpr c3
 have c3b1 : (a1_3 != 48) = false := bne_eq_false_iff_eq.mpr c3
 clear c3
 replace H := Option.bind_eq_some_iff.mp H
 obtain ⟨⟨t905, t906, t907, t908, t909, t910, t911, t912, t913, t916⟩, A40, H⟩ := H
 replace H : (if t916 = true then (if t908 = 48 then (if t907.toList = t905.toList then (if ((Op.bytesLess a1_0.toList t905.toList) = true) then (some false) else (if (t909 == a1_4 && (t910 == a1_5 && (t911 == a1_6 && (t912 == a1_7)))) = true then ((bytes_Equal.f t913 l1_8).bind fun t918 => (some t918)) else (some false))) else (some false)) else (some false)) else (some false)) = some r := H
 have A4 := A0_ A40
 clear A40
 by_cases c5 : t916 = true
 rotate_left
 ·replace c5 := Bool.eq_false_iff.mpr c5
  subst c5
  have H1 : (some false) = some r := by rw [if_neg (show ¬ (false = true) by decide)] at H; exact H
  clear H
  have H := H1
  clear H1
  obtain rfl := Option.some.inj H
  go_enter Tryd.func60, Tryd.ntmps60
  go_wp2_with (first | ((with_reducible refine gate_dst (N := 3) rfl ?_); refine box_event ?hg (N := 3) ?hd (cs := #[.string a1_0, .string a1_1, .string a1_2, .int .u8 a1_3, .int .i64 a1_4, .int .i64 a1_5, .int .i64 a1_6, .int .i64 a1_7, .slice A1_8 l1_8.length c1_8]) (t := 38) ?hr ?_; (case hd => rfl); (case hg => rfl); (case hr => first | (go_simp; done) | (go_simp; rfl)); intro gb904 hg w49 hbox hb; have n0_ := A0_ (below_step (wb_ HB.out) hb); have n1_ := A0_ (hbox); have n2_ := A0_ ((by rw [hg]; exact (below_size (wb_ HB.out)) : w.heap.size ≤ gb904)); have n3_ := A0_ ((by rw [hg]; exact (below_size (wb_ HB.out)) : w.heap.size ≤ gb904)); clear HB; have HB := n0_; have BK904 := n1_; have GW904 := n2_; have GE904 := n3_; clear n0_ n1_ n2_ n3_; clear hb hbox hg; have hcz50_0 : w49.cell? ⟨gb904, 0, none⟩ = some (.string a1_0) := (bc_ BK904.out 0).trans rfl; have hcz50_1 : w49.cell? ⟨gb904, 1, none⟩ = some (.string a1_1) := (bc_ BK904.out 1).trans rfl; have hcz50_2 : w49.cell? ⟨gb904, 2, none⟩ = some (.string a1_2) := (bc_ BK904.out 2).trans rfl; have hcz50_3 : w49.cell? ⟨gb904, 3, none⟩ = some (.int .u8 a1_3) := (bc_ BK904.out 3).trans rfl; have hcz50_4 : w49.cell? ⟨gb904, 4, none⟩ = some (.int .i64 a1_4) := (bc_ BK904.out 4).trans rfl; have hcz50_5 : w49.cell? ⟨gb904, 5, none⟩ = some (.int .i64 a1_5) := (bc_ BK904.out 5).trans rfl; have hcz50_6 : w49.cell? ⟨gb904, 6, none⟩ = some (.int .i64 a1_6) := (bc_ BK904.out 6).trans rfl; have hcz50_7 : w49.cell? ⟨gb904, 7, none⟩ = some (.int .i64 a1_7) := (bc_ BK904.out 7).trans rfl; have hcz50_8 : w49.cell? ⟨gb904, 8, none⟩ = some (.slice A1_8 l1_8.length c1_8) := (bc_ BK904.out 8).trans rfl; have hfz50_0 := bf_ BK904.out 0; have hfz50_1 := bf_ BK904.out 1; have hfz50_2 := bf_ BK904.out 2; have hfz50_3 := bf_ BK904.out 3; have hfz50_4 := bf_ BK904.out 4; have hfz50_5 := bf_ BK904.out 5; have hfz50_6 := bf_ BK904.out 6; have hfz50_7 := bf_ BK904.out 7; have hfz50_8 := bf_ BK904.out 8) | ((with_reducible refine gate_callee (f := 54) rfl ?_); refine goesL_ (some 17) rfl rfl Tryd.func54 (by kernel_rfl) rfl #[.slice A0 l0.length c0, .string a1_2] rfl wm_ ?_; (with_reducible refine (tree_Find.calls _ _ l0 a1_2 t905 t906 t907 t908 t909 t910 t911 t912 t913 false _ ?side1 ?side2 A4.out).mono ?_); (case side1 => exact wc_ (Kd.C_below HR0.out HB.out)); (case side2 => exact HC0.out); rintro e w51 ⟨v914, rfl, ho0, hb⟩; refine ⟨_, rfl, ?_⟩; have n0_ := A0_ (Kd.V_lower (Kd.V_mono (ok' := fun k_ => k_ ≠ gb904) ho0 (fun k_ hk_ => (Kd.freshB (g := gb904) (o := .cells #[.string a1_0, .string a1_1, .string a1_2, .int .u8 a1_3, .int .i64 a1_4, .int .i64 a1_5, .int .i64 a1_6, .int .i64 a1_7, .slice A1_8 l1_8.length c1_8] 38 (0, 0)) (wB_ BK904.out) k_ hk_))) (below_size (wb1_ HB.out GE904.out))); have n1_ := A0_ (blk_below (g := gb904) (o := .cells #[.string a1_0, .string a1_1, .string a1_2, .int .u8 a1_3, .int .i64 a1_4, .int .i64 a1_5, .int .i64 a1_6, .int .i64 a1_7, .slice A1_8 l1_8.length c1_8] 38 (0, 0)) (wB_ BK904.out) hb); have n2_ := A0_ (below_step (wb1_ HB.out GE904.out) hb); clear BK904; clear HB; have HO915 := n0_; have BK904 := n1_; have HB := n2_; clear n0_ n1_ n2_; (try clear hb); (try clear hb2); (try clear hk); (try clear hi); (try clear ho0)) | ((with_reducible refine gate_dst (N := 5) rfl ?_); refine box_event ?hg (N := 5) ?hd (cs := #[.string (⟨#[]⟩ : ByteArray), .string (⟨#[]⟩ : ByteArray), .string (⟨#[]⟩ : ByteArray), .int .u8 0, .int .i64 0, .int .i64 0, .int .i64 0, .int .i64 0, .slice none 0 0]) (t := 38) ?hr ?_; (case hd => rfl); (case hg => rfl); (case hr => first | (go_simp; done) | (go_simp; rfl)); intro gb917 hg w52 hbox hb; have n0_ := A0_ (Vb_ (Kd.V_elderB (wV_ HO915.out) gb917 (Nat.le_of_eq hg.symm)) hb); have n1_ := A0_ (blk_below (g := gb904) (o := .cells #[.string a1_0, .string a1_1, .string a1_2, .int .u8 a1_3, .int .i64 a1_4, .int .i64 a1_5, .int .i64 a1_6, .int .i64 a1_7, .slice A1_8 l1_8.length c1_8] 38 (0, 0)) (wB_ BK904.out) hb); have n2_ := A0_ (below_step (wb1_ HB.out GE904.out) hb); have n3_ := A0_ (hbox); have n4_ := A0_ ((by rw [hg]; exact (below_size (wb1_ HB.out GE904.out)) : w.heap.size ≤ gb917)); have n5_ := A0_ ((by rw [hg]; exact (below_size (wb1_ HB.out GE904.out)) : w.heap.size ≤ gb917)); have n6_ := A0_ ((by rw [hg]; exact Nat.ne_of_lt (blk_lt (g := gb904) (o := .cells #[.string a1_0, .string a1_1, .string a1_2, .int .u8 a1_3, .int .i64 a1_4, .int .i64 a1_5, .int .i64 a1_6, .int .i64 a1_7, .slice A1_8 l1_8.length c1_8] 38 (0, 0)) (wB_ BK904.out)) : gb904 ≠ gb917)); have n7_ := A0_ ((by rw [hg]; exact Nat.ne_of_gt (blk_lt (g := gb904) (o := .cells #[.string a1_0, .string a1_1, .string a1_2, .int .u8 a1_3, .int .i64 a1_4, .int .i64 a1_5, .int .i64 a1_6, .int .i64 a1_7, .slice A1_8 l1_8.length c1_8] 38 (0, 0)) (wB_ BK904.out)) : gb917 ≠ gb904)); clear HO915; clear BK904; clear HB; have HO915 := n0_; have BK904 := n1_; have HB := n2_; have BK917 := n3_; have GW917 := n4_; have GE917 := n5_; have NB904_917 := n6_; have NB917_904 := n7_; clear n0_ n1_ n2_ n3_ n4_ n5_ n6_ n7_; clear hb hbox hg; have hnb53 := NB917_904.out; have hnc53 := NB904_917.out; have hcz54_0 : w52.cell? ⟨gb917, 0, none⟩ = some (.string (⟨#[]⟩ : ByteArray)) := (bc_ BK917.out 0).trans rfl; have hcz54_1 : w52.cell? ⟨gb917, 1, none⟩ = some (.string (⟨#[]⟩ : ByteArray)) := (bc_ BK917.out 1).trans rfl; have hcz54_2 : w52.cell? ⟨gb917, 2, none⟩ = some (.string (⟨#[]⟩ : ByteArray)) := (bc_ BK917.out 2).trans rfl; have hcz54_3 : w52.cell? ⟨gb917, 3, none⟩ = some (.int .u8 0) := (bc_ BK917.out 3).trans rfl; have hcz54_4 : w52.cell? ⟨gb917, 4, none⟩ = some (.int .i64 0) := (bc_ BK917.out 4).trans rfl; have hcz54_5 : w52.cell? ⟨gb917, 5, none⟩ = some (.int .i64 0) := (bc_ BK917.out 5).trans rfl; have hcz54_6 : w52.cell? ⟨gb917, 6, none⟩ = some (.int .i64 0) := (bc_ BK917.out 6).trans rfl; have hcz54_7 : w52.cell? ⟨gb917, 7, none⟩ = some (.int .i64 0) := (bc_ BK917.out 7).trans rfl; have hcz54_8 : w52.cell? ⟨gb917, 8, none⟩ = some (.slice none 0 0) := (bc_ BK917.out 8).trans rfl; have hfz54_0 := bf_ BK917.out 0; have hfz54_1 := bf_ BK917.out 1; have hfz54_2 := bf_ BK917.out 2; have hfz54_3 := bf_ BK917.out 3; have hfz54_4 := bf_ BK917.out 4; have hfz54_5 := bf_ BK917.out 5; have hfz54_6 := bf_ BK917.out 6; have hfz54_7 := bf_ BK917.out 7; have hfz54_8 := bf_ BK917.out 8; obtain ⟨Ao55, co55, eo55⟩ := Kd.V_slice HO915.out; subst eo55))
  go_ret
  exact ⟨we_, wb2_ HB.out GE904.out GE917.out⟩
 subst c5
 have H1 : (if t908 = 48 then (if t907.toList = t905.toList then (if ((Op.bytesLess a1_0.toList t905.toList) = true) then (some false) else (if (t909 == a1_4 && (t910 == a1_5 && (t911 == a1_6 && (t912 == a1_7)))) = true then ((bytes_Equal.f t913 l1_8).bind fun t918 => (some t918)) else (some false))) else (some false)) else (some false)) = some r := by rw [if_pos rfl] at H; exact H
 clear H
 have H := H1
 clear H1
 by_cases c6 : t908 = 48
 rotate_left
 ·rw [if_neg c6] at H
  have c6b0 : (t908 == 48) = false := beq_eq_false_iff_ne.mpr c6
  have c6b1 : (t908 != 48) = true := bne_iff_ne.mpr c6
  obtain rfl := Option.some.inj H
  go_enter Tryd.func60, Tryd.ntmps60
  go_wp2_with (first | ((with_reducible refine gate_dst (N := 3) rfl ?_); refine box_event ?hg (N := 3) ?hd (cs := #[.string a1_0, .string a1_1, .string a1_2, .int .u8 a1_3, .int .i64 a1_4, .int .i64 a1_5, .int .i64 a1_6, .int .i64 a1_7, .slice A1_8 l1_8.length c1_8]) (t := 38) ?hr ?_; (case hd => rfl); (case hg => rfl); (case hr => first | (go_simp; done) | (go_simp; rfl)); intro gb904 hg w42 hbox hb; have n0_ := A0_ (below_step (wb_ HB.out) hb); have n1_ := A0_ (hbox); have n2_ := A0_ ((by rw [hg]; exact (below_size (wb_ HB.out)) : w.heap.size ≤ gb904)); have n3_ := A0_ ((by rw [hg]; exact (below_size (wb_ HB.out)) : w.heap.size ≤ gb904)); clear HB; have HB := n0_; have BK904 := n1_; have GW904 := n2_; have GE904 := n3_; clear n0_ n1_ n2_ n3_; clear hb hbox hg; have hcz43_0 : w42.cell? ⟨gb904, 0, none⟩ = some (.string a1_0) := (bc_ BK904.out 0).trans rfl; have hcz43_1 : w42.cell? ⟨gb904, 1, none⟩ = some (.string a1_1) := (bc_ BK904.out 1).trans rfl; have hcz43_2 : w42.cell? ⟨gb904, 2, none⟩ = some (.string a1_2) := (bc_ BK904.out 2).trans rfl; have hcz43_3 : w42.cell? ⟨gb904, 3, none⟩ = some (.int .u8 a1_3) := (bc_ BK904.out 3).trans rfl; have hcz43_4 : w42.cell? ⟨gb904, 4, none⟩ = some (.int .i64 a1_4) := (bc_ BK904.out 4).trans rfl; have hcz43_5 : w42.cell? ⟨gb904, 5, none⟩ = some (.int .i64 a1_5) := (bc_ BK904.out 5).trans rfl; have hcz43_6 : w42.cell? ⟨gb904, 6, none⟩ = some (.int .i64 a1_6) := (bc_ BK904.out 6).trans rfl; have hcz43_7 : w42.cell? ⟨gb904, 7, none⟩ = some (.int .i64 a1_7) := (bc_ BK904.out 7).trans rfl; have hcz43_8 : w42.cell? ⟨gb904, 8, none⟩ = some (.slice A1_8 l1_8.length c1_8) := (bc_ BK904.out 8).trans rfl; have hfz43_0 := bf_ BK904.out 0; have hfz43_1 := bf_ BK904.out 1; have hfz43_2 := bf_ BK904.out 2; have hfz43_3 := bf_ BK904.out 3; have hfz43_4 := bf_ BK904.out 4; have hfz43_5 := bf_ BK904.out 5; have hfz43_6 := bf_ BK904.out 6; have hfz43_7 := bf_ BK904.out 7; have hfz43_8 := bf_ BK904.out 8) | ((with_reducible refine gate_callee (f := 54) rfl ?_); refine goesL_ (some 17) rfl rfl Tryd.func54 (by kernel_rfl) rfl #[.slice A0 l0.length c0, .string a1_2] rfl wm_ ?_; (with_reducible refine (tree_Find.calls _ _ l0 a1_2 t905 t906 t907 t908 t909 t910 t911 t912 t913 true _ ?side1 ?side2 A4.out).mono ?_); (case side1 => exact wc_ (Kd.C_below HR0.out HB.out)); (case side2 => exact HC0.out); rintro e w44 ⟨v914, rfl, ho0, hb⟩; refine ⟨_, rfl, ?_⟩; have n0_ := A0_ (Kd.V_lower (Kd.V_mono (ok' := fun k_ => k_ ≠ gb904) ho0 (fun k_ hk_ => (Kd.freshB (g := gb904) (o := .cells #[.string a1_0, .string a1_1, .string a1_2, .int .u8 a1_3, .int .i64 a1_4, .int .i64 a1_5, .int .i64 a1_6, .int .i64 a1_7, .slice A1_8 l1_8.length c1_8] 38 (0, 0)) (wB_ BK904.out) k_ hk_))) (below_size (wb1_ HB.out GE904.out))); have n1_ := A0_ (blk_below (g := gb904) (o := .cells #[.string a1_0, .string a1_1, .string a1_2, .int .u8 a1_3, .int .i64 a1_4, .int .i64 a1_5, .int .i64 a1_6, .int .i64 a1_7, .slice A1_8 l1_8.length c1_8] 38 (0, 0)) (wB_ BK904.out) hb); have n2_ := A0_ (below_step (wb1_ HB.out GE904.out) hb); clear BK904; clear HB; have HO915 := n0_; have BK904 := n1_; have HB := n2_; clear n0_ n1_ n2_; (try clear hb); (try clear hb2); (try clear hk); (try clear hi); (try clear ho0)) | ((with_reducible refine gate_dst (N := 5) rfl ?_); refine box_event ?hg (N := 5) ?hd (cs := #[.string (⟨#[]⟩ : ByteArray), .string (⟨#[]⟩ : ByteArray), .string (⟨#[]⟩ : ByteArray), .int .u8 0, .int .i64 0, .int .i64 0, .int .i64 0, .int .i64 0, .slice none 0 0]) (t := 38) ?hr ?_; (case hd => rfl); (case hg => rfl); (case hr => first | (go_simp; done) | (go_simp; rfl)); intro gb917 hg w45 hbox hb; have n0_ := A0_ (Vb_ (Kd.V_elderB (wV_ HO915.out) gb917 (Nat.le_of_eq hg.symm)) hb); have n1_ := A0_ (blk_below (g := gb904) (o := .cells #[.string a1_0, .string a1_1, .string a1_2, .int .u8 a1_3, .int .i64 a1_4, .int .i64 a1_5, .int .i64 a1_6, .int .i64 a1_7, .slice A1_8 l1_8.length c1_8] 38 (0, 0)) (wB_ BK904.out) hb); have n2_ := A0_ (below_step (wb1_ HB.out GE904.out) hb); have n3_ := A0_ (hbox); have n4_ := A0_ ((by rw [hg]; exact (below_size (wb1_ HB.out GE904.out)) : w.heap.size ≤ gb917)); have n5_ := A0_ ((by rw [hg]; exact (below_size (wb1_ HB.out GE904.out)) : w.heap.size ≤ gb917)); have n6_ := A0_ ((by rw [hg]; exact Nat.ne_of_lt (blk_lt (g := gb904) (o := .cells #[.string a1_0, .string a1_1, .string a1_2, .int .u8 a1_3, .int .i64 a1_4, .int .i64 a1_5, .int .i64 a1_6, .int .i64 a1_7, .slice A1_8 l1_8.length c1_8] 38 (0, 0)) (wB_ BK904.out)) : gb904 ≠ gb917)); have n7_ := A0_ ((by rw [hg]; exact Nat.ne_of_gt (blk_lt (g := gb904) (o := .cells #[.string a1_0, .string a1_1, .string a1_2, .int .u8 a1_3, .int .i64 a1_4, .int .i64 a1_5, .int .i64 a1_6, .int .i64 a1_7, .slice A1_8 l1_8.length c1_8] 38 (0, 0)) (wB_ BK904.out)) : gb917 ≠ gb904)); clear HO915; clear BK904; clear HB; have HO915 := n0_; have BK904 := n1_; have HB := n2_; have BK917 := n3_; have GW917 := n4_; have GE917 := n5_; have NB904_917 := n6_; have NB917_904 := n7_; clear n0_ n1_ n2_ n3_ n4_ n5_ n6_ n7_; clear hb hbox hg; have hnb46 := NB917_904.out; have hnc46 := NB904_917.out; have hcz47_0 : w45.cell? ⟨gb917, 0, none⟩ = some (.string (⟨#[]⟩ : ByteArray)) := (bc_ BK917.out 0).trans rfl; have hcz47_1 : w45.cell? ⟨gb917, 1, none⟩ = some (.string (⟨#[]⟩ : ByteArray)) := (bc_ BK917.out 1).trans rfl; have hcz47_2 : w45.cell? ⟨gb917, 2, none⟩ = some (.string (⟨#[]⟩ : ByteArray)) := (bc_ BK917.out 2).trans rfl; have hcz47_3 : w45.cell? ⟨gb917, 3, none⟩ = some (.int .u8 0) := (bc_ BK917.out 3).trans rfl; have hcz47_4 : w45.cell? ⟨gb917, 4, none⟩ = some (.int .i64 0) := (bc_ BK917.out 4).trans rfl; have hcz47_5 : w45.cell? ⟨gb917, 5, none⟩ = some (.int .i64 0) := (bc_ BK917.out 5).trans rfl; have hcz47_6 : w45.cell? ⟨gb917, 6, none⟩ = some (.int .i64 0) := (bc_ BK917.out 6).trans rfl; have hcz47_7 : w45.cell? ⟨gb917, 7, none⟩ = some (.int .i64 0) := (bc_ BK917.out 7).trans rfl; have hcz47_8 : w45.cell? ⟨gb917, 8, none⟩ = some (.slice none 0 0) := (bc_ BK917.out 8).trans rfl; have hfz47_0 := bf_ BK917.out 0; have hfz47_1 := bf_ BK917.out 1; have hfz47_2 := bf_ BK917.out 2; have hfz47_3 := bf_ BK917.out 3; have hfz47_4 := bf_ BK917.out 4; have hfz47_5 := bf_ BK917.out 5; have hfz47_6 := bf_ BK917.out 6; have hfz47_7 := bf_ BK917.out 7; have hfz47_8 := bf_ BK917.out 8; obtain ⟨Ao48, co48, eo48⟩ := Kd.V_slice HO915.out; subst eo48))
  go_ret
  exact ⟨we_, wb2_ HB.out GE904.out GE917.out⟩
 rw [if_pos c6] at H
 have c6b0 : (t908 == 48) = true := beq_iff_eq.mpr c6
 have c6b1 : (t908 != 48) = false := bne_eq_false_iff_eq.mpr c6
 clear c6
 by_cases c7 : t907.toList = t905.toList
 rotate_left
 ·rw [if_neg c7] at H
  have c7b0 : (t907.toList == t905.toList) = false := beq_eq_false_iff_ne.mpr c7
  have c7b1 : (t907.toList != t905.toList) = true := bne_iff_ne.mpr c7
  obtain rfl := Option.some.inj H
  go_enter Tryd.func60, Tryd.ntmps60
  go_wp2_with (first | ((with_reducible refine gate_dst (N := 3) rfl ?_); refine box_event ?hg (N := 3) ?hd (cs := #[.string a1_0, .string a1_1, .string a1_2, .int .u8 a1_3, .int .i64 a1_4, .int .i64 a1_5, .int .i64 a1_6, .int .i64 a1_7, .slice A1_8 l1_8.length c1_8]) (t := 38) ?hr ?_; (case hd => rfl); (case hg => rfl); (case hr => first | (go_simp; done) | (go_simp; rfl)); intro gb904 hg w35 hbox hb; have n0_ := A0_ (below_step (wb_ HB.out) hb); have n1_ := A0_ (hbox); have n2_ := A0_ ((by rw [hg]; exact (below_size (wb_ HB.out)) : w.heap.size ≤ gb904)); have n3_ := A0_ ((by rw [hg]; exact (below_size (wb_ HB.out)) : w.heap.size ≤ gb904)); clear HB; have HB := n0_; have BK904 := n1_; have GW904 := n2_; have GE904 := n3_; clear n0_ n1_ n2_ n3_; clear hb hbox hg; have hcz36_0 : w35.cell? ⟨gb904, 0, none⟩ = some (.string a1_0) := (bc_ BK904.out 0).trans rfl; have hcz36_1 : w35.cell? ⟨gb904, 1, none⟩ = some (.string a1_1) := (bc_ BK904.out 1).trans rfl; have hcz36_2 : w35.cell? ⟨gb904, 2, none⟩ = some (.string a1_2) := (bc_ BK904.out 2).trans rfl; have hcz36_3 : w35.cell? ⟨gb904, 3, none⟩ = some (.int .u8 a1_3) := (bc_ BK904.out 3).trans rfl; have hcz36_4 : w35.cell? ⟨gb904, 4, none⟩ = some (.int .i64 a1_4) := (bc_ BK904.out 4).trans rfl; have hcz36_5 : w35.cell? ⟨gb904, 5, none⟩ = some (.int .i64 a1_5) := (bc_ BK904.out 5).trans rfl; have hcz36_6 : w35.cell? ⟨gb904, 6, none⟩ = some (.int .i64 a1_6) := (bc_ BK904.out 6).trans rfl; have hcz36_7 : w35.cell? ⟨gb904, 7, none⟩ = some (.int .i64 a1_7) := (bc_ BK904.out 7).trans rfl; have hcz36_8 : w35.cell? ⟨gb904, 8, none⟩ = some (.slice A1_8 l1_8.length c1_8) := (bc_ BK904.out 8).trans rfl; have hfz36_0 := bf_ BK904.out 0; have hfz36_1 := bf_ BK904.out 1; have hfz36_2 := bf_ BK904.out 2; have hfz36_3 := bf_ BK904.out 3; have hfz36_4 := bf_ BK904.out 4; have hfz36_5 := bf_ BK904.out 5; have hfz36_6 := bf_ BK904.out 6; have hfz36_7 := bf_ BK904.out 7; have hfz36_8 := bf_ BK904.out 8) | ((with_reducible refine gate_callee (f := 54) rfl ?_); refine goesL_ (some 17) rfl rfl Tryd.func54 (by kernel_rfl) rfl #[.slice A0 l0.length c0, .string a1_2] rfl wm_ ?_; (with_reducible refine (tree_Find.calls _ _ l0 a1_2 t905 t906 t907 t908 t909 t910 t911 t912 t913 true _ ?side1 ?side2 A4.out).mono ?_); (case side1 => exact wc_ (Kd.C_below HR0.out HB.out)); (case side2 => exact HC0.out); rintro e w37 ⟨v914, rfl, ho0, hb⟩; refine ⟨_, rfl, ?_⟩; have n0_ := A0_ (Kd.V_lower (Kd.V_mono (ok' := fun k_ => k_ ≠ gb904) ho0 (fun k_ hk_ => (Kd.freshB (g := gb904) (o := .cells #[.string a1_0, .string a1_1, .string a1_2, .int .u8 a1_3, .int .i64 a1_4, .int .i64 a1_5, .int .i64 a1_6, .int .i64 a1_7, .slice A1_8 l1_8.length c1_8] 38 (0, 0)) (wB_ BK904.out) k_ hk_))) (below_size (wb1_ HB.out GE904.out))); have n1_ := A0_ (blk_below (g := gb904) (o := .cells #[.string a1_0, .string a1_1, .string a1_2, .int .u8 a1_3, .int .i64 a1_4, .int .i64 a1_5, .int .i64 a1_6, .int .i64 a1_7, .slice A1_8 l1_8.length c1_8] 38 (0, 0)) (wB_ BK904.out) hb); have n2_ := A0_ (below_step (wb1_ HB.out GE904.out) hb); clear BK904; clear HB; have HO915 := n0_; have BK904 := n1_; have HB := n2_; clear n0_ n1_ n2_; (try clear hb); (try clear hb2); (try clear hk); (try clear hi); (try clear ho0)) | ((with_reducible refine gate_dst (N := 5) rfl ?_); refine box_event ?hg (N := 5) ?hd (cs := #[.string (⟨#[]⟩ : ByteArray), .string (⟨#[]⟩ : ByteArray), .string (⟨#[]⟩ : ByteArray), .int .u8 0, .int .i64 0, .int .i64 0, .int .i64 0, .int .i64 0, .slice none 0 0]) (t := 38) ?hr ?_; (case hd => rfl); (case hg => rfl); (case hr => first | (go_simp; done) | (go_simp; rfl)); intro gb917 hg w38 hbox hb; have n0_ := A0_ (Vb_ (Kd.V_elderB (wV_ HO915.out) gb917 (Nat.le_of_eq hg.symm)) hb); have n1_ := A0_ (blk_below (g := gb904) (o := .cells #[.string a1_0, .string a1_1, .string a1_2, .int .u8 a1_3, .int .i64 a1_4, .int .i64 a1_5, .int .i64 a1_6, .int .i64 a1_7, .slice A1_8 l1_8.length c1_8] 38 (0, 0)) (wB_ BK904.out) hb); have n2_ := A0_ (below_step (wb1_ HB.out GE904.out) hb); have n3_ := A0_ (hbox); have n4_ := A0_ ((by rw [hg]; exact (below_size (wb1_ HB.out GE904.out)) : w.heap.size ≤ gb917)); have n5_ := A0_ ((by rw [hg]; exact (below_size (wb1_ HB.out GE904.out)) : w.heap.size ≤ gb917)); have n6_ := A0_ ((by rw [hg]; exact Nat.ne_of_lt (blk_lt (g := gb904) (o := .cells #[.string a1_0, .string a1_1, .string a1_2, .int .u8 a1_3, .int .i64 a1_4, .int .i64 a1_5, .int .i64 a1_6, .int .i64 a1_7, .slice A1_8 l1_8.length c1_8] 38 (0, 0)) (wB_ BK904.out)) : gb904 ≠ gb917)); have n7_ := A0_ ((by rw [hg]; exact Nat.ne_of_gt (blk_lt (g := gb904) (o := .cells #[.string a1_0, .string a1_1, .string a1_2, .int .u8 a1_3, .int .i64 a1_4, .int .i64 a1_5, .int .i64 a1_6, .int .i64 a1_7, .slice A1_8 l1_8.length c1_8] 38 (0, 0)) (wB_ BK904.out)) : gb917 ≠ gb904)); clear HO915; clear BK904; clear HB; have HO915 := n0_; have BK904 := n1_; have HB := n2_; have BK917 := n3_; have GW917 := n4_; have GE917 := n5_; have NB904_917 := n6_; have NB917_904 := n7_; clear n0_ n1_ n2_ n3_ n4_ n5_ n6_ n7_; clear hb hbox hg; have hnb39 := NB917_904.out; have hnc39 := NB904_917.out; have hcz40_0 : w38.cell? ⟨gb917, 0, none⟩ = some (.string (⟨#[]⟩ : ByteArray)) := (bc_ BK917.out 0).trans rfl; have hcz40_1 : w38.cell? ⟨gb917, 1, none⟩ = some (.string (⟨#[]⟩ : ByteArray)) := (bc_ BK917.out 1).trans rfl; have hcz40_2 : w38.cell? ⟨gb917, 2, none⟩ = some (.string (⟨#[]⟩ : ByteArray)) := (bc_ BK917.out 2).trans rfl; have hcz40_3 : w38.cell? ⟨gb917, 3, none⟩ = some (.int .u8 0) := (bc_ BK917.out 3).trans rfl; have hcz40_4 : w38.cell? ⟨gb917, 4, none⟩ = some (.int .i64 0) := (bc_ BK917.out 4).trans rfl; have hcz40_5 : w38.cell? ⟨gb917, 5, none⟩ = some (.int .i64 0) := (bc_ BK917.out 5).trans rfl; have hcz40_6 : w38.cell? ⟨gb917, 6, none⟩ = some (.int .i64 0) := (bc_ BK917.out 6).trans rfl; have hcz40_7 : w38.cell? ⟨gb917, 7, none⟩ = some (.int .i64 0) := (bc_ BK917.out 7).trans rfl; have hcz40_8 : w38.cell? ⟨gb917, 8, none⟩ = some (.slice none 0 0) := (bc_ BK917.out 8).trans rfl; have hfz40_0 := bf_ BK917.out 0; have hfz40_1 := bf_ BK917.out 1; have hfz40_2 := bf_ BK917.out 2; have hfz40_3 := bf_ BK917.out 3; have hfz40_4 := bf_ BK917.out 4; have hfz40_5 := bf_ BK917.out 5; have hfz40_6 := bf_ BK917.out 6; have hfz40_7 := bf_ BK917.out 7; have hfz40_8 := bf_ BK917.out 8; obtain ⟨Ao41, co41, eo41⟩ := Kd.V_slice HO915.out; subst eo41))
  go_ret
  exact ⟨we_, wb2_ HB.out GE904.out GE917.out⟩
 rw [if_pos c7] at H
 have c7b0 : (t907.toList == t905.toList) = true := beq_iff_eq.mpr c7
 have c7b1 : (t907.toList != t905.toList) = false := bne_eq_false_iff_eq.mpr c7
 clear c7
 by_cases c8 : ((Op.bytesLess a1_0.toList t905.toList) = true)
 ·rw [if_pos c8] at H
  have c8b0 : (Op.bytesLess a1_0.toList t905.toList) = true := c8
  clear c8
  obtain rfl := Option.some.inj H
  go_enter Tryd.func60, Tryd.ntmps60
  go_wp2_with (first | ((with_reducible refine gate_dst (N := 3) rfl ?_); refine box_event ?hg (N := 3) ?hd (cs := #[.string a1_0, .string a1_1, .string a1_2, .int .u8 a1_3, .int .i64 a1_4, .int .i64 a1_5, .int .i64 a1_6, .int .i64 a1_7, .slice A1_8 l1_8.length c1_8]) (t := 38) ?hr ?_; (case hd => rfl); (case hg => rfl); (case hr => first | (go_simp; done) | (go_simp; rfl)); intro gb904 hg w9 hbox hb; have n0_ := A0_ (below_step (wb_ HB.out) hb); have n1_ := A0_ (hbox); have n2_ := A0_ ((by rw [hg]; exact (below_size (wb_ HB.out)) : w.heap.size ≤ gb904)); have n3_ := A0_ ((by rw [hg]; exact (below_size (wb_ HB.out)) : w.heap.size ≤ gb904)); clear HB; have HB := n0_; have BK904 := n1_; have GW904 := n2_; have GE904 := n3_; clear n0_ n1_ n2_ n3_; clear hb hbox hg; have hcz10_0 : w9.cell? ⟨gb904, 0, none⟩ = some (.string a1_0) := (bc_ BK904.out 0).trans rfl; have hcz10_1 : w9.cell? ⟨gb904, 1, none⟩ = some (.string a1_1) := (bc_ BK904.out 1).trans rfl; have hcz10_2 : w9.cell? ⟨gb904, 2, none⟩ = some (.string a1_2) := (bc_ BK904.out 2).trans rfl; have hcz10_3 : w9.cell? ⟨gb904, 3, none⟩ = some (.int .u8 a1_3) := (bc_ BK904.out 3).trans rfl; have hcz10_4 : w9.cell? ⟨gb904, 4, none⟩ = some (.int .i64 a1_4) := (bc_ BK904.out 4).trans rfl; have hcz10_5 : w9.cell? ⟨gb904, 5, none⟩ = some (.int .i64 a1_5) := (bc_ BK904.out 5).trans rfl; have hcz10_6 : w9.cell? ⟨gb904, 6, none⟩ = some (.int .i64 a1_6) := (bc_ BK904.out 6).trans rfl; have hcz10_7 : w9.cell? ⟨gb904, 7, none⟩ = some (.int .i64 a1_7) := (bc_ BK904.out 7).trans rfl; have hcz10_8 : w9.cell? ⟨gb904, 8, none⟩ = some (.slice A1_8 l1_8.length c1_8) := (bc_ BK904.out 8).trans rfl; have hfz10_0 := bf_ BK904.out 0; have hfz10_1 := bf_ BK904.out 1; have hfz10_2 := bf_ BK904.out 2; have hfz10_3 := bf_ BK904.out 3; have hfz10_4 := bf_ BK904.out 4; have hfz10_5 := bf_ BK904.out 5; have hfz10_6 := bf_ BK904.out 6; have hfz10_7 := bf_ BK904.out 7; have hfz10_8 := bf_ BK904.out 8) | ((with_reducible refine gate_callee (f := 54) rfl ?_); refine goesL_ (some 17) rfl rfl Tryd.func54 (by kernel_rfl) rfl #[.slice A0 l0.length c0, .string a1_2] rfl wm_ ?_; (with_reducible refine (tree_Find.calls _ _ l0 a1_2 t905 t906 t907 t908 t909 t910 t911 t912 t913 true _ ?side1 ?side2 A4.out).mono ?_); (case side1 => exact wc_ (Kd.C_below HR0.out HB.out)); (case side2 => exact HC0.out); rintro e w11 ⟨v914, rfl, ho0, hb⟩; refine ⟨_, rfl, ?_⟩; have n0_ := A0_ (Kd.V_lower (Kd.V_mono (ok' := fun k_ => k_ ≠ gb904) ho0 (fun k_ hk_ => (Kd.freshB (g := gb904) (o := .cells #[.string a1_0, .string a1_1, .string a1_2, .int .u8 a1_3, .int .i64 a1_4, .int .i64 a1_5, .int .i64 a1_6, .int .i64 a1_7, .slice A1_8 l1_8.length c1_8] 38 (0, 0)) (wB_ BK904.out) k_ hk_))) (below_size (wb1_ HB.out GE904.out))); have n1_ := A0_ (blk_below (g := gb904) (o := .cells #[.string a1_0, .string a1_1, .string a1_2, .int .u8 a1_3, .int .i64 a1_4, .int .i64 a1_5, .int .i64 a1_6, .int .i64 a1_7, .slice A1_8 l1_8.length c1_8] 38 (0, 0)) (wB_ BK904.out) hb); have n2_ := A0_ (below_step (wb1_ HB.out GE904.out) hb); clear BK904; clear HB; have HO915 := n0_; have BK904 := n1_; have HB := n2_; clear n0_ n1_ n2_; (try clear hb); (try clear hb2); (try clear hk); (try clear hi); (try clear ho0)) | ((with_reducible refine gate_dst (N := 5) rfl ?_); refine box_event ?hg (N := 5) ?hd (cs := #[.string (⟨#[]⟩ : ByteArray), .string (⟨#[]⟩ : ByteArray), .string (⟨#[]⟩ : ByteArray), .int .u8 0, .int .i64 0, .int .i64 0, .int .i64 0, .int .i64 0, .slice none 0 0]) (t := 38) ?hr ?_; (case hd => rfl); (case hg => rfl); (case hr => first | (go_simp; done) | (go_simp; rfl)); intro gb917 hg w12 hbox hb; have n0_ := A0_ (Vb_ (Kd.V_elderB (wV_ HO915.out) gb917 (Nat.le_of_eq hg.symm)) hb); have n1_ := A0_ (blk_below (g := gb904) (o := .cells #[.string a1_0, .string a1_1, .string a1_2, .int .u8 a1_3, .int .i64 a1_4, .int .i64 a1_5, .int .i64 a1_6, .int .i64 a1_7, .slice A1_8 l1_8.length c1_8] 38 (0, 0)) (wB_ BK904.out) hb); have n2_ := A0_ (below_step (wb1_ HB.out GE904.out) hb); have n3_ := A0_ (hbox); have n4_ := A0_ ((by rw [hg]; exact (below_size (wb1_ HB.out GE904.out)) : w.heap.size ≤ gb917)); have n5_ := A0_ ((by rw [hg]; exact (below_size (wb1_ HB.out GE904.out)) : w.heap.size ≤ gb917)); have n6_ := A0_ ((by rw [hg]; exact Nat.ne_of_lt (blk_lt (g := gb904) (o := .cells #[.string a1_0, .string a1_1, .string a1_2, .int .u8 a1_3, .int .i64 a1_4, .int .i64 a1_5, .int .i64 a1_6, .int .i64 a1_7, .slice A1_8 l1_8.length c1_8] 38 (0, 0)) (wB_ BK904.out)) : gb904 ≠ gb917)); have n7_ := A0_ ((by rw [hg]; exact Nat.ne_of_gt (blk_lt (g := gb904) (o := .cells #[.string a1_0, .string a1_1, .string a1_2, .int .u8 a1_3, .int .i64 a1_4, .int .i64 a1_5, .int .i64 a1_6, .int .i64 a1_7, .slice A1_8 l1_8.length c1_8] 38 (0, 0)) (wB_ BK904.out)) : gb917 ≠ gb904)); clear HO915; clear BK904; clear HB; have HO915 := n0_; have BK904 := n1_; have HB := n2_; have BK917 := n3_; have GW917 := n4_; have GE917 := n5_; have NB904_917 := n6_; have NB917_904 := n7_; clear n0_ n1_ n2_ n3_ n4_ n5_ n6_ n7_; clear hb hbox hg; have hnb13 := NB917_904.out; have hnc13 := NB904_917.out; have hcz14_0 : w12.cell? ⟨gb917, 0, none⟩ = some (.string (⟨#[]⟩ : ByteArray)) := (bc_ BK917.out 0).trans rfl; have hcz14_1 : w12.cell? ⟨gb917, 1, none⟩ = some (.string (⟨#[]⟩ : ByteArray)) := (bc_ BK917.out 1).trans rfl; have hcz14_2 : w12.cell? ⟨gb917, 2, none⟩ = some (.string (⟨#[]⟩ : ByteArray)) := (bc_ BK917.out 2).trans rfl; have hcz14_3 : w12.cell? ⟨gb917, 3, none⟩ = some (.int .u8 0) := (bc_ BK917.out 3).trans rfl; have hcz14_4 : w12.cell? ⟨gb917, 4, none⟩ = some (.int .i64 0) := (bc_ BK917.out 4).trans rfl; have hcz14_5 : w12.cell? ⟨gb917, 5, none⟩ = some (.int .i64 0) := (bc_ BK917.out 5).trans rfl; have hcz14_6 : w12.cell? ⟨gb917, 6, none⟩ = some (.int .i64 0) := (bc_ BK917.out 6).trans rfl; have hcz14_7 : w12.cell? ⟨gb917, 7, none⟩ = some (.int .i64 0) := (bc_ BK917.out 7).trans rfl; have hcz14_8 : w12.cell? ⟨gb917, 8, none⟩ = some (.slice none 0 0) := (bc_ BK917.out 8).trans rfl; have hfz14_0 := bf_ BK917.out 0; have hfz14_1 := bf_ BK917.out 1; have hfz14_2 := bf_ BK917.out 2; have hfz14_3 := bf_ BK917.out 3; have hfz14_4 := bf_ BK917.out 4; have hfz14_5 := bf_ BK917.out 5; have hfz14_6 := bf_ BK917.out 6; have hfz14_7 := bf_ BK917.out 7; have hfz14_8 := bf_ BK917.out 8; obtain ⟨Ao15, co15, eo15⟩ := Kd.V_slice HO915.out; subst eo15; have hcz16_0 : w12.cell? ⟨gb904, 0, none⟩ = some (.string a1_0) := (bc_ BK904.out 0).trans rfl; have hcz16_1 : w12.cell? ⟨gb904, 1, none⟩ = some (.string a1_1) := (bc_ BK904.out 1).trans rfl; have hcz16_2 : w12.cell? ⟨gb904, 2, none⟩ = some (.string a1_2) := (bc_ BK904.out 2).trans rfl; have hcz16_3 : w12.cell? ⟨gb904, 3, none⟩ = some (.int .u8 a1_3) := (bc_ BK904.out 3).trans rfl; have hcz16_4 : w12.cell? ⟨gb904, 4, none⟩ = some (.int .i64 a1_4) := (bc_ BK904.out 4).trans rfl; have hcz16_5 : w12.cell? ⟨gb904, 5, none⟩ = some (.int .i64 a1_5) := (bc_ BK904.out 5).trans rfl; have hcz16_6 : w12.cell? ⟨gb904, 6, none⟩ = some (.int .i64 a1_6) := (bc_ BK904.out 6).trans rfl; have hcz16_7 : w12.cell? ⟨gb904, 7, none⟩ = some (.int .i64 a1_7) := (bc_ BK904.out 7).trans rfl; have hcz16_8 : w12.cell? ⟨gb904, 8, none⟩ = some (.slice A1_8 l1_8.length c1_8) := (bc_ BK904.out 8).trans rfl; have hfz16_0 := bf_ BK904.out 0; have hfz16_1 := bf_ BK904.out 1; have hfz16_2 := bf_ BK904.out 2; have hfz16_3 := bf_ BK904.out 3; have hfz16_4 := bf_ BK904.out 4; have hfz16_5 := bf_ BK904.out 5; have hfz16_6 := bf_ BK904.out 6; have hfz16_7 := bf_ BK904.out 7; have hfz16_8 := bf_ BK904.out 8))
  go_ret
  exact ⟨we_, wb2_ HB.out GE904.out GE917.out⟩
 rw [if_neg c8] at H
 have c8b0 : (Op.bytesLess a1_0.toList t905.toList) = false := by simpa using c8
 clear c8
 by_cases c17 : (t909 == a1_4 && (t910 == a1_5 && (t911 == a1_6 && (t912 == a1_7)))) = true
 rotate_left
 ·rw [if_neg c17] at H
  have c17b0 : (t909 == a1_4 && (t910 == a1_5 && (t911 == a1_6 && (t912 == a1_7)))) = false := by simpa using c17
  (try (have c17b1 : decide (t909 = a1_4 && (t910 == a1_5 && (t911 == a1_6 && (t912 == a1_7)))) = false := by simpa using c17))
  (try (have c17b2 : (t909 == a1_4 && (t910 == a1_5 && (t911 == a1_6 && (t912 == a1_7)))) = false := by simpa using c17))
  (try (have c17b3 : ¬ (t909 = a1_4 && (t910 == a1_5 && (t911 == a1_6 && (t912 == a1_7)))) := by simpa using c17))
  clear c17
  obtain rfl := Option.some.inj H
  go_enter Tryd.func60, Tryd.ntmps60
  go_wp2_with (first | ((with_reducible refine gate_dst (N := 3) rfl ?_); refine box_event ?hg (N := 3) ?hd (cs := #[.string a1_0, .string a1_1, .string a1_2, .int .u8 a1_3, .int .i64 a1_4, .int .i64 a1_5, .int .i64 a1_6, .int .i64 a1_7, .slice A1_8 l1_8.length c1_8]) (t := 38) ?hr ?_; (case hd => rfl); (case hg => rfl); (case hr => first | (go_simp; done) | (go_simp; rfl)); intro gb904 hg w27 hbox hb; have n0_ := A0_ (below_step (wb_ HB.out) hb); have n1_ := A0_ (hbox); have n2_ := A0_ ((by rw [hg]; exact (below_size (wb_ HB.out)) : w.heap.size ≤ gb904)); have n3_ := A0_ ((by rw [hg]; exact (below_size (wb_ HB.out)) : w.heap.size ≤ gb904)); clear HB; have HB := n0_; have BK904 := n1_; have GW904 := n2_; have GE904 := n3_; clear n0_ n1_ n2_ n3_; clear hb hbox hg; have hcz28_0 : w27.cell? ⟨gb904, 0, none⟩ = some (.string a1_0) := (bc_ BK904.out 0).trans rfl; have hcz28_1 : w27.cell? ⟨gb904, 1, none⟩ = some (.string a1_1) := (bc_ BK904.out 1).trans rfl; have hcz28_2 : w27.cell? ⟨gb904, 2, none⟩ = some (.string a1_2) := (bc_ BK904.out 2).trans rfl; have hcz28_3 : w27.cell? ⟨gb904, 3, none⟩ = some (.int .u8 a1_3) := (bc_ BK904.out 3).trans rfl; have hcz28_4 : w27.cell? ⟨gb904, 4, none⟩ = some (.int .i64 a1_4) := (bc_ BK904.out 4).trans rfl; have hcz28_5 : w27.cell? ⟨gb904, 5, none⟩ = some (.int .i64 a1_5) := (bc_ BK904.out 5).trans rfl; have hcz28_6 : w27.cell? ⟨gb904, 6, none⟩ = some (.int .i64 a1_6) := (bc_ BK904.out 6).trans rfl; have hcz28_7 : w27.cell? ⟨gb904, 7, none⟩ = some (.int .i64 a1_7) := (bc_ BK904.out 7).trans rfl; have hcz28_8 : w27.cell? ⟨gb904, 8, none⟩ = some (.slice A1_8 l1_8.length c1_8) := (bc_ BK904.out 8).trans rfl; have hfz28_0 := bf_ BK904.out 0; have hfz28_1 := bf_ BK904.out 1; have hfz28_2 := bf_ BK904.out 2; have hfz28_3 := bf_ BK904.out 3; have hfz28_4 := bf_ BK904.out 4; have hfz28_5 := bf_ BK904.out 5; have hfz28_6 := bf_ BK904.out 6; have hfz28_7 := bf_ BK904.out 7; have hfz28_8 := bf_ BK904.out 8) | ((with_reducible refine gate_callee (f := 54) rfl ?_); refine goesL_ (some 17) rfl rfl Tryd.func54 (by kernel_rfl) rfl #[.slice A0 l0.length c0, .string a1_2] rfl wm_ ?_; (with_reducible refine (tree_Find.calls _ _ l0 a1_2 t905 t906 t907 t908 t909 t910 t911 t912 t913 true _ ?side1 ?side2 A4.out).mono ?_); (case side1 => exact wc_ (Kd.C_below HR0.out HB.out)); (case side2 => exact HC0.out); rintro e w29 ⟨v914, rfl, ho0, hb⟩; refine ⟨_, rfl, ?_⟩; have n0_ := A0_ (Kd.V_lower (Kd.V_mono (ok' := fun k_ => k_ ≠ gb904) ho0 (fun k_ hk_ => (Kd.freshB (g := gb904) (o := .cells #[.string a1_0, .string a1_1, .string a1_2, .int .u8 a1_3, .int .i64 a1_4, .int .i64 a1_5, .int .i64 a1_6, .int .i64 a1_7, .slice A1_8 l1_8.length c1_8] 38 (0, 0)) (wB_ BK904.out) k_ hk_))) (below_size (wb1_ HB.out GE904.out))); have n1_ := A0_ (blk_below (g := gb904) (o := .cells #[.string a1_0, .string a1_1, .string a1_2, .int .u8 a1_3, .int .i64 a1_4, .int .i64 a1_5, .int .i64 a1_6, .int .i64 a1_7, .slice A1_8 l1_8.length c1_8] 38 (0, 0)) (wB_ BK904.out) hb); have n2_ := A0_ (below_step (wb1_ HB.out GE904.out) hb); clear BK904; clear HB; have HO915 := n0_; have BK904 := n1_; have HB := n2_; clear n0_ n1_ n2_; (try clear hb); (try clear hb2); (try clear hk); (try clear hi); (try clear ho0)) | ((with_reducible refine gate_dst (N := 5) rfl ?_); refine box_event ?hg (N := 5) ?hd (cs := #[.string (⟨#[]⟩ : ByteArray), .string (⟨#[]⟩ : ByteArray), .string (⟨#[]⟩ : ByteArray), .int .u8 0, .int .i64 0, .int .i64 0, .int .i64 0, .int .i64 0, .slice none 0 0]) (t := 38) ?hr ?_; (case hd => rfl); (case hg => rfl); (case hr => first | (go_simp; done) | (go_simp; rfl)); intro gb917 hg w30 hbox hb; have n0_ := A0_ (Vb_ (Kd.V_elderB (wV_ HO915.out) gb917 (Nat.le_of_eq hg.symm)) hb); have n1_ := A0_ (blk_below (g := gb904) (o := .cells #[.string a1_0, .string a1_1, .string a1_2, .int .u8 a1_3, .int .i64 a1_4, .int .i64 a1_5, .int .i64 a1_6, .int .i64 a1_7, .slice A1_8 l1_8.length c1_8] 38 (0, 0)) (wB_ BK904.out) hb); have n2_ := A0_ (below_step (wb1_ HB.out GE904.out) hb); have n3_ := A0_ (hbox); have n4_ := A0_ ((by rw [hg]; exact (below_size (wb1_ HB.out GE904.out)) : w.heap.size ≤ gb917)); have n5_ := A0_ ((by rw [hg]; exact (below_size (wb1_ HB.out GE904.out)) : w.heap.size ≤ gb917)); have n6_ := A0_ ((by rw [hg]; exact Nat.ne_of_lt (blk_lt (g := gb904) (o := .cells #[.string a1_0, .string a1_1, .string a1_2, .int .u8 a1_3, .int .i64 a1_4, .int .i64 a1_5, .int .i64 a1_6, .int .i64 a1_7, .slice A1_8 l1_8.length c1_8] 38 (0, 0)) (wB_ BK904.out)) : gb904 ≠ gb917)); have n7_ := A0_ ((by rw [hg]; exact Nat.ne_of_gt (blk_lt (g := gb904) (o := .cells #[.string a1_0, .string a1_1, .string a1_2, .int .u8 a1_3, .int .i64 a1_4, .int .i64 a1_5, .int .i64 a1_6, .int .i64 a1_7, .slice A1_8 l1_8.length c1_8] 38 (0, 0)) (wB_ BK904.out)) : gb917 ≠ gb904)); clear HO915; clear BK904; clear HB; have HO915 := n0_; have BK904 := n1_; have HB := n2_; have BK917 := n3_; have GW917 := n4_; have GE917 := n5_; have NB904_917 := n6_; have NB917_904 := n7_; clear n0_ n1_ n2_ n3_ n4_ n5_ n6_ n7_; clear hb hbox hg; have hnb31 := NB917_904.out; have hnc31 := NB904_917.out; have hcz32_0 : w30.cell? ⟨gb917, 0, none⟩ = some (.string (⟨#[]⟩ : ByteArray)) := (bc_ BK917.out 0).trans rfl; have hcz32_1 : w30.cell? ⟨gb917, 1, none⟩ = some (.string (⟨#[]⟩ : ByteArray)) := (bc_ BK917.out 1).trans rfl; have hcz32_2 : w30.cell? ⟨gb917, 2, none⟩ = some (.string (⟨#[]⟩ : ByteArray)) := (bc_ BK917.out 2).trans rfl; have hcz32_3 : w30.cell? ⟨gb917, 3, none⟩ = some (.int .u8 0) := (bc_ BK917.out 3).trans rfl; have hcz32_4 : w30.cell? ⟨gb917, 4, none⟩ = some (.int .i64 0) := (bc_ BK917.out 4).trans rfl; have hcz32_5 : w30.cell? ⟨gb917, 5, none⟩ = some (.int .i64 0) := (bc_ BK917.out 5).trans rfl; have hcz32_6 : w30.cell? ⟨gb917, 6, none⟩ = some (.int .i64 0) := (bc_ BK917.out 6).trans rfl; have hcz32_7 : w30.cell? ⟨gb917, 7, none⟩ = some (.int .i64 0) := (bc_ BK917.out 7).trans rfl; have hcz32_8 : w30.cell? ⟨gb917, 8, none⟩ = some (.slice none 0 0) := (bc_ BK917.out 8).trans rfl; have hfz32_0 := bf_ BK917.out 0; have hfz32_1 := bf_ BK917.out 1; have hfz32_2 := bf_ BK917.out 2; have hfz32_3 := bf_ BK917.out 3; have hfz32_4 := bf_ BK917.out 4; have hfz32_5 := bf_ BK917.out 5; have hfz32_6 := bf_ BK917.out 6; have hfz32_7 := bf_ BK917.out 7; have hfz32_8 := bf_ BK917.out 8; obtain ⟨Ao33, co33, eo33⟩ := Kd.V_slice HO915.out; subst eo33; have hcz34_0 : w30.cell? ⟨gb904, 0, none⟩ = some (.string a1_0) := (bc_ BK904.out 0).trans rfl; have hcz34_1 : w30.cell? ⟨gb904, 1, none⟩ = some (.string a1_1) := (bc_ BK904.out 1).trans rfl; have hcz34_2 : w30.cell? ⟨gb904, 2, none⟩ = some (.string a1_2) := (bc_ BK904.out 2).trans rfl; have hcz34_3 : w30.cell? ⟨gb904, 3, none⟩ = some (.int .u8 a1_3) := (bc_ BK904.out 3).trans rfl; have hcz34_4 : w30.cell? ⟨gb904, 4, none⟩ = some (.int .i64 a1_4) := (bc_ BK904.out 4).trans rfl; have hcz34_5 : w30.cell? ⟨gb904, 5, none⟩ = some (.int .i64 a1_5) := (bc_ BK904.out 5).trans rfl; have hcz34_6 : w30.cell? ⟨gb904, 6, none⟩ = some (.int .i64 a1_6) := (bc_ BK904.out 6).trans rfl; have hcz34_7 : w30.cell? ⟨gb904, 7, none⟩ = some (.int .i64 a1_7) := (bc_ BK904.out 7).trans rfl; have hcz34_8 : w30.cell? ⟨gb904, 8, none⟩ = some (.slice A1_8 l1_8.length c1_8) := (bc_ BK904.out 8).trans rfl; have hfz34_0 := bf_ BK904.out 0; have hfz34_1 := bf_ BK904.out 1; have hfz34_2 := bf_ BK904.out 2; have hfz34_3 := bf_ BK904.out 3; have hfz34_4 := bf_ BK904.out 4; have hfz34_5 := bf_ BK904.out 5; have hfz34_6 := bf_ BK904.out 6; have hfz34_7 := bf_ BK904.out 7; have hfz34_8 := bf_ BK904.out 8))
  go_ret
  exact ⟨we_, wb2_ HB.out GE904.out GE917.out⟩
 rw [if_pos c17] at H
 have c17b0 : (t909 == a1_4 && (t910 == a1_5 && (t911 == a1_6 && (t912 == a1_7)))) = true := c17
 (try (have c17b1 : decide (t909 = a1_4 && (t910 == a1_5 && (t911 == a1_6 && (t912 == a1_7)))) = true := by simpa using c17))
 (try (have c17b2 : (t909 == a1_4 && (t910 == a1_5 && (t911 == a1_6 && (t912 == a1_7)))) = true := by simpa using c17))
 clear c17
 replace H := Option.bind_eq_some_iff.mp H
 obtain ⟨t918, A180, H⟩ := H
 replace H : (some t918) = some r := H
 have A18 := A0_ A180
 clear A180
 obtain rfl := Option.some.inj H
 go_enter Tryd.func60, Tryd.ntmps60
 go_wp2_with (first | ((with_reducible refine gate_dst (N := 3) rfl ?_); refine box_event ?hg (N := 3) ?hd (cs := #[.string a1_0, .string a1_1, .string a1_2, .int .u8 a1_3, .int .i64 a1_4, .int .i64 a1_5, .int .i64 a1_6, .int .i64 a1_7, .slice A1_8 l1_8.length c1_8]) (t := 38) ?hr ?_; (case hd => rfl); (case hg => rfl); (case hr => first | (go_simp; done) | (go_simp; rfl)); intro gb904 hg w19 hbox hb; have n0_ := A0_ (below_step (wb_ HB.out) hb); have n1_ := A0_ (hbox); have n2_ := A0_ ((by rw [hg]; exact (below_size (wb_ HB.out)) : w.heap.size ≤ gb904)); have n3_ := A0_ ((by rw [hg]; exact (below_size (wb_ HB.out)) : w.heap.size ≤ gb904)); clear HB; have HB := n0_; have BK904 := n1_; have GW904 := n2_; have GE904 := n3_; clear n0_ n1_ n2_ n3_; clear hb hbox hg; have hcz20_0 : w19.cell? ⟨gb904, 0, none⟩ = some (.string a1_0) := (bc_ BK904.out 0).trans rfl; have hcz20_1 : w19.cell? ⟨gb904, 1, none⟩ = some (.string a1_1) := (bc_ BK904.out 1).trans rfl; have hcz20_2 : w19.cell? ⟨gb904, 2, none⟩ = some (.string a1_2) := (bc_ BK904.out 2).trans rfl; have hcz20_3 : w19.cell? ⟨gb904, 3, none⟩ = some (.int .u8 a1_3) := (bc_ BK904.out 3).trans rfl; have hcz20_4 : w19.cell? ⟨gb904, 4, none⟩ = some (.int .i64 a1_4) := (bc_ BK904.out 4).trans rfl; have hcz20_5 : w19.cell? ⟨gb904, 5, none⟩ = some (.int .i64 a1_5) := (bc_ BK904.out 5).trans rfl; have hcz20_6 : w19.cell? ⟨gb904, 6, none⟩ = some (.int .i64 a1_6) := (bc_ BK904.out 6).trans rfl; have hcz20_7 : w19.cell? ⟨gb904, 7, none⟩ = some (.int .i64 a1_7) := (bc_ BK904.out 7).trans rfl; have hcz20_8 : w19.cell? ⟨gb904, 8, none⟩ = some (.slice A1_8 l1_8.length c1_8) := (bc_ BK904.out 8).trans rfl; have hfz20_0 := bf_ BK904.out 0; have hfz20_1 := bf_ BK904.out 1; have hfz20_2 := bf_ BK904.out 2; have hfz20_3 := bf_ BK904.out 3; have hfz20_4 := bf_ BK904.out 4; have hfz20_5 := bf_ BK904.out 5; have hfz20_6 := bf_ BK904.out 6; have hfz20_7 := bf_ BK904.out 7; have hfz20_8 := bf_ BK904.out 8) | ((with_reducible refine gate_callee (f := 54) rfl ?_); refine goesL_ (some 17) rfl rfl Tryd.func54 (by kernel_rfl) rfl #[.slice A0 l0.length c0, .string a1_2] rfl wm_ ?_; (with_reducible refine (tree_Find.calls _ _ l0 a1_2 t905 t906 t907 t908 t909 t910 t911 t912 t913 true _ ?side1 ?side2 A4.out).mono ?_); (case side1 => exact wc_ (Kd.C_below HR0.out HB.out)); (case side2 => exact HC0.out); rintro e w21 ⟨v914, rfl, ho0, hb⟩; refine ⟨_, rfl, ?_⟩; have n0_ := A0_ (Kd.V_lower (Kd.V_mono (ok' := fun k_ => k_ ≠ gb904) ho0 (fun k_ hk_ => (Kd.freshB (g := gb904) (o := .cells #[.string a1_0, .string a1_1, .string a1_2, .int .u8 a1_3, .int .i64 a1_4, .int .i64 a1_5, .int .i64 a1_6, .int .i64 a1_7, .slice A1_8 l1_8.length c1_8] 38 (0, 0)) (wB_ BK904.out) k_ hk_))) (below_size (wb1_ HB.out GE904.out))); have n1_ := A0_ (blk_below (g := gb904) (o := .cells #[.string a1_0, .string a1_1, .string a1_2, .int .u8 a1_3, .int .i64 a1_4, .int .i64 a1_5, .int .i64 a1_6, .int .i64 a1_7, .slice A1_8 l1_8.length c1_8] 38 (0, 0)) (wB_ BK904.out) hb); have n2_ := A0_ (below_step (wb1_ HB.out GE904.out) hb); clear BK904; clear HB; have HO915 := n0_; have BK904 := n1_; have HB := n2_; clear n0_ n1_ n2_; (try clear hb); (try clear hb2); (try clear hk); (try clear hi); (try clear ho0)) | ((with_reducible refine gate_dst (N := 5) rfl ?_); refine box_event ?hg (N := 5) ?hd (cs := #[.string (⟨#[]⟩ : ByteArray), .string (⟨#[]⟩ : ByteArray), .string (⟨#[]⟩ : ByteArray), .int .u8 0, .int .i64 0, .int .i64 0, .int .i64 0, .int .i64 0, .slice none 0 0]) (t := 38) ?hr ?_; (case hd => rfl); (case hg => rfl); (case hr => first | (go_simp; done) | (go_simp; rfl)); intro gb917 hg w22 hbox hb; have n0_ := A0_ (Vb_ (Kd.V_elderB (wV_ HO915.out) gb917 (Nat.le_of_eq hg.symm)) hb); have n1_ := A0_ (blk_below (g := gb904) (o := .cells #[.string a1_0, .string a1_1, .string a1_2, .int .u8 a1_3, .int .i64 a1_4, .int .i64 a1_5, .int .i64 a1_6, .int .i64 a1_7, .slice A1_8 l1_8.length c1_8] 38 (0, 0)) (wB_ BK904.out) hb); have n2_ := A0_ (below_step (wb1_ HB.out GE904.out) hb); have n3_ := A0_ (hbox); have n4_ := A0_ ((by rw [hg]; exact (below_size (wb1_ HB.out GE904.out)) : w.heap.size ≤ gb917)); have n5_ := A0_ ((by rw [hg]; exact (below_size (wb1_ HB.out GE904.out)) : w.heap.size ≤ gb917)); have n6_ := A0_ ((by rw [hg]; exact Nat.ne_of_lt (blk_lt (g := gb904) (o := .cells #[.string a1_0, .string a1_1, .string a1_2, .int .u8 a1_3, .int .i64 a1_4, .int .i64 a1_5, .int .i64 a1_6, .int .i64 a1_7, .slice A1_8 l1_8.length c1_8] 38 (0, 0)) (wB_ BK904.out)) : gb904 ≠ gb917)); have n7_ := A0_ ((by rw [hg]; exact Nat.ne_of_gt (blk_lt (g := gb904) (o := .cells #[.string a1_0, .string a1_1, .string a1_2, .int .u8 a1_3, .int .i64 a1_4, .int .i64 a1_5, .int .i64 a1_6, .int .i64 a1_7, .slice A1_8 l1_8.length c1_8] 38 (0, 0)) (wB_ BK904.out)) : gb917 ≠ gb904)); clear HO915; clear BK904; clear HB; have HO915 := n0_; have BK904 := n1_; have HB := n2_; have BK917 := n3_; have GW917 := n4_; have GE917 := n5_; have NB904_917 := n6_; have NB917_904 := n7_; clear n0_ n1_ n2_ n3_ n4_ n5_ n6_ n7_; clear hb hbox hg; have hnb23 := NB917_904.out; have hnc23 := NB904_917.out; have hcz24_0 : w22.cell? ⟨gb917, 0, none⟩ = some (.string (⟨#[]⟩ : ByteArray)) := (bc_ BK917.out 0).trans rfl; have hcz24_1 : w22.cell? ⟨gb917, 1, none⟩ = some (.string (⟨#[]⟩ : ByteArray)) := (bc_ BK917.out 1).trans rfl; have hcz24_2 : w22.cell? ⟨gb917, 2, none⟩ = some (.string (⟨#[]⟩ : ByteArray)) := (bc_ BK917.out 2).trans rfl; have hcz24_3 : w22.cell? ⟨gb917, 3, none⟩ = some (.int .u8 0) := (bc_ BK917.out 3).trans rfl; have hcz24_4 : w22.cell? ⟨gb917, 4, none⟩ = some (.int .i64 0) := (bc_ BK917.out 4).trans rfl; have hcz24_5 : w22.cell? ⟨gb917, 5, none⟩ = some (.int .i64 0) := (bc_ BK917.out 5).trans rfl; have hcz24_6 : w22.cell? ⟨gb917, 6, none⟩ = some (.int .i64 0) := (bc_ BK917.out 6).trans rfl; have hcz24_7 : w22.cell? ⟨gb917, 7, none⟩ = some (.int .i64 0) := (bc_ BK917.out 7).trans rfl; have hcz24_8 : w22.cell? ⟨gb917, 8, none⟩ = some (.slice none 0 0) := (bc_ BK917.out 8).trans rfl; have hfz24_0 := bf_ BK917.out 0; have hfz24_1 := bf_ BK917.out 1; have hfz24_2 := bf_ BK917.out 2; have hfz24_3 := bf_ BK917.out 3; have hfz24_4 := bf_ BK917.out 4; have hfz24_5 := bf_ BK917.out 5; have hfz24_6 := bf_ BK917.out 6; have hfz24_7 := bf_ BK917.out 7; have hfz24_8 := bf_ BK917.out 8; obtain ⟨Ao25, co25, eo25⟩ := Kd.V_slice HO915.out; subst eo25; have hcz26_0 : w22.cell? ⟨gb904, 0, none⟩ = some (.string a1_0) := (bc_ BK904.out 0).trans rfl; have hcz26_1 : w22.cell? ⟨gb904, 1, none⟩ = some (.string a1_1) := (bc_ BK904.out 1).trans rfl; have hcz26_2 : w22.cell? ⟨gb904, 2, none⟩ = some (.string a1_2) := (bc_ BK904.out 2).trans rfl; have hcz26_3 : w22.cell? ⟨gb904, 3, none⟩ = some (.int .u8 a1_3) := (bc_ BK904.out 3).trans rfl; have hcz26_4 : w22.cell? ⟨gb904, 4, none⟩ = some (.int .i64 a1_4) := (bc_ BK904.out 4).trans rfl; have hcz26_5 : w22.cell? ⟨gb904, 5, none⟩ = some (.int .i64 a1_5) := (bc_ BK904.out 5).trans rfl; have hcz26_6 : w22.cell? ⟨gb904, 6, none⟩ = some (.int .i64 a1_6) := (bc_ BK904.out 6).trans rfl; have hcz26_7 : w22.cell? ⟨gb904, 7, none⟩ = some (.int .i64 a1_7) := (bc_ BK904.out 7).trans rfl; have hcz26_8 : w22.cell? ⟨gb904, 8, none⟩ = some (.slice A1_8 l1_8.length c1_8) := (bc_ BK904.out 8).trans rfl; have hfz26_0 := bf_ BK904.out 0; have hfz26_1 := bf_ BK904.out 1; have hfz26_2 := bf_ BK904.out 2; have hfz26_3 := bf_ BK904.out 3; have hfz26_4 := bf_ BK904.out 4; have hfz26_5 := bf_ BK904.out 5; have hfz26_6 := bf_ BK904.out 6; have hfz26_7 := bf_ BK904.out 7; have hfz26_8 := bf_ BK904.out 8) | (go_at_call 72; (with_reducible refine (bytes_Equal.calls _ _ t913 _ _ l1_8 t918 _ ?side1 ?side2 ?side3 ?side4 A18.out).mono ?_); (case side1 => refine (Kd.V_reads' (e := 5) (base := w.heap.size) (ok := fun k_ => (k_ ≠ gb904 ∧ k_ ≠ gb917)) (n := t913.length) (c := co25) ?_).2.2; exact (by (with_reducible repeat (first | apply Va_ | apply VN_ | apply V1_)); exact (Kd.V_mono (Kd.V_far (p := ⟨gb917, 8, none⟩) (Kd.V_far (p := ⟨gb917, 7, none⟩) (Kd.V_far (p := ⟨gb917, 6, none⟩) (Kd.V_far (p := ⟨gb917, 5, none⟩) (Kd.V_far (p := ⟨gb917, 4, none⟩) (Kd.V_far (p := ⟨gb917, 3, none⟩) (Kd.V_far (p := ⟨gb917, 2, none⟩) (Kd.V_far (p := ⟨gb917, 1, none⟩) (Kd.V_far (p := ⟨gb917, 0, none⟩) (Kd.V_mono HO915.out (fun k_ hk => (⟨hk, hk.2⟩ : _ ∧ k_ ≠ gb917))) (fun _ hk => hk.2) (.string t905)) (fun _ hk => hk.2) (.string t906)) (fun _ hk => hk.2) (.string t907)) (fun _ hk => hk.2) (.int .u8 t908)) (fun _ hk => hk.2) (.int .i64 t909)) (fun _ hk => hk.2) (.int .i64 t910)) (fun _ hk => hk.2) (.int .i64 t911)) (fun _ hk => hk.2) (.int .i64 t912)) (fun _ hk => hk.2) (.slice Ao25 t913.length co25)) (fun _ h_ => h_.1)))); (case side2 => exact (Kd.V_reads' HO915.out).2.1); (case side3 => exact Kd.C_below HR1_8.out (wb2_ HB.out GE904.out GE917.out)); (case side4 => exact HC1_8.out); rintro e w' ⟨rfl, ⟨nd, rfl⟩⟩))
 go_ret
 exact ⟨we_, wb2_ HB.out GE904.out GE917.out⟩
end Go.Proofs.YtfmphccoeinhcaaDoor.Print

namespace Go.Proofs.YtfmphccoeinhcaaDoor
open Go.RowKit Go.Proofs.YtfmphccoeinhcaaDoor.Print Go.Proofs.YtfmphccoeinhcaaDoorW.PrintWords
theorem led_f {l : List Node} (hr : riseB l = true) (hz : nodesZ l = true) (x : Node) : tree_led.f l x.f0 x.f1 x.f2 x.f3 x.f4.f0 x.f4.f1 x.f4.f2 x.f4.f3 x.f5 = some (ledB l x) := by
 unfold tree_led.f ledB
 by_cases h48 : x.f3 = 48
 ·rw [if_pos h48, if_pos h48]
  have hF : tree_Find.f l x.f2 = some (tupN (findF l x.f2)) := by unfold tree_Find.f; rw [if_pos ⟨hr, hz⟩]
  rw [hF, Option.bind_some]
  cases hf : findF l x.f2 with
  | none => rfl
  | some y =>
   refine (if_pos (c := (tupN (some y)).2.2.2.2.2.2.2.2.2 = true) rfl).trans ?_
   show (if y.f3 = 48 then (if y.f2.toList = y.f0.toList then (if Op.bytesLess x.f0.toList y.f0.toList = true then some false else (if (y.f4.f0 == x.f4.f0 && (y.f4.f1 == x.f4.f1 && (y.f4.f2 == x.f4.f2 && (y.f4.f3 == x.f4.f3)))) = true then (bytes_Equal.f y.f5 x.f5).bind fun t => some t else some false)) else some false) else some false) = some (decide (y.f3 = 48 ∧ y.f2.toList = y.f0.toList ∧ lt x.f0 y.f0 = false ∧ y.f4.f0 = x.f4.f0 ∧ y.f4.f1 = x.f4.f1 ∧ y.f4.f2 = x.f4.f2 ∧ y.f4.f3 = x.f4.f3 ∧ (strOfNums y.f5).toList = (strOfNums x.f5).toList))
   by_cases a : y.f3 = 48
   ·rw [if_pos a]
    by_cases b : y.f2.toList = y.f0.toList
    ·rw [if_pos b]
     by_cases c : Op.bytesLess x.f0.toList y.f0.toList = true
     ·rw [if_pos c, decide_eq_false]
      intro h
      have h2 := h.2.2.1
      unfold lt at h2
      rw [c] at h2
      cases h2
     ·rw [if_neg c]
      have c' : lt x.f0 y.f0 = false := by unfold lt; cases hb : Op.bytesLess x.f0.toList y.f0.toList with | true => exact absurd hb c | false => rfl
      by_cases d : (y.f4.f0 == x.f4.f0 && (y.f4.f1 == x.f4.f1 && (y.f4.f2 == x.f4.f2 && (y.f4.f3 == x.f4.f3)))) = true
      ·rw [if_pos d]
       simp only [Bool.and_eq_true, beq_iff_eq] at d
       unfold bytes_Equal.f
       rw [Option.bind_some]
       congr 1
       rw [Bool.eq_iff_iff, beq_iff_eq, decide_eq_true_iff]
       exact ⟨fun h => ⟨a, b, c', d.1, d.2.1, d.2.2.1, d.2.2.2, h⟩, fun h => h.2.2.2.2.2.2.2⟩
      ·rw [if_neg d, decide_eq_false]
       intro h
       apply d
       simp only [Bool.and_eq_true, beq_iff_eq]
       exact ⟨h.2.2.2.1, h.2.2.2.2.1, h.2.2.2.2.2.1, h.2.2.2.2.2.2.1⟩
    ·rw [if_neg b, decide_eq_false]
     exact fun h => b h.2.1
   ·rw [if_neg a, decide_eq_false]
    exact fun h => a h.1
 ·rw [if_neg h48, if_neg h48]
  congr 1
  rw [Bool.eq_iff_iff, beq_iff_eq, decide_eq_true_iff]
end Go.Proofs.YtfmphccoeinhcaaDoor

namespace Go.Proofs.YtfmphccoeinhcaaDoor
open Go.RowKit Go.Maps Go.Proofs.YtfmphccoeinhcaaDoor.Print Go.Proofs.YtfmphccoeinhcaaDoorW.PrintWords Go.Proofs.YtfmphccoeinhcaaDoorW.PrintLast Go.Proofs.YtfmphccoeinhcaaDoorW.PrintMore
set_option linter.unusedVariables false
set_option linter.unusedSimpArgs false
abbrev goodpwA_0 : Array Bool := #[false, false, false, false, false, false, false, false, false, false, false, false, false, false, false, false, false, false, false, false, false, false, false, false, false, false, false, false, false, false, false, false, false]
abbrev goodpwA_1 : Array Bool := tb_ 33 1
abbrev goodpwA_2 : Array Bool := tb_ 33 3
abbrev goodpwA_3 : Array Bool := tb_ 33 7
abbrev goodpwA_4 : Array Bool := tb_ 33 15
abbrev goodpwA_5 : Array Bool := tb_ 33 31
abbrev goodpwA_6 : Array Bool := tb_ 33 63
abbrev goodpwA_7 : Array Bool := tb_ 33 127
abbrev goodpwA_8 : Array Bool := tb_ 33 255
abbrev goodpwA_9 : Array Bool := tb_ 33 511
abbrev goodpwA_10 : Array Bool := tb_ 33 1023
abbrev goodpwA_11 : Array Bool := tb_ 33 2047
abbrev goodpwA_12 : Array Bool := tb_ 33 4095
abbrev goodpwA_13 : Array Bool := tb_ 33 8191
abbrev goodpwA_14 : Array Bool := tb_ 33 16383
abbrev goodpwA_15 : Array Bool := tb_ 33 32767
abbrev goodpwA_16 : Array Bool := tb_ 33 65535
abbrev goodpwA_17 : Array Bool := tb_ 33 131071
abbrev goodpwA_18 : Array Bool := tb_ 33 262143
abbrev goodpwA_19 : Array Bool := tb_ 33 524287
abbrev goodpwA_20 : Array Bool := tb_ 33 1048575
abbrev goodpwA_21 : Array Bool := tb_ 33 2097151
abbrev goodpwA_22 : Array Bool := tb_ 33 4194303
abbrev goodpwA_23 : Array Bool := tb_ 33 8388607
abbrev goodpwA_24 : Array Bool := tb_ 33 16777215
abbrev goodpwA_25 : Array Bool := tb_ 33 33554431
abbrev goodpwA_26 : Array Bool := tb_ 33 67108863
abbrev goodpwA_27 : Array Bool := tb_ 33 134217727
abbrev goodpwA_28 : Array Bool := tb_ 33 268435455
abbrev goodpwA_29 : Array Bool := tb_ 33 536870911
abbrev goodpwA_30 : Array Bool := tb_ 33 1073741823
abbrev goodpwA_31 : Array Bool := tb_ 33 2147483647
abbrev goodpwA_32 : Array Bool := tb_ 33 4294967295
abbrev goodpwA_33 : Array Bool := tb_ 33 8589934591
theorem acell {w : World} {p : Addr} {v : Value} (h : w.cell? p = some v) (o : Obj) : (w.alloc o).cell? p = some v := ((below_alloc (Below.refl _ _) o).cell (World.block_lt_of_cell? w _ h)).trans h
theorem bkeep {w w1 : World} {p : Addr} {v : Value} (hb : Below w.heap.size w w1) (h : w.cell? p = some v) : w1.cell? p = some v := (hb.cell (World.block_lt_of_cell? w _ h)).trans h
theorem Good1_calls (l : List Node) (hr : riseB l = true) (hz : nodesZ l = true) (A0 : Option Addr) (c0 : Nat) (hc0 : l.length ≤ c0) (B : Nat) (x : Node) (A : Option Addr) (c : Nat) (W : World) (hbox : W.cell? ⟨B, 0, none⟩ = some (.slice A0 l.length c0)) (hC : Kd.C k38 W A0 l.length l) (hx : Kd.C (Kd.int .u8) W A x.f5.length x.f5) (hc : x.f5.length ≤ c) :
  Calls Tryd.prog 59 #[.agg (nodeCells x (.slice A x.f5.length c)), .pointer (some ⟨B, 0, none⟩)] W fun e W' => e = .returned (.bool (!ledB l x)) ∧ Below W.heap.size W W' := by
 have hl := led_f hr hz x
 generalize ledB l x = b at hl
 have HL := Aside0.mk hl
 have HC := Aside0.mk hC
 have HX := Aside0.mk hx
 have hBlt : B < W.heap.size := World.block_lt_of_cell? W ⟨B, 0, none⟩ hbox
 have hbn := World.new_ne W ⟨B, 0, none⟩ hbox
 clear hl hC hx hr hz
 unfold nodeCells
 go_enter Tryd.func59, Tryd.ntmps59
 go_wp2_with (go_at_call 60; refine (tree_led.calls A0 c0 l x.f0 x.f1 x.f2 x.f3 x.f4.f0 x.f4.f1 x.f4.f2 x.f4.f3 A c x.f5 b _ (by first | exact Kd.C_alloc HC.out _ | exact HC.out) hc0 (by first | exact Kd.C_alloc HX.out _ | exact HX.out) hc HL.out).mono ?_; rintro e w1 ⟨rfl, hb⟩)
 go_ret
 exact ⟨rfl, by first | exact ((Below.refl _ _).alloc (Nat.le_refl _) _).trans (hb.mono (by simp)) | exact hb⟩
def IdxRel (l : List Node) (W : World) (i : Int) (wr : World) : Prop := 0 ≤ i ∧ i ≤ l.length ∧ (∀ (j : Nat) (hj : j < l.length), (j : Int) < i → ledB l l[j] = true) ∧ Below W.heap.size W wr
theorem all_led {l : List Node} (h : ∀ (j : Nat) (hj : j < l.length), ledB l l[j] = true) : l.all (ledB l) = true := by
 rw [List.all_eq_true]
 intro x hx
 obtain ⟨i, hi, rfl⟩ := List.getElem_of_mem hx
 exact h i hi
theorem not_led {l : List Node} {j : Nat} {hj : j < l.length} (h : ledB l l[j] = false) : l.all (ledB l) = false := by
 rw [Bool.eq_false_iff]
 intro h2
 rw [List.all_eq_true] at h2
 rw [h2 _ (List.getElem_mem hj)] at h
 cases h
set_option maxRecDepth 100000 in
set_option maxHeartbeats 2000000 in
theorem Index_calls (l : List Node) (hr : riseB l = true) (hz : nodesZ l = true) (A0 : Option Addr) (c0 : Nat) (hc0 : l.length ≤ c0) (B : Nat) (W : World) (hbox : W.cell? ⟨B, 0, none⟩ = some (.slice A0 l.length c0)) (hC : Kd.C k38 W A0 l.length l) :
  Calls Tryd.prog 73 #[.slice A0 l.length c0, .func (.func 59) #[] #[.pointer (some ⟨B, 0, none⟩)]] W fun e W' => ∃ n : Int, e = .returned (.int .i64 n) ∧ decide (n ≥ 0) = !(l.all (ledB l)) ∧ Below W.heap.size W W' := by
 have hcl := fun x A c W2 (hb : Below W.heap.size W W2) (h1 : Kd.C (Kd.int .u8) W2 A x.f5.length x.f5) (h2 : x.f5.length ≤ c) => Good1_calls l hr hz A0 c0 hc0 B x A c W2 (bkeep hb hbox) (Kd.C_below hC hb) h1 h2
 have HCL := Aside0.mk hcl
 have HC := Aside0.mk hC
 have hlen : (l.length : Int) ≤ 1000000000000 := by have := ((nodesZ_iff l).1 hz).1; omega
 clear hcl hC hr hz
 generalize hpost : (fun (e : Ending) (W' : World) => ∃ n : Int, e = .returned (.int .i64 n) ∧ decide (n ≥ 0) = !(l.all (ledB l)) ∧ Below W.heap.size W W') = Q
 have hQ := Aside0.mk hpost
 clear hpost
 go_enter Tryd.func73, Tryd.ntmps73
 go_wp2
 go_loopw [8] (fun i wr => ∃ n : Int, i = .int .i64 n ∧ Aside0 (IdxRel l W n wr)) (fun i _ => (l.length - (intOf i)).toNat)
 case atStart => exact ⟨0, rfl, ⟨⟨by omega, by omega, fun j hj h => absurd h (by omega), Below.refl _ _⟩⟩⟩
 case round =>
  obtain ⟨n, rfl, HR⟩ := hrel
  have h0 := HR.out.1
  have h1 := HR.out.2.1
  have HB := Aside0.mk HR.out.2.2.2
  by_cases hlt : n < (l.length : Int)
  ·have c1 : decide (n < (l.length : Int)) = true := decide_eq_true hlt
   have hnl : n.toNat < l.length := by omega
   obtain ⟨ad, A7, c7, rfl, x0, x1, x2, x3, x4, x5, x6, x7, x8, hl7, hC7⟩ := at_T38 (Kd.C_below HC.out HB.out) n h0 hlt
   have hx := rdN_at l n h0 hlt
   generalize rd_T38 l n = x at hx x0 x1 x2 x3 x4 x5 x6 x7 x8 hl7 hC7
   have HX := Aside0.mk hx
   have HC7 := Aside0.mk hC7
   have HL7 := Aside0.mk hl7
   have HNL := Aside0.mk hnl
   clear hx hC7 hl7 hnl
   have hcl2 := HCL.out x A7 c7 wr HB.out HC7.out HL7.out
   cases hb : ledB l x with
   | true =>
    rw [hb, Bool.not_true] at hcl2
    unfold nodeCells at hcl2
    have HC2 := Aside0.mk hcl2
    have HLB := Aside0.mk hb
    clear hcl2 hb
    go_wp2_with (go_at_call 59; refine HC2.out.mono ?_; rintro e w1 ⟨rfl, hb1⟩)
    have hfin : IdxRel l W (n + 1) w1 := by
     refine ⟨by omega, by omega, fun j hj hjn => ?_, HB.out.trans (hb1.mono HB.out.size)⟩
     rcases Nat.lt_or_ge j n.toNat with h | h
     ·exact HR.out.2.2.1 j hj (by omega)
     ·obtain rfl : j = n.toNat := by omega
      rw [← HX.out]; exact HLB.out
    clear hb1
    go_roundw
    case rel => exact ⟨n + 1, by go_num, ⟨hfin⟩⟩
    case measure => simp [intOf]; omega
   | false =>
    rw [hb, Bool.not_false] at hcl2
    unfold nodeCells at hcl2
    have HC2 := Aside0.mk hcl2
    have HLB := Aside0.mk hb
    clear hcl2 hb
    go_wp2_with (go_at_call 59; refine HC2.out.mono ?_; rintro e w1 ⟨rfl, hb1⟩)
    rw [← hQ.out]
    refine ⟨n, rfl, ?_, HB.out.trans (hb1.mono HB.out.size)⟩
    rw [not_led (j := n.toNat) (hj := HNL.out) (by rw [← HX.out]; exact HLB.out), decide_eq_true (show n ≥ 0 from h0)]
    rfl
  ·have c1 : decide (n < (l.length : Int)) = false := decide_eq_false hlt
   go_wp2
   rw [← hQ.out]
   refine ⟨-1, rfl, ?_, HB.out⟩
   rw [all_led (fun j hj => HR.out.2.2.1 j hj (by omega))]
   rfl
theorem Contains_calls (l : List Node) (hr : riseB l = true) (hz : nodesZ l = true) (A0 : Option Addr) (c0 : Nat) (hc0 : l.length ≤ c0) (B : Nat) (W : World) (hbox : W.cell? ⟨B, 0, none⟩ = some (.slice A0 l.length c0)) (hC : Kd.C k38 W A0 l.length l) :
  Calls Tryd.prog 58 #[.slice A0 l.length c0, .func (.func 59) #[] #[.pointer (some ⟨B, 0, none⟩)]] W fun e W' => e = .returned (.bool (!(l.all (ledB l)))) ∧ Below W.heap.size W W' := by
 have HI := Aside0.mk (Index_calls l hr hz A0 c0 hc0 B W hbox hC)
 clear hr hz hC
 go_enter Tryd.func58, Tryd.ntmps58
 go_wp2_with (go_at_call 73; refine HI.out.mono ?_; rintro e w1 ⟨n, rfl, hn, hb⟩; have HN := Aside0.mk hn; clear hn)
 go_ret
 exact ⟨by rw [← HN.out]; rfl, hb⟩
def headOk' (l : List Node) (i : Nat) (h : i < l.length) : Bool := (decide (i = 0) || lt (l[i - 1]'(by omega)).f0 l[i].f0) && !decide (l[i].f3 = 49) && goodM (memOf l[i])
def GRel (l : List Node) (W : World) (A0 : Option Addr) (c0 : Nat) (i : Int) (wr : World) : Prop := 0 ≤ i ∧ i ≤ l.length ∧ (∀ (j : Nat) (hj : j < l.length), (j : Int) < i → headOk' l j hj = true) ∧ Below W.heap.size W wr ∧ wr.cell? ⟨W.heap.size, 0, none⟩ = some (.slice A0 l.length c0)
theorem goodTree_head {l : List Node} (h : ∀ (i : Nat) (hi : i < l.length), headOk' l i hi = true) : riseB l = true ∧ goodTree l = (decide (l.length ≤ 4096) && l.all (ledB l)) := by
 have hp : ∀ (i : Nat) (hi : i < l.length), (i = 0 ∨ lt (l[i - 1]'(by omega)).f0 l[i].f0 = true) ∧ ¬ l[i].f3 = 49 ∧ goodM (memOf l[i]) = true := fun i hi => by
  have := h i hi
  unfold headOk' at this
  simp only [Bool.and_eq_true, Bool.or_eq_true, decide_eq_true_iff, Bool.not_eq_true', decide_eq_false_iff_not] at this
  exact ⟨this.1.1, this.1.2, this.2⟩
 have hr : riseB l = true := riseB_step (fun i hi => by
  have := (hp (i + 1) hi).1
  rcases this with h | h
  ·cases h
  ·exact h)
 refine ⟨hr, ?_⟩
 unfold goodTree
 have h1 : (l.all (fun x => !decide (x.f3 = 49) && goodM (memOf x))) = true := by
  rw [List.all_eq_true]
  intro x hx
  obtain ⟨i, hi, rfl⟩ := List.getElem_of_mem hx
  rw [Bool.and_eq_true, Bool.not_eq_true', decide_eq_false_iff_not]
  exact ⟨(hp i hi).2.1, (hp i hi).2.2⟩
 rw [hr, h1]
 rfl
theorem goodTree_nothead {l : List Node} (i : Nat) (hi : i < l.length) (h : headOk' l i hi = false) : goodTree l = false :=
 goodTree_not i hi (by show (headOk' l i hi && ledB (l.take (i + 1)) l[i]) = false; rw [h]; rfl)
theorem prev_lt' {l : List Node} {n j : Int} {h : j.toNat < l.length} {h' : n.toNat - 1 < l.length} {y0 x0 : ByteArray} {b : Bool} (hy : l[j.toNat].f0 = y0) (hj : j = n - 1) (hl : Op.bytesLess y0.toList x0.toList = b) : lt (l[n.toNat - 1]).f0 x0 = b := by
 subst hj
 unfold lt
 rw [← hl, ← hy]
 congr 4
 omega
theorem gRel_next {l : List Node} {W wr w1 : World} {A0 : Option Addr} {c0 : Nat} {n : Int} (h : GRel l W A0 c0 n wr) (hn : n.toNat < l.length) (h1 : headOk' l n.toNat hn = true) (hB : Below wr.heap.size wr w1) : GRel l W A0 c0 (n + 1) w1 := by
 have h0 := h.1
 refine ⟨by omega, by omega, fun q hq hqn => ?_, h.2.2.2.1.trans (hB.mono h.2.2.2.1.size), bkeep hB h.2.2.2.2⟩
 rcases Nat.lt_or_ge q n.toNat with hh | hh
 ·exact h.2.2.1 q hq (by omega)
 ·obtain rfl : q = n.toNat := by omega
  exact h1
def Mid4 (l : List Node) (n : Nat) (h : n < l.length) (b : Bool) (wr wx : World) : Prop := b = !(headOk' l n h) ∧ Below wr.heap.size wr wx
set_option maxRecDepth 100000 in
set_option maxHeartbeats 8000000 in
theorem Good_calls (A0 : Option Addr) (c0 : Nat) (l : List Node) (W : World) (hT : Tabs W) (hC : Kd.C k38 W A0 l.length l) (hc0 : l.length ≤ c0) (hz : NodesG l) :
  Calls Tryd.prog 42 #[.slice A0 l.length c0] W fun e W' => e = .returned (.bool (goodTree l)) ∧ Below W.heap.size W W' := by
 have HC := Aside0.mk hC
 have HZ := Aside0.mk hz
 have HC0 := Aside0.mk hc0
 have HT := Aside0.mk hT
 have hlen : (l.length : Int) ≤ 1000000000000 := by have := hz.1.1; omega
 clear hC hz hc0 hT
 generalize hpost : (fun (e : Ending) (W' : World) => e = .returned (.bool (goodTree l)) ∧ Below W.heap.size W W') = Q
 have hQ := Aside0.mk hpost
 clear hpost
 go_enter Tryd.func42, Tryd.ntmps42
 go_wp2
 go_loopg [7] (l.length) (fun g i wr => ∃ n : Int, i = .int .i64 n ∧ Aside0 (GRel l W A0 c0 n wr) ∧ Aside0 ((g : Int) + n = l.length))
 case atStart => exact ⟨0, rfl, ⟨⟨by omega, by omega, fun j hj h => absurd h (by omega), (Below.refl _ _).alloc (Nat.le_refl _) _, by simp⟩⟩, ⟨by omega⟩⟩
 case round =>
  obtain ⟨n, rfl, HR, HG⟩ := hrel
  have h0 := HR.out.1
  have h1 := HR.out.2.1
  have HB := Aside0.mk HR.out.2.2.2.1
  have hbox := HR.out.2.2.2.2
  by_cases hlt : n < (l.length : Int)
  ·have hnl : n.toNat < l.length := by omega
   obtain ⟨ad, A7, c7, rfl, x0, x1, x2, x3, x4, x5, x6, x7, x8, hl7, hC7⟩ := at_T38 (Kd.C_below HC.out HB.out) n h0 hlt
   have hx := rdN_at l n h0 hlt
   have hxz : NodeZ (rd_T38 l n) ∧ (rd_T38 l n).f0.size ≤ 8000000000000 ∧ (rd_T38 l n).f1.size ≤ 8000000000000 := by rw [hx]; exact ⟨HZ.out.1.2 _ (List.getElem_mem _), HZ.out.2 _ (List.getElem_mem _)⟩
   generalize rd_T38 l n = x at hx hxz x0 x1 x2 x3 x4 x5 x6 x7 x8 hl7 hC7
   have HX := Aside0.mk hx
   have HXZ := Aside0.mk hxz
   have HC7 := Aside0.mk hC7
   have c1b : decide (n < (l.length : Int)) = true := decide_eq_true hlt
   clear hx hxz hC7
   have hmr : MemZ (memOf x) := ⟨HXZ.out.2.1, HXZ.out.2.2, HXZ.out.1.2.2.2⟩
   obtain ⟨kg, hkg⟩ := Ev.rounds (member_Good_eq (memOf x) hmr)
   generalize hgd : goodM (memOf x) = gd at hkg
   have HGD := Aside0.mk hgd
   have HKG : Aside0 (member_Good.f kg x.f0 x.f1 x.f3 x.f4.f0 x.f4.f1 x.f4.f2 x.f4.f3 x.f5 = some gd) := ⟨hkg⟩
   have HCA := Aside0.mk (fun o => Kd.C_alloc HC7.out o)
   have HTA := Aside0.mk (Tabs.below HT.out HB.out)
   have hl7' : x.f5.length ≤ c7 := hl7
   have HNL := Aside0.mk hnl
   have hbn := World.new_ne wr ⟨W.heap.size, 0, none⟩ hbox
   clear hkg hmr hl7 hgd hnl
   go_upto_region 4 with (fail)
   go_cut [44] (fun v wx => ∃ b, v = .bool b ∧ Aside0 (Mid4 l n.toNat HNL.out b wr wx))
   case first =>
    by_cases h49 : x.f3 = 49
    ·have e49 : (x.f3 == 49) = true := beq_iff_eq.2 h49
     have H49 := Aside0.mk h49
     clear h49
     refine start_ (n := 33) (S := fun w' => w'.cell? ⟨wr.heap.size, 0, none⟩ = some (.string x.f0) ∧ w'.cell? ⟨wr.heap.size, 1, none⟩ = some (.string x.f1) ∧ w'.cell? ⟨wr.heap.size, 2, none⟩ = some (.string x.f2) ∧ w'.cell? ⟨wr.heap.size, 3, none⟩ = some (.int .u8 x.f3) ∧ w'.cell? ⟨wr.heap.size, 4, none⟩ = some (.int .i64 x.f4.f0) ∧ w'.cell? ⟨wr.heap.size, 5, none⟩ = some (.int .i64 x.f4.f1) ∧ w'.cell? ⟨wr.heap.size, 6, none⟩ = some (.int .i64 x.f4.f2) ∧ w'.cell? ⟨wr.heap.size, 7, none⟩ = some (.int .i64 x.f4.f3) ∧ w'.cell? ⟨wr.heap.size, 8, none⟩ = some (.slice A7 x.f5.length c7) ∧ w'.cell? ⟨W.heap.size, 0, none⟩ = some (.slice (some ad) l.length c0)) (ds := []) goodpwA_0 (by kernel_rfl) rfl rfl ⟨by simp, by simp, by simp, by simp, by simp, by simp, by simp, by simp, by simp, acell hbox _⟩ (fun hHeld => ?_)
     generalize hwq : (wr.alloc (.cells #[.string x.f0, .string x.f1, .string x.f2, .int .u8 x.f3, .int .i64 x.f4.f0, .int .i64 x.f4.f1, .int .i64 x.f4.f2, .int .i64 x.f4.f3, .slice A7 x.f5.length c7] 38)).drew = wq at hHeld ⊢
     refine pur_ (i := 0) (N := some 12) goodpwA_1 (by kernel_rfl) ?_
     refine tak_ (i := 1) (N := some 13) goodpwA_2 (by kernel_rfl) hHeld ?_
     refine pur_ (i := 2) (N := some 14) goodpwA_3 (by kernel_rfl) ?_
     refine pur_ (i := 3) (N := some 15) goodpwA_4 (by kernel_rfl) ?_
     refine puu_ (i := 4) (N := some 16) goodpwA_5 (by kernel_rfl) ?_
     refine puu_ (i := 5) (N := some 17) goodpwA_6 (by kernel_rfl) ?_
     refine puu_ (i := 6) (N := some 18) goodpwA_7 (by kernel_rfl) ?_
     refine puu_ (i := 7) (N := some 19) goodpwA_8 (by kernel_rfl) ?_
     refine puu_ (i := 8) (N := some 20) goodpwA_9 (by kernel_rfl) ?_
     refine puu_ (i := 9) (N := some 21) goodpwA_10 (by kernel_rfl) ?_
     refine puu_ (i := 10) (N := some 22) goodpwA_11 (by kernel_rfl) ?_
     refine puu_ (i := 11) (N := some 23) goodpwA_12 (by kernel_rfl) ?_
     refine puu_ (i := 12) (N := some 24) goodpwA_13 (by kernel_rfl) ?_
     refine puu_ (i := 13) (N := some 25) goodpwA_14 (by kernel_rfl) ?_
     refine puu_ (i := 14) (N := some 26) goodpwA_15 (by kernel_rfl) ?_
     refine puu_ (i := 15) (N := some 27) goodpwA_16 (by kernel_rfl) ?_
     refine puu_ (i := 16) (N := some 28) goodpwA_17 (by kernel_rfl) ?_
     refine pur_ (i := 17) (N := some 29) goodpwA_18 (by kernel_rfl) ?_
     refine pur_ (i := 18) (N := some 30) goodpwA_19 (by kernel_rfl) ?_
     refine puu_ (i := 19) (N := some 31) goodpwA_20 (by kernel_rfl) ?_
     refine puu_ (i := 20) (N := some 32) goodpwA_21 (by kernel_rfl) ?_
     refine puu_ (i := 21) (N := some 33) goodpwA_22 (by kernel_rfl) ?_
     refine puu_ (i := 22) (N := some 34) goodpwA_23 (by kernel_rfl) ?_
     refine puu_ (i := 23) (N := some 35) goodpwA_24 (by kernel_rfl) ?_
     refine puu_ (i := 24) (N := some 36) goodpwA_25 (by kernel_rfl) ?_
     refine puu_ (i := 25) (N := some 37) goodpwA_26 (by kernel_rfl) ?_
     refine puu_ (i := 26) (N := some 38) goodpwA_27 (by kernel_rfl) ?_
     refine puu_ (i := 27) (N := some 39) goodpwA_28 (by kernel_rfl) ?_
     refine puu_ (i := 28) (N := some 40) goodpwA_29 (by kernel_rfl) ?_
     refine puu_ (i := 29) (N := some 41) goodpwA_30 (by kernel_rfl) ?_
     refine puu_ (i := 30) (N := some 42) goodpwA_31 (by kernel_rfl) ?_
     refine puu_ (i := 31) (N := some 43) goodpwA_32 (by kernel_rfl) ?_
     refine pur_ (i := 32) (N := some 44) goodpwA_33 (by kernel_rfl) ?_
     refine done_ (by kernel_rfl) ?_
     go_wp2_with (fail)
     go_meet
     exact ⟨true, rfl, ⟨by unfold headOk'; rw [← HX.out, decide_eq_true H49.out]; simp, by rw [← hwq]; exact below_drew (below_alloc (Below.refl _ _) _)⟩⟩
    ·have e49 : (x.f3 == 49) = false := beq_eq_false_iff_ne.2 h49
     have H49 := Aside0.mk h49
     clear h49
     by_cases hn0 : n = 0
     ·have g1 : decide (0 < n) = false := decide_eq_false (by omega)
      have g2 : decide (n > 0) = false := decide_eq_false (by omega)
      have HN0 := Aside0.mk hn0
      clear hn0
      refine start_ (n := 33) (S := fun w' => w'.cell? ⟨wr.heap.size, 0, none⟩ = some (.string x.f0) ∧ w'.cell? ⟨wr.heap.size, 1, none⟩ = some (.string x.f1) ∧ w'.cell? ⟨wr.heap.size, 2, none⟩ = some (.string x.f2) ∧ w'.cell? ⟨wr.heap.size, 3, none⟩ = some (.int .u8 x.f3) ∧ w'.cell? ⟨wr.heap.size, 4, none⟩ = some (.int .i64 x.f4.f0) ∧ w'.cell? ⟨wr.heap.size, 5, none⟩ = some (.int .i64 x.f4.f1) ∧ w'.cell? ⟨wr.heap.size, 6, none⟩ = some (.int .i64 x.f4.f2) ∧ w'.cell? ⟨wr.heap.size, 7, none⟩ = some (.int .i64 x.f4.f3) ∧ w'.cell? ⟨wr.heap.size, 8, none⟩ = some (.slice A7 x.f5.length c7) ∧ w'.cell? ⟨W.heap.size, 0, none⟩ = some (.slice (some ad) l.length c0)) (ds := []) goodpwA_0 (by kernel_rfl) rfl rfl ⟨by simp, by simp, by simp, by simp, by simp, by simp, by simp, by simp, by simp, acell hbox _⟩ (fun hHeld => ?_)
      generalize hwq : (wr.alloc (.cells #[.string x.f0, .string x.f1, .string x.f2, .int .u8 x.f3, .int .i64 x.f4.f0, .int .i64 x.f4.f1, .int .i64 x.f4.f2, .int .i64 x.f4.f3, .slice A7 x.f5.length c7] 38)).drew = wq at hHeld ⊢
      refine pur_ (i := 0) (N := some 12) goodpwA_1 (by kernel_rfl) ?_
      refine tak_ (i := 1) (N := some 13) goodpwA_2 (by kernel_rfl) hHeld ?_
      refine pur_ (i := 2) (N := some 14) goodpwA_3 (by kernel_rfl) ?_
      refine pur_ (i := 3) (N := some 15) goodpwA_4 (by kernel_rfl) ?_
      refine pur_ (i := 4) (N := some 16) goodpwA_5 (by kernel_rfl) ?_
      refine pur_ (i := 5) (N := some 17) goodpwA_6 (by kernel_rfl) ?_
      refine pur_ (i := 6) (N := some 18) goodpwA_7 (by kernel_rfl) ?_
      refine puu_ (i := 7) (N := some 19) goodpwA_8 (by kernel_rfl) ?_
      refine puu_ (i := 8) (N := some 20) goodpwA_9 (by kernel_rfl) ?_
      refine puu_ (i := 9) (N := some 21) goodpwA_10 (by kernel_rfl) ?_
      refine puu_ (i := 10) (N := some 22) goodpwA_11 (by kernel_rfl) ?_
      refine puu_ (i := 11) (N := some 23) goodpwA_12 (by kernel_rfl) ?_
      refine puu_ (i := 12) (N := some 24) goodpwA_13 (by kernel_rfl) ?_
      refine puu_ (i := 13) (N := some 25) goodpwA_14 (by kernel_rfl) ?_
      refine puu_ (i := 14) (N := some 26) goodpwA_15 (by kernel_rfl) ?_
      refine puu_ (i := 15) (N := some 27) goodpwA_16 (by kernel_rfl) ?_
      refine pur_ (i := 16) (N := some 28) goodpwA_17 (by kernel_rfl) ?_
      refine pur_ (i := 17) (N := some 29) goodpwA_18 (by kernel_rfl) ?_
      refine pur_ (i := 18) (N := some 30) goodpwA_19 (by kernel_rfl) ?_
      refine pur_ (i := 19) (N := some 31) goodpwA_20 (by kernel_rfl) ?_
      refine tak_ (i := 20) (N := some 32) goodpwA_21 (by kernel_rfl) hHeld ?_
      refine pur_ (i := 21) (N := some 33) goodpwA_22 (by kernel_rfl) ?_
      refine tak_ (i := 22) (N := some 34) goodpwA_23 (by kernel_rfl) hHeld ?_
      refine pur_ (i := 23) (N := some 35) goodpwA_24 (by kernel_rfl) ?_
      refine tak_ (i := 24) (N := some 36) goodpwA_25 (by kernel_rfl) hHeld ?_
      refine pur_ (i := 25) (N := some 37) goodpwA_26 (by kernel_rfl) ?_
      refine tak_ (i := 26) (N := some 38) goodpwA_27 (by kernel_rfl) hHeld ?_
      refine pur_ (i := 27) (N := some 39) goodpwA_28 (by kernel_rfl) ?_
      refine tak_ (i := 28) (N := some 40) goodpwA_29 (by kernel_rfl) hHeld ?_
      refine pur_ (i := 29) (N := some 41) goodpwA_30 (by kernel_rfl) ?_
      refine one_ (i := 30) (N := some 42) goodpwA_31 rfl rfl (by kernel_rfl) (by decide) (fun K hK => ?_)
      refine goes_ Tryd.func45 (by kernel_rfl) rfl #[.agg #[.string x.f0, .string x.f1, .int .u8 x.f3, .int .i64 x.f4.f0, .int .i64 x.f4.f1, .int .i64 x.f4.f2, .int .i64 x.f4.f3, .slice A7 x.f5.length c7]] (by rfl) rfl rfl (by first | rfl | (simp [Act.eval]; done)) ?_
      refine (member_Good.calls kg x.f0 x.f1 x.f3 x.f4.f0 x.f4.f1 x.f4.f2 x.f4.f3 A7 c7 x.f5 gd wq ⟨by rw [← hwq]; exact Tabs.below HTA.out (below_drew (below_alloc (Below.refl _ _) _))⟩ (by rw [← hwq]; exact Kd.C_drew (HCA.out _)) hl7' HKG.out).mono ?_
      rintro e w5 ⟨rfl, hb5⟩
      refine ⟨_, rfl, ?_⟩
      refine hK.out _ _ ⟨bkeep hb5 hHeld.1, bkeep hb5 hHeld.2.1, bkeep hb5 hHeld.2.2.1, bkeep hb5 hHeld.2.2.2.1, bkeep hb5 hHeld.2.2.2.2.1, bkeep hb5 hHeld.2.2.2.2.2.1, bkeep hb5 hHeld.2.2.2.2.2.2.1, bkeep hb5 hHeld.2.2.2.2.2.2.2.1, bkeep hb5 hHeld.2.2.2.2.2.2.2.2.1, bkeep hb5 hHeld.2.2.2.2.2.2.2.2.2⟩ (fun hHeld => ?_)
      clear hK K
      refine norm_ (a' := ?_) ?_ ?_
      rotate_left
      ·show Act.put _ (some 42) _ = _
       simp only [Act.put, List.setIfInBounds_toArray, List.set_cons_zero, List.set_cons_succ, i64_w, i32_w]
       rfl
      refine pur_ (i := 31) (N := some 43) goodpwA_32 (by kernel_rfl) ?_
      refine pur_ (i := 32) (N := some 44) goodpwA_33 (by kernel_rfl) ?_
      refine done_ (by kernel_rfl) ?_
      go_wp2_with (fail)
      go_meet
      exact ⟨!gd, rfl, ⟨by unfold headOk'; rw [← HX.out, HGD.out, decide_eq_false H49.out, decide_eq_true (show n.toNat = 0 by have := HN0.out; omega)]; simp, (show Below wr.heap.size wr wq from by rw [← hwq]; exact below_drew (below_alloc (Below.refl _ _) _)).trans (hb5.mono (by rw [← hwq]; show wr.heap.size ≤ (wr.alloc (.cells #[.string x.f0, .string x.f1, .string x.f2, .int .u8 x.f3, .int .i64 x.f4.f0, .int .i64 x.f4.f1, .int .i64 x.f4.f2, .int .i64 x.f4.f3, .slice A7 x.f5.length c7] 38)).heap.size; rw [World.size_alloc]; omega))⟩⟩
     ·have g1 : decide (0 < n) = true := decide_eq_true (by omega)
      have g2 : decide (n > 0) = true := decide_eq_true (by omega)
      obtain ⟨j, hj⟩ : ∃ j, j = n - 1 := ⟨_, rfl⟩
      have hn1 : 0 ≤ j := by omega
      have hn2 : j < (l.length : Int) := by omega
      obtain ⟨ad', _, _, hA, hp0, _⟩ := at_T38 (Kd.C_below HC.out HB.out) j hn1 hn2
      cases hA
      have hy := rdN_at l j hn1 hn2
      generalize hy0 : (rd_T38 l j).f0 = y0 at hp0
      rw [hy] at hy0
      have HN0 := Aside0.mk hn0
      have HY := Aside0.mk hy0
      have hw64 : wrap64 (n - 1) = j := by unfold wrap64; omega
      have HJ := Aside0.mk hj
      clear hn0 hy hy0 hj
      cases hls : Op.bytesLess y0.toList x.f0.toList with
      | false =>
       refine start_ (n := 33) (S := fun w' => w'.cell? ⟨wr.heap.size, 0, none⟩ = some (.string x.f0) ∧ w'.cell? ⟨wr.heap.size, 1, none⟩ = some (.string x.f1) ∧ w'.cell? ⟨wr.heap.size, 2, none⟩ = some (.string x.f2) ∧ w'.cell? ⟨wr.heap.size, 3, none⟩ = some (.int .u8 x.f3) ∧ w'.cell? ⟨wr.heap.size, 4, none⟩ = some (.int .i64 x.f4.f0) ∧ w'.cell? ⟨wr.heap.size, 5, none⟩ = some (.int .i64 x.f4.f1) ∧ w'.cell? ⟨wr.heap.size, 6, none⟩ = some (.int .i64 x.f4.f2) ∧ w'.cell? ⟨wr.heap.size, 7, none⟩ = some (.int .i64 x.f4.f3) ∧ w'.cell? ⟨wr.heap.size, 8, none⟩ = some (.slice A7 x.f5.length c7) ∧ w'.cell? ⟨W.heap.size, 0, none⟩ = some (.slice (some ad) l.length c0) ∧ w'.cell? (ad.add (j.toNat * 9)) = some (.string y0)) (ds := []) goodpwA_0 (by kernel_rfl) rfl rfl ⟨by simp, by simp, by simp, by simp, by simp, by simp, by simp, by simp, by simp, acell hbox _, acell hp0 _⟩ (fun hHeld => ?_)
       generalize hwq : (wr.alloc (.cells #[.string x.f0, .string x.f1, .string x.f2, .int .u8 x.f3, .int .i64 x.f4.f0, .int .i64 x.f4.f1, .int .i64 x.f4.f2, .int .i64 x.f4.f3, .slice A7 x.f5.length c7] 38)).drew = wq at hHeld ⊢
       refine pur_ (i := 0) (N := some 12) goodpwA_1 (by kernel_rfl) ?_
       refine tak_ (i := 1) (N := some 13) goodpwA_2 (by kernel_rfl) hHeld ?_
       refine pur_ (i := 2) (N := some 14) goodpwA_3 (by kernel_rfl) ?_
       refine pur_ (i := 3) (N := some 15) goodpwA_4 (by kernel_rfl) ?_
       refine pur_ (i := 4) (N := some 16) goodpwA_5 (by kernel_rfl) ?_
       refine pur_ (i := 5) (N := some 17) goodpwA_6 (by kernel_rfl) ?_
       refine pur_ (i := 6) (N := some 18) goodpwA_7 (by kernel_rfl) ?_
       refine tak_ (i := 7) (N := some 19) goodpwA_8 (by kernel_rfl) hHeld ?_
       refine pur_ (i := 8) (N := some 20) goodpwA_9 (by kernel_rfl) ?_
       refine pur_ (i := 9) (N := some 21) goodpwA_10 (by kernel_rfl) ?_
       refine pur_ (i := 10) (N := some 22) goodpwA_11 (by kernel_rfl) ?_
       refine pur_ (i := 11) (N := some 23) goodpwA_12 (by kernel_rfl) ?_
       refine tak_ (i := 12) (N := some 24) goodpwA_13 (by kernel_rfl) hHeld ?_
       refine pur_ (i := 13) (N := some 25) goodpwA_14 (by kernel_rfl) ?_
       refine tak_ (i := 14) (N := some 26) goodpwA_15 (by kernel_rfl) hHeld ?_
       refine pur_ (i := 15) (N := some 27) goodpwA_16 (by kernel_rfl) ?_
       refine pur_ (i := 16) (N := some 28) goodpwA_17 (by kernel_rfl) ?_
       refine pur_ (i := 17) (N := some 29) goodpwA_18 (by kernel_rfl) ?_
       refine pur_ (i := 18) (N := some 30) goodpwA_19 (by kernel_rfl) ?_
       refine puu_ (i := 19) (N := some 31) goodpwA_20 (by kernel_rfl) ?_
       refine puu_ (i := 20) (N := some 32) goodpwA_21 (by kernel_rfl) ?_
       refine puu_ (i := 21) (N := some 33) goodpwA_22 (by kernel_rfl) ?_
       refine puu_ (i := 22) (N := some 34) goodpwA_23 (by kernel_rfl) ?_
       refine puu_ (i := 23) (N := some 35) goodpwA_24 (by kernel_rfl) ?_
       refine puu_ (i := 24) (N := some 36) goodpwA_25 (by kernel_rfl) ?_
       refine puu_ (i := 25) (N := some 37) goodpwA_26 (by kernel_rfl) ?_
       refine puu_ (i := 26) (N := some 38) goodpwA_27 (by kernel_rfl) ?_
       refine puu_ (i := 27) (N := some 39) goodpwA_28 (by kernel_rfl) ?_
       refine puu_ (i := 28) (N := some 40) goodpwA_29 (by kernel_rfl) ?_
       refine puu_ (i := 29) (N := some 41) goodpwA_30 (by kernel_rfl) ?_
       refine puu_ (i := 30) (N := some 42) goodpwA_31 (by kernel_rfl) ?_
       refine puu_ (i := 31) (N := some 43) goodpwA_32 (by kernel_rfl) ?_
       refine pur_ (i := 32) (N := some 44) goodpwA_33 (by kernel_rfl) ?_
       refine done_ (by kernel_rfl) ?_
       clear hw64
       go_wp2_with (fail)
       go_meet
       exact ⟨true, rfl, ⟨by unfold headOk'; rw [← HX.out, decide_eq_false (show ¬ n.toNat = 0 by have := HN0.out; omega), show lt (l[n.toNat - 1]'(by have := HNL.out; omega)).f0 x.f0 = false from (prev_lt' HY.out HJ.out hls)]; simp, by rw [← hwq]; exact below_drew (below_alloc (Below.refl _ _) _)⟩⟩
      | true =>
       refine start_ (n := 33) (S := fun w' => w'.cell? ⟨wr.heap.size, 0, none⟩ = some (.string x.f0) ∧ w'.cell? ⟨wr.heap.size, 1, none⟩ = some (.string x.f1) ∧ w'.cell? ⟨wr.heap.size, 2, none⟩ = some (.string x.f2) ∧ w'.cell? ⟨wr.heap.size, 3, none⟩ = some (.int .u8 x.f3) ∧ w'.cell? ⟨wr.heap.size, 4, none⟩ = some (.int .i64 x.f4.f0) ∧ w'.cell? ⟨wr.heap.size, 5, none⟩ = some (.int .i64 x.f4.f1) ∧ w'.cell? ⟨wr.heap.size, 6, none⟩ = some (.int .i64 x.f4.f2) ∧ w'.cell? ⟨wr.heap.size, 7, none⟩ = some (.int .i64 x.f4.f3) ∧ w'.cell? ⟨wr.heap.size, 8, none⟩ = some (.slice A7 x.f5.length c7) ∧ w'.cell? ⟨W.heap.size, 0, none⟩ = some (.slice (some ad) l.length c0) ∧ w'.cell? (ad.add (j.toNat * 9)) = some (.string y0)) (ds := []) goodpwA_0 (by kernel_rfl) rfl rfl ⟨by simp, by simp, by simp, by simp, by simp, by simp, by simp, by simp, by simp, acell hbox _, acell hp0 _⟩ (fun hHeld => ?_)
       generalize hwq : (wr.alloc (.cells #[.string x.f0, .string x.f1, .string x.f2, .int .u8 x.f3, .int .i64 x.f4.f0, .int .i64 x.f4.f1, .int .i64 x.f4.f2, .int .i64 x.f4.f3, .slice A7 x.f5.length c7] 38)).drew = wq at hHeld ⊢
       refine pur_ (i := 0) (N := some 12) goodpwA_1 (by kernel_rfl) ?_
       refine tak_ (i := 1) (N := some 13) goodpwA_2 (by kernel_rfl) hHeld ?_
       refine pur_ (i := 2) (N := some 14) goodpwA_3 (by kernel_rfl) ?_
       refine pur_ (i := 3) (N := some 15) goodpwA_4 (by kernel_rfl) ?_
       refine pur_ (i := 4) (N := some 16) goodpwA_5 (by kernel_rfl) ?_
       refine pur_ (i := 5) (N := some 17) goodpwA_6 (by kernel_rfl) ?_
       refine pur_ (i := 6) (N := some 18) goodpwA_7 (by kernel_rfl) ?_
       refine tak_ (i := 7) (N := some 19) goodpwA_8 (by kernel_rfl) hHeld ?_
       refine pur_ (i := 8) (N := some 20) goodpwA_9 (by kernel_rfl) ?_
       refine pur_ (i := 9) (N := some 21) goodpwA_10 (by kernel_rfl) ?_
       refine pur_ (i := 10) (N := some 22) goodpwA_11 (by kernel_rfl) ?_
       refine pur_ (i := 11) (N := some 23) goodpwA_12 (by kernel_rfl) ?_
       refine tak_ (i := 12) (N := some 24) goodpwA_13 (by kernel_rfl) hHeld ?_
       refine pur_ (i := 13) (N := some 25) goodpwA_14 (by kernel_rfl) ?_
       refine tak_ (i := 14) (N := some 26) goodpwA_15 (by kernel_rfl) hHeld ?_
       refine pur_ (i := 15) (N := some 27) goodpwA_16 (by kernel_rfl) ?_
       refine pur_ (i := 16) (N := some 28) goodpwA_17 (by kernel_rfl) ?_
       refine pur_ (i := 17) (N := some 29) goodpwA_18 (by kernel_rfl) ?_
       refine pur_ (i := 18) (N := some 30) goodpwA_19 (by kernel_rfl) ?_
       refine pur_ (i := 19) (N := some 31) goodpwA_20 (by kernel_rfl) ?_
       refine tak_ (i := 20) (N := some 32) goodpwA_21 (by kernel_rfl) hHeld ?_
       refine pur_ (i := 21) (N := some 33) goodpwA_22 (by kernel_rfl) ?_
       refine tak_ (i := 22) (N := some 34) goodpwA_23 (by kernel_rfl) hHeld ?_
       refine pur_ (i := 23) (N := some 35) goodpwA_24 (by kernel_rfl) ?_
       refine tak_ (i := 24) (N := some 36) goodpwA_25 (by kernel_rfl) hHeld ?_
       refine pur_ (i := 25) (N := some 37) goodpwA_26 (by kernel_rfl) ?_
       refine tak_ (i := 26) (N := some 38) goodpwA_27 (by kernel_rfl) hHeld ?_
       refine pur_ (i := 27) (N := some 39) goodpwA_28 (by kernel_rfl) ?_
       refine tak_ (i := 28) (N := some 40) goodpwA_29 (by kernel_rfl) hHeld ?_
       refine pur_ (i := 29) (N := some 41) goodpwA_30 (by kernel_rfl) ?_
       refine one_ (i := 30) (N := some 42) goodpwA_31 rfl rfl (by kernel_rfl) (by decide) (fun K hK => ?_)
       refine goes_ Tryd.func45 (by kernel_rfl) rfl #[.agg #[.string x.f0, .string x.f1, .int .u8 x.f3, .int .i64 x.f4.f0, .int .i64 x.f4.f1, .int .i64 x.f4.f2, .int .i64 x.f4.f3, .slice A7 x.f5.length c7]] (by rfl) rfl rfl (by first | rfl | (simp [Act.eval]; done)) ?_
       refine (member_Good.calls kg x.f0 x.f1 x.f3 x.f4.f0 x.f4.f1 x.f4.f2 x.f4.f3 A7 c7 x.f5 gd wq ⟨by rw [← hwq]; exact Tabs.below HTA.out (below_drew (below_alloc (Below.refl _ _) _))⟩ (by rw [← hwq]; exact Kd.C_drew (HCA.out _)) hl7' HKG.out).mono ?_
       rintro e w5 ⟨rfl, hb5⟩
       refine ⟨_, rfl, ?_⟩
       refine hK.out _ _ ⟨bkeep hb5 hHeld.1, bkeep hb5 hHeld.2.1, bkeep hb5 hHeld.2.2.1, bkeep hb5 hHeld.2.2.2.1, bkeep hb5 hHeld.2.2.2.2.1, bkeep hb5 hHeld.2.2.2.2.2.1, bkeep hb5 hHeld.2.2.2.2.2.2.1, bkeep hb5 hHeld.2.2.2.2.2.2.2.1, bkeep hb5 hHeld.2.2.2.2.2.2.2.2.1, bkeep hb5 hHeld.2.2.2.2.2.2.2.2.2.1, bkeep hb5 hHeld.2.2.2.2.2.2.2.2.2.2⟩ (fun hHeld => ?_)
       clear hK K
       refine norm_ (a' := ?_) ?_ ?_
       rotate_left
       ·show Act.put _ (some 42) _ = _
        simp only [Act.put, List.setIfInBounds_toArray, List.set_cons_zero, List.set_cons_succ, i64_w, i32_w]
        rfl
       refine pur_ (i := 31) (N := some 43) goodpwA_32 (by kernel_rfl) ?_
       refine pur_ (i := 32) (N := some 44) goodpwA_33 (by kernel_rfl) ?_
       refine done_ (by kernel_rfl) ?_
       clear hw64
       go_wp2_with (fail)
       go_meet
       exact ⟨!gd, rfl, ⟨by unfold headOk'; rw [← HX.out, HGD.out, decide_eq_false H49.out, show lt (l[n.toNat - 1]'(by have := HNL.out; omega)).f0 x.f0 = true from (prev_lt' HY.out HJ.out hls)]; simp, (show Below wr.heap.size wr wq from by rw [← hwq]; exact below_drew (below_alloc (Below.refl _ _) _)).trans (hb5.mono (by rw [← hwq]; show wr.heap.size ≤ (wr.alloc (.cells #[.string x.f0, .string x.f1, .string x.f2, .int .u8 x.f3, .int .i64 x.f4.f0, .int .i64 x.f4.f1, .int .i64 x.f4.f2, .int .i64 x.f4.f3, .slice A7 x.f5.length c7] 38)).heap.size; rw [World.size_alloc]; omega))⟩⟩
   case rest =>
    obtain ⟨b, rfl, HM⟩ := hcut
    cases b with
    | true =>
     go_wp2
     rw [← hQ.out]
     exact ⟨by rw [goodTree_nothead n.toNat HNL.out (by have := HM.out.1; simpa using this.symm)], HB.out.trans (HM.out.2.mono HB.out.size)⟩
    | false =>
     have hfin : GRel l W (some ad) c0 (n + 1) wc := gRel_next HR.out HNL.out (by have := HM.out.1; simpa using this.symm) HM.out.2
     have HF := Aside0.mk hfin
     clear hfin
     go_wp2
     go_roundg (gk - 1)
     case measure => have := HG.out; omega
     case rel => exact ⟨n + 1, by go_num, HF, ⟨by have := HG.out; omega⟩⟩
  ·have c1b : decide (n < (l.length : Int)) = false := decide_eq_false hlt
   obtain ⟨hr, hgt⟩ := goodTree_head (l := l) (fun i hi => HR.out.2.2.1 i hi (by omega))
   have HCT := Aside0.mk (Contains_calls l hr ((nodesZ_iff l).2 HZ.out.1) A0 c0 HC0.out W.heap.size wr hbox (Kd.C_below HC.out HB.out))
   have HGT := Aside0.mk hgt
   clear hgt hr
   by_cases h4 : l.length ≤ 4096
   ·have h4b : decide ((l.length : Int) ≤ 4096) = true := decide_eq_true (by omega)
    have h4c : decide (l.length ≤ 4096) = true := decide_eq_true h4
    have H4 := Aside0.mk h4
    clear h4
    go_wp2_with (go_at_call 58; refine HCT.out.mono ?_; rintro e w1 ⟨rfl, hb1⟩)
    rw [← hQ.out]
    refine ⟨?_, HB.out.trans (hb1.mono HB.out.size)⟩
    rw [HGT.out, decide_eq_true H4.out]
    simp
   ·have h4b : decide ((l.length : Int) ≤ 4096) = false := decide_eq_false (by omega)
    have h4c : decide (l.length ≤ 4096) = false := decide_eq_false h4
    have H4 := Aside0.mk h4
    clear h4
    go_wp2
    rw [← hQ.out]
    refine ⟨?_, HB.out⟩
    rw [HGT.out, decide_eq_false H4.out]
    rfl
end Go.Proofs.YtfmphccoeinhcaaDoor

namespace Go.Proofs.YtfmphccoeinhcaaDoor
open Go.RowKit Go.Maps Go.Proofs.YtfmphccoeinhcaaDoor.Print Go.Proofs.YtfmphccoeinhcaaDoorW.PrintWords Go.Proofs.YtfmphccoeinhcaaDoorW.PrintLast Go.Proofs.YtfmphccoeinhcaaDoorW.PrintMore
set_option linter.unusedVariables false
set_option linter.unusedSimpArgs false
theorem pilesFrom_snoc (t : List Node) : ∀ (ls : List (List Node)) (n : Nat) (s : PL), pilesFrom n s (ls ++ [t]) = pileFrom ((n + ls.length : Nat) : Int) (pilesFrom n s ls) t
 | [], n, s => rfl
 | u :: ls, n, s => by
  rw [List.cons_append, pilesFrom, pilesFrom_snoc t ls, pilesFrom, List.length_cons]
  congr 2
  omega
theorem pileFrom_snoc (i : Int) (s : PL) (t : List Node) (x : Node) : pileFrom i s (t ++ [x]) = putE (pileFrom i s t) ⟨x.f0, x, i⟩ := by
 unfold pileFrom
 rw [List.foldl_append]
 rfl
def TreeZ (t : List Node) : Prop := t.length ≤ 10000 ∧ NodesG t
def TreesZ (ls : List (List Node)) : Prop := ls.length ≤ 10000 ∧ ∀ t ∈ ls, TreeZ t
theorem at_trees {w : World} {A : Option Addr} {n : Nat} {xs : List (List Node)} (h : Kd.C (Kd.slice 38 k38) w A n xs) (i : Int) (h0 : 0 ≤ i) (h1 : i < n) (hn : i.toNat < xs.length) : ∃ ad A0 c0, A = some ad ∧ w.cell? (ad.add i.toNat) = some (.slice A0 xs[i.toNat].length c0) ∧ xs[i.toNat].length ≤ c0 ∧ Kd.C k38 w A0 xs[i.toNat].length xs[i.toNat] := by
 obtain ⟨ad, c, e, _, hK, hc0⟩ := Kd.C_get h ([] : List Node) i h0 h1
 have hc : ∀ j u, c[j]? = some u → w.cell? (ad.add (i.toNat * 1 + j)) = some u := hc0
 have hx : xs.getD i.toNat ([] : List Node) = xs[i.toNat] := by rw [List.getD_eq_getElem?_getD, List.getElem?_eq_getElem hn]; rfl
 rw [hx] at hK
 obtain ⟨A0, c0, rfl, l0, g0⟩ := hK
 exact ⟨ad, A0, c0, e, by have hq := hc 0 _ rfl; rwa [Nat.mul_one, Nat.add_zero] at hq, l0, g0⟩
def URel (ls : List (List Node)) (W : World) (g d1 d2 : Nat) (i : Int) (wr : World) : Prop :=
 0 ≤ i ∧ i ≤ ls.length ∧ (∀ t ∈ ls.take i.toNat, goodTree t = true) ∧ (∃ n, n ≤ i.toNat * 10000 ∧ PileAt wr W.heap.size g d1 d2 n (pilesFrom 0 [] (ls.take i.toNat))) ∧ Below W.heap.size W wr
def VRel (t : List Node) (s : PL) (W : World) (g d1 d2 : Nat) (b : Nat) (i : Int) (k : Int) (wr : World) : Prop :=
 0 ≤ k ∧ k ≤ t.length ∧ (∃ n, n ≤ b + k.toNat ∧ PileAt wr W.heap.size g d1 d2 n (pileFrom i s (t.take k.toNat))) ∧ Below W.heap.size W wr
theorem wf_small {i : Int} (h0 : 0 ≤ i) (h1 : i ≤ 10000) : (Lit.int .i64 i).wf = true := by
 have a : IntKind.i64.min = -9223372036854775808 := by decide
 have b : IntKind.i64.max = 9223372036854775807 := by decide
 unfold Lit.wf
 simp [a, b]
 omega
set_option maxRecDepth 100000 in
set_option maxHeartbeats 8000000 in
theorem Union_calls (A0 : Option Addr) (c0 : Nat) (ls : List (List Node)) (W : World) (hT : Tabs W) (hC : Kd.C (Kd.slice 38 k38) W A0 ls.length ls) (hz : TreesZ ls) :
  Calls Tryd.prog 23 #[.slice A0 ls.length c0] W fun e W' => ∃ v, e = .returned (.tuple #[v, .int .i64 (unionF ls).2]) ∧ Kd.V k38 38 W' W.heap.size (fun k => W.heap.size ≤ k) v (unionF ls).1 ∧ Below W.heap.size W W' := by
 have HT := Aside0.mk (fun (w1 : World) (hb : Below W.heap.size W w1) => Tabs.below hT hb)
 have HC := Aside0.mk hC
 have HZ := Aside0.mk hz
 have hlen : (ls.length : Int) ≤ 10000 := by have := hz.1; omega
 clear hT hC hz
 generalize hpost : (fun (e : Ending) (W' : World) => ∃ v, e = .returned (.tuple #[v, .int .i64 (unionF ls).2]) ∧ Kd.V k38 38 W' W.heap.size (fun k => W.heap.size ≤ k) v (unionF ls).1 ∧ Below W.heap.size W W') = Q
 have hQ := Aside0.mk hpost
 clear hpost
 go_enter Tryd.func23, Tryd.ntmps23
 go_wp2_with (first
  | (go_at_call 27; refine (New_calls W.heap.size W (Nat.le_refl _)).mono ?_; rintro e w1 ⟨g, d1, d2, rfl, hP1, hB1⟩; have HP1 := Aside0.mk hP1; have HB1 := Aside0.mk hB1; clear hP1 hB1))
 have HST : Aside0 (URel ls W g d1 d2 0 w1) := ⟨⟨by omega, by omega, fun t ht => by simp at ht, ⟨0, by omega, HP1.out⟩, HB1.out⟩⟩
 clear HP1 HB1
 go_loopw [12] (fun i wr => ∃ n : Int, i = .int .i64 n ∧ Aside0 (URel ls W g d1 d2 n wr)) (fun i _ => (ls.length - (intOf i)).toNat)
 case atStart => exact ⟨0, rfl, HST⟩
 case round =>
  obtain ⟨i, rfl, HR⟩ := hrel
  have h0 := HR.out.1
  have h1 := HR.out.2.1
  obtain ⟨m, hm, hP⟩ := HR.out.2.2.2.1
  have HP := Aside0.mk hP
  have HM := Aside0.mk hm
  have HB := Aside0.mk HR.out.2.2.2.2
  clear hP hm
  by_cases hlt : i < (ls.length : Int)
  ·have c1b : decide (i < (ls.length : Int)) = true := decide_eq_true hlt
   have hil : i.toNat < ls.length := by omega
   obtain ⟨ad, At, ct, rfl, x0, hct, hCt⟩ := at_trees HC.out i h0 hlt hil
   replace x0 := fkeep HB.out x0
   have htm : ls[i.toNat] ∈ ls := List.getElem_mem _
   have htk := List.take_succ_eq_append_getElem hil
   have hii : ls[i.toNat]? = some ls[i.toNat] := List.getElem?_eq_getElem hil
   generalize hte : ls[i.toNat] = t at x0 hct hCt htm htk hii
   have HCT := Aside0.mk hCt
   have HCC := Aside0.mk hct
   have HTK := Aside0.mk htk
   have HTM := Aside0.mk htm
   have HTZ := Aside0.mk (HZ.out.2 t htm)
   have htl : (t.length : Int) ≤ 10000 := by have := HTZ.out.1; omega
   clear hct hCt htm htk hte hii
   cases hg : goodTree t with
   | false =>
    have HG := Aside0.mk hg
    clear hg
    go_wp2_with (first
     | (go_at_call 42; refine (Good_calls At ct t _ (HT.out _ HB.out) (Kd.C_below HCT.out HB.out) HCC.out HTZ.out.2).mono ?_; rintro e w2 ⟨rfl, hb2⟩; rw [HG.out]; have HB2 := Aside0.mk hb2; clear hb2 x0)
     | fail)
    rw [← hQ.out]
    have hall : ls.all goodTree = false := by
     rw [Bool.eq_false_iff]
     intro h
     rw [List.all_eq_true] at h
     rw [h t HTM.out] at HG
     exact absurd HG.out (by simp)
    have hu : unionF ls = ([], 1) := by unfold unionF; rw [hall]; rfl
    rw [hu]
    exact ⟨_, rfl, Kd.V_nil _ _ _ _ _, HB.out.trans (HB2.out.mono HB.out.size)⟩
   | true =>
    have HG := Aside0.mk hg
    clear hg
    go_upto_region 8 with (first
     | (go_at_call 42; refine (Good_calls At ct t _ (HT.out _ HB.out) (Kd.C_below HCT.out HB.out) HCC.out HTZ.out.2).mono ?_; rintro e w2 ⟨rfl, hb2⟩; rw [HG.out]; have HB2 := Aside0.mk hb2; have HP2 := Aside0.mk (HP.out.below hb2); have HBW2 := Aside0.mk (HB.out.trans (hb2.mono HB.out.size)); clear hb2 x0)
     | fail)
    obtain ⟨wo, rfl⟩ : ∃ wo : World, wo = wr := ⟨_, rfl⟩
    have HS2 : Aside0 (VRel t (pilesFrom 0 [] (ls.take i.toNat)) W g d1 d2 m i 0 w2) := ⟨⟨by omega, by omega, ⟨m, by omega, HP2.out⟩, HBW2.out⟩⟩
    have hm9 : m ≤ 100000000 := by have := HM.out; omega
    have HM9 := Aside0.mk hm9
    clear hm9
    go_loopw [22] (fun k wr => ∃ n : Int, k = .int .i64 n ∧ Aside0 (VRel t (pilesFrom 0 [] (ls.take i.toNat)) W g d1 d2 m i n wr)) (fun k _ => (t.length - (intOf k)).toNat)
    case atStart => exact ⟨0, rfl, HS2⟩
    case round =>
     obtain ⟨k, rfl, HR2⟩ := hrel
     have hk0 := HR2.out.1
     have hk1 := HR2.out.2.1
     obtain ⟨q, hq, hP3⟩ := HR2.out.2.2.1
     have HB3 := Aside0.mk HR2.out.2.2.2
     have HP3 := Aside0.mk hP3
     have HQ3 := Aside0.mk hq
     clear hq hP3
     by_cases hkt : k < (t.length : Int)
     ·have c2b : decide (k < (t.length : Int)) = true := decide_eq_true hkt
      have hkl : k.toNat < t.length := by omega
      obtain ⟨adt, Ax, cx, rfl, x0, x1, x2, x3, x4, x5, x6, x7, x8, hlx, hCx⟩ := at_T38 (Kd.C_below HCT.out HB3.out) k hk0 hkt
      have hxm : rd_T38 t k ∈ t := by rw [rdN_at t k hk0 hkt]; exact List.getElem_mem _
      have htk2 := List.take_succ_eq_append_getElem hkl
      rw [← rdN_at t k hk0 hkt] at htk2
      generalize rd_T38 t k = x at hxm htk2 x0 x1 x2 x3 x4 x5 x6 x7 x8 hlx hCx
      have hez : EntZ ⟨x.f0, x, i⟩ := ⟨(HTZ.out.2.1.2 x hxm).1, HTZ.out.2.1.2 x hxm, wf_small (i := i) h0 (by omega)⟩
      have HEZ := Aside0.mk hez
      have HTK2 := Aside0.mk htk2
      have HCX := Aside0.mk hCx
      clear hxm htk2 hez hCx hlx
      go_wp2_with (first
       | (go_at_call 28; refine (Put_calls W.heap.size g d1 d2 q (pileFrom i (pilesFrom 0 [] (ls.take i.toNat)) (t.take k.toNat)) i x Ax cx x.f0 _ (HP3.out.below (below_alloc (Below.refl _ _) _)) (by have := HQ3.out; have := HM9.out; omega) HEZ.out (Kd.C_alloc HCX.out _) (Nat.le_trans HB3.out.size (by rw [World.size_alloc]; omega))).mono ?_; rintro e w3 ⟨rfl, hP4, hB4⟩; have HP4 := Aside0.mk hP4; have HB4 := Aside0.mk ((HB3.out.alloc HB3.out.size _).trans hB4); clear hP4 hB4)
       | fail)
      have hfin : VRel t (pilesFrom 0 [] (ls.take i.toNat)) W g d1 d2 m i (k + 1) w3 := by
       have e1 : (k + 1).toNat = k.toNat + 1 := by omega
       refine ⟨by omega, by omega, ⟨q + 1, by have := HQ3.out; omega, ?_⟩, HB4.out⟩
       rw [e1, HTK2.out, pileFrom_snoc]
       exact HP4.out
      have HFIN := Aside0.mk hfin
      clear hfin
      go_roundw
      case rel => exact ⟨k + 1, by go_num, HFIN⟩
      case measure => simp [intOf]; omega
     ·have c2b : decide (k < (t.length : Int)) = false := decide_eq_false hkt
      have hke : k = t.length := by omega
      have hfin : URel ls W g d1 d2 (i + 1) wr := by
       have e1 : (i + 1).toNat = i.toNat + 1 := by omega
       refine ⟨by omega, by omega, fun u hu => ?_, ⟨q, ?_, ?_⟩, HB3.out⟩
       ·rw [e1, HTK.out] at hu
        rcases List.mem_append.1 hu with h | h
        ·exact HR.out.2.2.1 u h
        ·rw [List.mem_singleton] at h
         rw [h]
         exact HG.out
       ·have := HQ3.out
        have := HM.out
        have := HTZ.out.1
        omega
       ·have := HP3.out
        rw [hke, Int.toNat_natCast, List.take_length] at this
        rw [e1, HTK.out, pilesFrom_snoc]
        have e2 : ((0 + (ls.take i.toNat).length : Nat) : Int) = i := by rw [List.length_take]; omega
        rw [e2]
        exact this
      have HFIN := Aside0.mk hfin
      clear hfin hke
      go_wp2
      go_roundw
      case rel => exact ⟨i + 1, by go_num, HFIN⟩
      case measure => simp [intOf]; omega
  ·have c1b : decide (i < (ls.length : Int)) = false := decide_eq_false hlt
   have hend : i = ls.length := by omega
   have hall : ls.all goodTree = true := by
    rw [List.all_eq_true]
    intro t ht
    refine HR.out.2.2.1 t ?_
    rw [hend, Int.toNat_natCast, List.take_length]
    exact ht
   have hP : PileAt wr W.heap.size g d1 d2 m (pilesFrom 0 [] ls) := by
    have := HP.out
    rw [hend, Int.toNat_natCast, List.take_length] at this
    exact this
   have HP9 := Aside0.mk hP
   have HALL := Aside0.mk hall
   have hplen := pilesFrom_len ls 10000 (fun t ht => (HZ.out.2 t ht).1) 0 []
   generalize hpe : pilesFrom 0 [] ls = sp at hplen
   rw [hpe] at HP9
   have HPE := Aside0.mk hpe
   clear hpe hP hall HP hend
   by_cases hbig : 4096 < sp.length
   ·have g1 : (4096 : Int) < (sp.length : Int) := by omega
    have g2 : decide ((sp.length : Int) > 4096) = true := decide_eq_true g1
    have hu : unionF ls = ([], 10) := by unfold unionF; rw [HALL.out, HPE.out, if_pos rfl, if_pos hbig]
    have HU := Aside0.mk hu
    clear hu
    go_wp2_with (first
     | (go_at_call 31; refine (Len_calls W.heap.size g d1 d2 m sp _ HP9.out).mono ?_; rintro e w3 ⟨rfl, hb3⟩; have HB3 := Aside0.mk hb3; clear hb3)
     | fail)
    rw [← hQ.out, HU.out]
    exact ⟨_, rfl, Kd.V_nil _ _ _ _ _, HB.out.trans (HB3.out.mono HB.out.size)⟩
   ·have g1 : ¬ (4096 : Int) < (sp.length : Int) := by omega
    have g2 : decide ((sp.length : Int) > 4096) = false := decide_eq_false g1
    have g3 : (sp.length : Int) ≤ 4096 := by omega
    have hu : unionF ls = (treeE sp, 0) := by unfold unionF; rw [HALL.out, HPE.out, if_pos rfl, if_neg hbig]
    have HU := Aside0.mk hu
    have hs6 : sp.length ≤ 1000000 := by omega
    have HS6 := Aside0.mk hs6
    clear hu hs6
    go_wp2_with (first
     | (go_at_call 31; refine (Len_calls W.heap.size g d1 d2 m sp _ HP9.out).mono ?_; rintro e w3 ⟨rfl, hb3⟩; have HP3 := Aside0.mk (HP9.out.below hb3); have HB3 := Aside0.mk (HB.out.trans (hb3.mono HB.out.size)); clear hb3)
     | (go_at_call 30; refine (Tree_calls W.heap.size g d1 d2 m sp _ HP3.out HS6.out).mono ?_; rintro e w4 ⟨v, rfl, hN4, hb4⟩; have HN4 := Aside0.mk hN4; have HB4 := Aside0.mk hb4; obtain ⟨Av, cv, rfl⟩ := Kd.N_slice hN4; clear hN4 hb4)
     | fail)
    rw [← hQ.out, HU.out]
    exact ⟨_, rfl, Kd.V_lower (Kd.N_V (base' := W.heap.size) (Kd.N_mono HN4.out (fun k hk => by have := HB3.out.size; omega))) (Nat.le_refl _), HB3.out.trans (HB4.out.mono HB3.out.size)⟩
end Go.Proofs.YtfmphccoeinhcaaDoor

namespace Go.Proofs.YtfmphccoeinhcaaDoor
open Go.RowKit Go.Proofs.YtfmphccoeinhcaaDoor.Print Go.Proofs.YtfmphccoeinhcaaDoorW.PrintWords
set_option linter.unusedVariables false
section
variable {κ κ' κ'' : Type} {s : ByteArray → Option (κ × Node)} {t : ByteArray → Option (κ' × Node)} {u : ByteArray → Option (κ'' × Node)}
theorem file_same {a b : Node} (h : equalB a b = true) : a.f3 = 48 ↔ b.f3 = 48 := by rw [(equalB_iff.1 h).2.2.1]
theorem SameSrc.symm (h : SameSrc s t) : SameSrc t s := by
 refine ⟨fun p => ?_, fun p q k x k' x' l y l' y' a b c d f g => ?_⟩
 ·rcases h.data p with ⟨a, b⟩ | ⟨k, x, k', x', a, b, c⟩
  ·exact .inl ⟨b, a⟩
  ·exact .inr ⟨k', x', k, x, b, a, equalB_symm c⟩
 ·have e : ∀ p k x k' x', s p = some (k, x) → t p = some (k', x') → equalB x x' = true := fun p k x k' x' h1 h2 => by
   rcases h.data p with ⟨a, _⟩ | ⟨_, _, _, _, a, b, c⟩
   ·rw [a] at h1; cases h1
   ·rw [a] at h1; rw [b] at h2; cases h1; cases h2; exact c
  exact (h.cls p q k' x' k x l' y' l y b a d c ((file_same (e _ _ _ _ _ b a)).2 f) ((file_same (e _ _ _ _ _ d c)).2 g)).symm
theorem SameSrc.trans (h : SameSrc s t) (i : SameSrc t u) : SameSrc s u := by
 refine ⟨fun p => ?_, fun p q k x k' x' l y l' y' a b c d f g => ?_⟩
 ·rcases h.data p with ⟨a, b⟩ | ⟨k, x, k', x', a, b, c⟩
  ·rcases i.data p with ⟨a2, b2⟩ | ⟨k2, x2, k3, x3, a2, b2, c2⟩
   ·exact .inl ⟨a, b2⟩
   ·rw [b] at a2; cases a2
  ·rcases i.data p with ⟨a2, b2⟩ | ⟨k2, x2, k3, x3, a2, b2, c2⟩
   ·rw [b] at a2; cases a2
   ·rw [b] at a2
    cases a2
    exact .inr ⟨k, x, k3, x3, a, b2, equalB_trans c c2⟩
 ·rcases h.data p with ⟨a2, _⟩ | ⟨_, _, kt, xt, a2, bt, ct⟩
  ·rw [a2] at a; cases a
  ·rcases h.data q with ⟨a3, _⟩ | ⟨_, _, lt, yt, a3, bt', ct'⟩
   ·rw [a3] at c; cases c
   ·rw [a2] at a
    rw [a3] at c
    cases a
    cases c
    exact (h.cls p q k x kt xt l y lt yt a2 bt a3 bt' f g).trans (i.cls p q kt xt k' x' lt yt l' y' bt b bt' d ((file_same ct).1 f) ((file_same ct').1 g))
end
def keepStep (t : List Node) (s : PL) (p : ByteArray) : PL := match findF t p with
 | some x => putE s ⟨p, x, 0⟩
 | none => s
def keepPile (t : List Node) (ps : List ByteArray) : PL := ps.foldl (keepStep t) []
def keepF (t : List Node) (ps : List ByteArray) : List Node × Int := if goodTree t = true then (treeE (keepPile t ps), 0) else ([], 1)
def leftB (b : List Node) (whole : Bool) (x : Node) : Bool := match findF b x.f0 with
 | none => true
 | some y => whole && !equalB x y
def subPaths (a b : List Node) (whole : Bool) : List ByteArray := (a.filter (leftB b whole)).map (fun x => x.f0)
def subF (a b : List Node) (whole : Bool) : List Node × Int := if goodTree a = true ∧ goodTree b = true then keepF a (subPaths a b whole) else ([], 1)
end Go.Proofs.YtfmphccoeinhcaaDoor
