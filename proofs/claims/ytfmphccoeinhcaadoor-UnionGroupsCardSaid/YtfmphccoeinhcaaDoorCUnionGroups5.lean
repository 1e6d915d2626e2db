/-
  Part of the proof that UnionGroups answers true: texts put together (wip/bundle.py).
-/
import Derived.Test.YtfmphccoeinhcaaDoorCUnionGroups4
import Derived.SizedLaws
import Derived.ChangeSlices
import Derived.OpenShut
namespace Go.Proofs.YtfmphccoeinhcaaDoor.Print
open Go.RowKit Go.Proofs.YtfmphccoeinhcaaDoorW.PrintWords Go.Proofs.YtfmphccoeinhcaaDoorW.PrintLast Go.Proofs.YtfmphccoeinhcaaDoorW.PrintMore
attribute [local go_sem] max2_int min2_int max_two min_two max_three min_three max_four min_four   -- for this text's walks alone
set_option linter.unusedVariables false
set_option linter.unusedSimpArgs false
attribute [local go_sem high] eqA24
def bindleref08_Equal.f (a0_0 : ByteArray) (a0_1 : ByteArray) (a0_2 : ByteArray) (a0_3 : Int) (a0_4 : Int) (a0_5 : Int) (a0_6 : Int) (a0_7 : Int) (l0_8 : List Int) (a1_0 : ByteArray) (a1_1 : ByteArray) (a1_2 : ByteArray) (a1_3 : Int) (a1_4 : Int) (a1_5 : Int) (a1_6 : Int) (a1_7 : Int) (l1_8 : List Int) : Option (Bool) := if a0_0.toList = a1_0.toList then (if a0_3 = a1_3 then (if (a0_4 == a1_4 && (a0_5 == a1_5 && (a0_6 == a1_6 && (a0_7 == a1_7)))) = true then (if a0_1.toList = a1_1.toList then (some ((strOfNums l0_8).toList == (strOfNums l1_8).toList)) else (some false)) else (some false)) else (some false)) else (some false)
set_option maxHeartbeats 8000000 in
set_option maxRecDepth 100000 in
theorem bindleref08_Equal.calls (a0_0 : ByteArray) (a0_1 : ByteArray) (a0_2 : ByteArray) (a0_3 : Int) (a0_4 : Int) (a0_5 : Int) (a0_6 : Int) (a0_7 : Int) (A0_8 : Option Addr) (c0_8 : Nat) (l0_8 : List Int) (a1_0 : ByteArray) (a1_1 : ByteArray) (a1_2 : ByteArray) (a1_3 : Int) (a1_4 : Int) (a1_5 : Int) (a1_6 : Int) (a1_7 : Int) (A1_8 : Option Addr) (c1_8 : Nat) (l1_8 : List Int) (r : Bool) (w : World) (hr0_8 : Kd.C (Kd.int .u8) w A0_8 l0_8.length l0_8) (hc0_8 : l0_8.length ≤ c0_8) (hr1_8 : Kd.C (Kd.int .u8) w A1_8 l1_8.length l1_8) (hc1_8 : l1_8.length ≤ c1_8) (h : bindleref08_Equal.f a0_0 a0_1 a0_2 a0_3 a0_4 a0_5 a0_6 a0_7 l0_8 a1_0 a1_1 a1_2 a1_3 a1_4 a1_5 a1_6 a1_7 l1_8 = some r) :
  Calls Tryd.prog 20 #[.agg #[.string a0_0, .string a0_1, .string a0_2, .int .u8 a0_3, .int .i64 a0_4, .int .i64 a0_5, .int .i64 a0_6, .int .i64 a0_7, .slice A0_8 l0_8.length c0_8], .agg #[.string a1_0, .string a1_1, .string a1_2, .int .u8 a1_3, .int .i64 a1_4, .int .i64 a1_5, .int .i64 a1_6, .int .i64 a1_7, .slice A1_8 l1_8.length c1_8]] w fun e w' => e = .returned (.bool r) ∧ Below w.heap.size w w' := by
 have hu38 := Tryd.underlying38
 have hu24 := Tryd.underlying24
 have HR0_8 := A0_ hr0_8
 have HC0_8 := A0_ hc0_8
 clear hr0_8 hc0_8
 have HR1_8 := A0_ hr1_8
 have HC1_8 := A0_ hc1_8
 clear hr1_8 hc1_8
 have HB := A0_ (Below.refl w.heap.size w)
 have H : (if a0_0.toList = a1_0.toList then (if a0_3 = a1_3 then (if (a0_4 == a1_4 && (a0_5 == a1_5 && (a0_6 == a1_6 && (a0_7 == a1_7)))) = true then (if a0_1.toList = a1_1.toList then (some ((strOfNums l0_8).toList == (strOfNums l1_8).toList)) else (some false)) else (some false)) else (some false)) else (some false)) = some r := h
 clear h
 by_cases c3 : a0_0.toList = a1_0.toList
 rotate_left
 ·rw [if_neg c3] at H
  have c3b0 : (a0_0.toList == a1_0.toList) = false := beq_eq_false_iff_ne.mpr c3
  have c3b1 : (a0_0.toList != a1_0.toList) = true := bne_iff_ne.mpr c3
  obtain rfl := Option.some.inj H
  go_enter Tryd.func20, Tryd.ntmps20
  go_wp2_with (first | ((with_reducible refine gate_dst (N := 2) rfl ?_); refine box_event ?hg (N := 2) ?hd (cs := #[.string a0_0, .string a0_1, .string a0_2, .int .u8 a0_3, .int .i64 a0_4, .int .i64 a0_5, .int .i64 a0_6, .int .i64 a0_7, .slice A0_8 l0_8.length c0_8]) (t := 38) ?hr ?_; (case hd => rfl); (case hg => rfl); (case hr => first | (go_simp; done) | (go_simp; rfl)); intro gb118 hg w29 hbox hb; have n0_ := A0_ (below_step (wb_ HB.out) hb); have n1_ := A0_ (hbox); have n2_ := A0_ ((by rw [hg]; exact (below_size (wb_ HB.out)) : w.heap.size ≤ gb118)); have n3_ := A0_ ((by rw [hg]; exact (below_size (wb_ HB.out)) : w.heap.size ≤ gb118)); clear HB; have HB := n0_; have BK118 := n1_; have GW118 := n2_; have GE118 := n3_; clear n0_ n1_ n2_ n3_; clear hb hbox hg) | ((with_reducible refine gate_dst (N := 3) rfl ?_); refine box_event ?hg (N := 3) ?hd (cs := #[.string a1_0, .string a1_1, .string a1_2, .int .u8 a1_3, .int .i64 a1_4, .int .i64 a1_5, .int .i64 a1_6, .int .i64 a1_7, .slice A1_8 l1_8.length c1_8]) (t := 38) ?hr ?_; (case hd => rfl); (case hg => rfl); (case hr => first | (go_simp; done) | (go_simp; rfl)); intro gb119 hg w30 hbox hb; have n0_ := A0_ (blk_below (g := gb118) (o := .cells #[.string a0_0, .string a0_1, .string a0_2, .int .u8 a0_3, .int .i64 a0_4, .int .i64 a0_5, .int .i64 a0_6, .int .i64 a0_7, .slice A0_8 l0_8.length c0_8] 38 (0, 0)) (wB_ BK118.out) hb); have n1_ := A0_ (below_step (wb1_ HB.out GE118.out) hb); have n2_ := A0_ (hbox); have n3_ := A0_ ((by rw [hg]; exact (below_size (wb1_ HB.out GE118.out)) : w.heap.size ≤ gb119)); have n4_ := A0_ ((by rw [hg]; exact (below_size (wb1_ HB.out GE118.out)) : w.heap.size ≤ gb119)); have n5_ := A0_ ((by rw [hg]; exact Nat.ne_of_lt (blk_lt (g := gb118) (o := .cells #[.string a0_0, .string a0_1, .string a0_2, .int .u8 a0_3, .int .i64 a0_4, .int .i64 a0_5, .int .i64 a0_6, .int .i64 a0_7, .slice A0_8 l0_8.length c0_8] 38 (0, 0)) (wB_ BK118.out)) : gb118 ≠ gb119)); have n6_ := A0_ ((by rw [hg]; exact Nat.ne_of_gt (blk_lt (g := gb118) (o := .cells #[.string a0_0, .string a0_1, .string a0_2, .int .u8 a0_3, .int .i64 a0_4, .int .i64 a0_5, .int .i64 a0_6, .int .i64 a0_7, .slice A0_8 l0_8.length c0_8] 38 (0, 0)) (wB_ BK118.out)) : gb119 ≠ gb118)); clear BK118; clear HB; have BK118 := n0_; have HB := n1_; have BK119 := n2_; have GW119 := n3_; have GE119 := n4_; have NB118_119 := n5_; have NB119_118 := n6_; clear n0_ n1_ n2_ n3_ n4_ n5_ n6_; clear hb hbox hg; have hnb31 := NB118_119.out; have hnc31 := NB119_118.out; have hcz32_0 : w30.cell? ⟨gb118, 0, none⟩ = some (.string a0_0) := (bc_ BK118.out 0).trans rfl; have hcz32_1 : w30.cell? ⟨gb118, 1, none⟩ = some (.string a0_1) := (bc_ BK118.out 1).trans rfl; have hcz32_2 : w30.cell? ⟨gb118, 2, none⟩ = some (.string a0_2) := (bc_ BK118.out 2).trans rfl; have hcz32_3 : w30.cell? ⟨gb118, 3, none⟩ = some (.int .u8 a0_3) := (bc_ BK118.out 3).trans rfl; have hcz32_4 : w30.cell? ⟨gb118, 4, none⟩ = some (.int .i64 a0_4) := (bc_ BK118.out 4).trans rfl; have hcz32_5 : w30.cell? ⟨gb118, 5, none⟩ = some (.int .i64 a0_5) := (bc_ BK118.out 5).trans rfl; have hcz32_6 : w30.cell? ⟨gb118, 6, none⟩ = some (.int .i64 a0_6) := (bc_ BK118.out 6).trans rfl; have hcz32_7 : w30.cell? ⟨gb118, 7, none⟩ = some (.int .i64 a0_7) := (bc_ BK118.out 7).trans rfl; have hcz32_8 : w30.cell? ⟨gb118, 8, none⟩ = some (.slice A0_8 l0_8.length c0_8) := (bc_ BK118.out 8).trans rfl; have hfz32_0 := bf_ BK118.out 0; have hfz32_1 := bf_ BK118.out 1; have hfz32_2 := bf_ BK118.out 2; have hfz32_3 := bf_ BK118.out 3; have hfz32_4 := bf_ BK118.out 4; have hfz32_5 := bf_ BK118.out 5; have hfz32_6 := bf_ BK118.out 6; have hfz32_7 := bf_ BK118.out 7; have hfz32_8 := bf_ BK118.out 8; have hcz33_0 : w30.cell? ⟨gb119, 0, none⟩ = some (.string a1_0) := (bc_ BK119.out 0).trans rfl; have hcz33_1 : w30.cell? ⟨gb119, 1, none⟩ = some (.string a1_1) := (bc_ BK119.out 1).trans rfl; have hcz33_2 : w30.cell? ⟨gb119, 2, none⟩ = some (.string a1_2) := (bc_ BK119.out 2).trans rfl; have hcz33_3 : w30.cell? ⟨gb119, 3, none⟩ = some (.int .u8 a1_3) := (bc_ BK119.out 3).trans rfl; have hcz33_4 : w30.cell? ⟨gb119, 4, none⟩ = some (.int .i64 a1_4) := (bc_ BK119.out 4).trans rfl; have hcz33_5 : w30.cell? ⟨gb119, 5, none⟩ = some (.int .i64 a1_5) := (bc_ BK119.out 5).trans rfl; have hcz33_6 : w30.cell? ⟨gb119, 6, none⟩ = some (.int .i64 a1_6) := (bc_ BK119.out 6).trans rfl; have hcz33_7 : w30.cell? ⟨gb119, 7, none⟩ = some (.int .i64 a1_7) := (bc_ BK119.out 7).trans rfl; have hcz33_8 : w30.cell? ⟨gb119, 8, none⟩ = some (.slice A1_8 l1_8.length c1_8) := (bc_ BK119.out 8).trans rfl; have hfz33_0 := bf_ BK119.out 0; have hfz33_1 := bf_ BK119.out 1; have hfz33_2 := bf_ BK119.out 2; have hfz33_3 := bf_ BK119.out 3; have hfz33_4 := bf_ BK119.out 4; have hfz33_5 := bf_ BK119.out 5; have hfz33_6 := bf_ BK119.out 6; have hfz33_7 := bf_ BK119.out 7; have hfz33_8 := bf_ BK119.out 8))
  go_ret
  exact ⟨we_, wb2_ HB.out GE118.out GE119.out⟩
 rw [if_pos c3] at H
 have c3b0 : (a0_0.toList == a1_0.toList) = true := beq_iff_eq.mpr c3
 have c3b1 : (a0_0.toList != a1_0.toList) = false := bne_eq_false_iff_eq.mpr c3
 clear c3
 by_cases c4 : a0_3 = a1_3
 rotate_left
 ·rw [if_neg c4] at H
  have c4b0 : (a0_3 == a1_3) = false := beq_eq_false_iff_ne.mpr c4
  have c4b1 : (a0_3 != a1_3) = true := bne_iff_ne.mpr c4
  obtain rfl := Option.some.inj H
  go_enter Tryd.func20, Tryd.ntmps20
  go_wp2_with (first | ((with_reducible refine gate_dst (N := 2) rfl ?_); refine box_event ?hg (N := 2) ?hd (cs := #[.string a0_0, .string a0_1, .string a0_2, .int .u8 a0_3, .int .i64 a0_4, .int .i64 a0_5, .int .i64 a0_6, .int .i64 a0_7, .slice A0_8 l0_8.length c0_8]) (t := 38) ?hr ?_; (case hd => rfl); (case hg => rfl); (case hr => first | (go_simp; done) | (go_simp; rfl)); intro gb118 hg w24 hbox hb; have n0_ := A0_ (below_step (wb_ HB.out) hb); have n1_ := A0_ (hbox); have n2_ := A0_ ((by rw [hg]; exact (below_size (wb_ HB.out)) : w.heap.size ≤ gb118)); have n3_ := A0_ ((by rw [hg]; exact (below_size (wb_ HB.out)) : w.heap.size ≤ gb118)); clear HB; have HB := n0_; have BK118 := n1_; have GW118 := n2_; have GE118 := n3_; clear n0_ n1_ n2_ n3_; clear hb hbox hg) | ((with_reducible refine gate_dst (N := 3) rfl ?_); refine box_event ?hg (N := 3) ?hd (cs := #[.string a1_0, .string a1_1, .string a1_2, .int .u8 a1_3, .int .i64 a1_4, .int .i64 a1_5, .int .i64 a1_6, .int .i64 a1_7, .slice A1_8 l1_8.length c1_8]) (t := 38) ?hr ?_; (case hd => rfl); (case hg => rfl); (case hr => first | (go_simp; done) | (go_simp; rfl)); intro gb119 hg w25 hbox hb; have n0_ := A0_ (blk_below (g := gb118) (o := .cells #[.string a0_0, .string a0_1, .string a0_2, .int .u8 a0_3, .int .i64 a0_4, .int .i64 a0_5, .int .i64 a0_6, .int .i64 a0_7, .slice A0_8 l0_8.length c0_8] 38 (0, 0)) (wB_ BK118.out) hb); have n1_ := A0_ (below_step (wb1_ HB.out GE118.out) hb); have n2_ := A0_ (hbox); have n3_ := A0_ ((by rw [hg]; exact (below_size (wb1_ HB.out GE118.out)) : w.heap.size ≤ gb119)); have n4_ := A0_ ((by rw [hg]; exact (below_size (wb1_ HB.out GE118.out)) : w.heap.size ≤ gb119)); have n5_ := A0_ ((by rw [hg]; exact Nat.ne_of_lt (blk_lt (g := gb118) (o := .cells #[.string a0_0, .string a0_1, .string a0_2, .int .u8 a0_3, .int .i64 a0_4, .int .i64 a0_5, .int .i64 a0_6, .int .i64 a0_7, .slice A0_8 l0_8.length c0_8] 38 (0, 0)) (wB_ BK118.out)) : gb118 ≠ gb119)); have n6_ := A0_ ((by rw [hg]; exact Nat.ne_of_gt (blk_lt (g := gb118) (o := .cells #[.string a0_0, .string a0_1, .string a0_2, .int .u8 a0_3, .int .i64 a0_4, .int .i64 a0_5, .int .i64 a0_6, .int .i64 a0_7, .slice A0_8 l0_8.length c0_8] 38 (0, 0)) (wB_ BK118.out)) : gb119 ≠ gb118)); clear BK118; clear HB; have BK118 := n0_; have HB := n1_; have BK119 := n2_; have GW119 := n3_; have GE119 := n4_; have NB118_119 := n5_; have NB119_118 := n6_; clear n0_ n1_ n2_ n3_ n4_ n5_ n6_; clear hb hbox hg; have hnb26 := NB118_119.out; have hnc26 := NB119_118.out; have hcz27_0 : w25.cell? ⟨gb118, 0, none⟩ = some (.string a0_0) := (bc_ BK118.out 0).trans rfl; have hcz27_1 : w25.cell? ⟨gb118, 1, none⟩ = some (.string a0_1) := (bc_ BK118.out 1).trans rfl; have hcz27_2 : w25.cell? ⟨gb118, 2, none⟩ = some (.string a0_2) := (bc_ BK118.out 2).trans rfl; have hcz27_3 : w25.cell? ⟨gb118, 3, none⟩ = some (.int .u8 a0_3) := (bc_ BK118.out 3).trans rfl; have hcz27_4 : w25.cell? ⟨gb118, 4, none⟩ = some (.int .i64 a0_4) := (bc_ BK118.out 4).trans rfl; have hcz27_5 : w25.cell? ⟨gb118, 5, none⟩ = some (.int .i64 a0_5) := (bc_ BK118.out 5).trans rfl; have hcz27_6 : w25.cell? ⟨gb118, 6, none⟩ = some (.int .i64 a0_6) := (bc_ BK118.out 6).trans rfl; have hcz27_7 : w25.cell? ⟨gb118, 7, none⟩ = some (.int .i64 a0_7) := (bc_ BK118.out 7).trans rfl; have hcz27_8 : w25.cell? ⟨gb118, 8, none⟩ = some (.slice A0_8 l0_8.length c0_8) := (bc_ BK118.out 8).trans rfl; have hfz27_0 := bf_ BK118.out 0; have hfz27_1 := bf_ BK118.out 1; have hfz27_2 := bf_ BK118.out 2; have hfz27_3 := bf_ BK118.out 3; have hfz27_4 := bf_ BK118.out 4; have hfz27_5 := bf_ BK118.out 5; have hfz27_6 := bf_ BK118.out 6; have hfz27_7 := bf_ BK118.out 7; have hfz27_8 := bf_ BK118.out 8; have hcz28_0 : w25.cell? ⟨gb119, 0, none⟩ = some (.string a1_0) := (bc_ BK119.out 0).trans rfl; have hcz28_1 : w25.cell? ⟨gb119, 1, none⟩ = some (.string a1_1) := (bc_ BK119.out 1).trans rfl; have hcz28_2 : w25.cell? ⟨gb119, 2, none⟩ = some (.string a1_2) := (bc_ BK119.out 2).trans rfl; have hcz28_3 : w25.cell? ⟨gb119, 3, none⟩ = some (.int .u8 a1_3) := (bc_ BK119.out 3).trans rfl; have hcz28_4 : w25.cell? ⟨gb119, 4, none⟩ = some (.int .i64 a1_4) := (bc_ BK119.out 4).trans rfl; have hcz28_5 : w25.cell? ⟨gb119, 5, none⟩ = some (.int .i64 a1_5) := (bc_ BK119.out 5).trans rfl; have hcz28_6 : w25.cell? ⟨gb119, 6, none⟩ = some (.int .i64 a1_6) := (bc_ BK119.out 6).trans rfl; have hcz28_7 : w25.cell? ⟨gb119, 7, none⟩ = some (.int .i64 a1_7) := (bc_ BK119.out 7).trans rfl; have hcz28_8 : w25.cell? ⟨gb119, 8, none⟩ = some (.slice A1_8 l1_8.length c1_8) := (bc_ BK119.out 8).trans rfl; have hfz28_0 := bf_ BK119.out 0; have hfz28_1 := bf_ BK119.out 1; have hfz28_2 := bf_ BK119.out 2; have hfz28_3 := bf_ BK119.out 3; have hfz28_4 := bf_ BK119.out 4; have hfz28_5 := bf_ BK119.out 5; have hfz28_6 := bf_ BK119.out 6; have hfz28_7 := bf_ BK119.out 7; have hfz28_8 := bf_ BK119.out 8))
  go_ret
  exact ⟨we_, wb2_ HB.out GE118.out GE119.out⟩
 rw [if_pos c4] at H
 have c4b0 : (a0_3 == a1_3) = true := beq_iff_eq.mpr c4
 have c4b1 : (a0_3 != a1_3) = false := bne_eq_false_iff_eq.mpr c4
 clear c4
 by_cases c5 : (a0_4 == a1_4 && (a0_5 == a1_5 && (a0_6 == a1_6 && (a0_7 == a1_7)))) = true
 rotate_left
 ·rw [if_neg c5] at H
  have c5b0 : (a0_4 == a1_4 && (a0_5 == a1_5 && (a0_6 == a1_6 && (a0_7 == a1_7)))) = false := by simpa using c5
  (try (have c5b1 : decide (a0_4 = a1_4 && (a0_5 == a1_5 && (a0_6 == a1_6 && (a0_7 == a1_7)))) = false := by simpa using c5))
  (try (have c5b2 : (a0_4 == a1_4 && (a0_5 == a1_5 && (a0_6 == a1_6 && (a0_7 == a1_7)))) = false := by simpa using c5))
  (try (have c5b3 : ¬ (a0_4 = a1_4 && (a0_5 == a1_5 && (a0_6 == a1_6 && (a0_7 == a1_7)))) := by simpa using c5))
  clear c5
  obtain rfl := Option.some.inj H
  go_enter Tryd.func20, Tryd.ntmps20
  go_wp2_with (first | ((with_reducible refine gate_dst (N := 2) rfl ?_); refine box_event ?hg (N := 2) ?hd (cs := #[.string a0_0, .string a0_1, .string a0_2, .int .u8 a0_3, .int .i64 a0_4, .int .i64 a0_5, .int .i64 a0_6, .int .i64 a0_7, .slice A0_8 l0_8.length c0_8]) (t := 38) ?hr ?_; (case hd => rfl); (case hg => rfl); (case hr => first | (go_simp; done) | (go_simp; rfl)); intro gb118 hg w19 hbox hb; have n0_ := A0_ (below_step (wb_ HB.out) hb); have n1_ := A0_ (hbox); have n2_ := A0_ ((by rw [hg]; exact (below_size (wb_ HB.out)) : w.heap.size ≤ gb118)); have n3_ := A0_ ((by rw [hg]; exact (below_size (wb_ HB.out)) : w.heap.size ≤ gb118)); clear HB; have HB := n0_; have BK118 := n1_; have GW118 := n2_; have GE118 := n3_; clear n0_ n1_ n2_ n3_; clear hb hbox hg) | ((with_reducible refine gate_dst (N := 3) rfl ?_); refine box_event ?hg (N := 3) ?hd (cs := #[.string a1_0, .string a1_1, .string a1_2, .int .u8 a1_3, .int .i64 a1_4, .int .i64 a1_5, .int .i64 a1_6, .int .i64 a1_7, .slice A1_8 l1_8.length c1_8]) (t := 38) ?hr ?_; (case hd => rfl); (case hg => rfl); (case hr => first | (go_simp; done) | (go_simp; rfl)); intro gb119 hg w20 hbox hb; have n0_ := A0_ (blk_below (g := gb118) (o := .cells #[.string a0_0, .string a0_1, .string a0_2, .int .u8 a0_3, .int .i64 a0_4, .int .i64 a0_5, .int .i64 a0_6, .int .i64 a0_7, .slice A0_8 l0_8.length c0_8] 38 (0, 0)) (wB_ BK118.out) hb); have n1_ := A0_ (below_step (wb1_ HB.out GE118.out) hb); have n2_ := A0_ (hbox); have n3_ := A0_ ((by rw [hg]; exact (below_size (wb1_ HB.out GE118.out)) : w.heap.size ≤ gb119)); have n4_ := A0_ ((by rw [hg]; exact (below_size (wb1_ HB.out GE118.out)) : w.heap.size ≤ gb119)); have n5_ := A0_ ((by rw [hg]; exact Nat.ne_of_lt (blk_lt (g := gb118) (o := .cells #[.string a0_0, .string a0_1, .string a0_2, .int .u8 a0_3, .int .i64 a0_4, .int .i64 a0_5, .int .i64 a0_6, .int .i64 a0_7, .slice A0_8 l0_8.length c0_8] 38 (0, 0)) (wB_ BK118.out)) : gb118 ≠ gb119)); have n6_ := A0_ ((by rw [hg]; exact Nat.ne_of_gt (blk_lt (g := gb118) (o := .cells #[.string a0_0, .string a0_1, .string a0_2, .int .u8 a0_3, .int .i64 a0_4, .int .i64 a0_5, .int .i64 a0_6, .int .i64 a0_7, .slice A0_8 l0_8.length c0_8] 38 (0, 0)) (wB_ BK118.out)) : gb119 ≠ gb118)); clear BK118; clear HB; have BK118 := n0_; have HB := n1_; have BK119 := n2_; have GW119 := n3_; have GE119 := n4_; have NB118_119 := n5_; have NB119_118 := n6_; clear n0_ n1_ n2_ n3_ n4_ n5_ n6_; clear hb hbox hg; have hnb21 := NB118_119.out; have hnc21 := NB119_118.out; have hcz22_0 : w20.cell? ⟨gb118, 0, none⟩ = some (.string a0_0) := (bc_ BK118.out 0).trans rfl; have hcz22_1 : w20.cell? ⟨gb118, 1, none⟩ = some (.string a0_1) := (bc_ BK118.out 1).trans rfl; have hcz22_2 : w20.cell? ⟨gb118, 2, none⟩ = some (.string a0_2) := (bc_ BK118.out 2).trans rfl; have hcz22_3 : w20.cell? ⟨gb118, 3, none⟩ = some (.int .u8 a0_3) := (bc_ BK118.out 3).trans rfl; have hcz22_4 : w20.cell? ⟨gb118, 4, none⟩ = some (.int .i64 a0_4) := (bc_ BK118.out 4).trans rfl; have hcz22_5 : w20.cell? ⟨gb118, 5, none⟩ = some (.int .i64 a0_5) := (bc_ BK118.out 5).trans rfl; have hcz22_6 : w20.cell? ⟨gb118, 6, none⟩ = some (.int .i64 a0_6) := (bc_ BK118.out 6).trans rfl; have hcz22_7 : w20.cell? ⟨gb118, 7, none⟩ = some (.int .i64 a0_7) := (bc_ BK118.out 7).trans rfl; have hcz22_8 : w20.cell? ⟨gb118, 8, none⟩ = some (.slice A0_8 l0_8.length c0_8) := (bc_ BK118.out 8).trans rfl; have hfz22_0 := bf_ BK118.out 0; have hfz22_1 := bf_ BK118.out 1; have hfz22_2 := bf_ BK118.out 2; have hfz22_3 := bf_ BK118.out 3; have hfz22_4 := bf_ BK118.out 4; have hfz22_5 := bf_ BK118.out 5; have hfz22_6 := bf_ BK118.out 6; have hfz22_7 := bf_ BK118.out 7; have hfz22_8 := bf_ BK118.out 8; have hcz23_0 : w20.cell? ⟨gb119, 0, none⟩ = some (.string a1_0) := (bc_ BK119.out 0).trans rfl; have hcz23_1 : w20.cell? ⟨gb119, 1, none⟩ = some (.string a1_1) := (bc_ BK119.out 1).trans rfl; have hcz23_2 : w20.cell? ⟨gb119, 2, none⟩ = some (.string a1_2) := (bc_ BK119.out 2).trans rfl; have hcz23_3 : w20.cell? ⟨gb119, 3, none⟩ = some (.int .u8 a1_3) := (bc_ BK119.out 3).trans rfl; have hcz23_4 : w20.cell? ⟨gb119, 4, none⟩ = some (.int .i64 a1_4) := (bc_ BK119.out 4).trans rfl; have hcz23_5 : w20.cell? ⟨gb119, 5, none⟩ = some (.int .i64 a1_5) := (bc_ BK119.out 5).trans rfl; have hcz23_6 : w20.cell? ⟨gb119, 6, none⟩ = some (.int .i64 a1_6) := (bc_ BK119.out 6).trans rfl; have hcz23_7 : w20.cell? ⟨gb119, 7, none⟩ = some (.int .i64 a1_7) := (bc_ BK119.out 7).trans rfl; have hcz23_8 : w20.cell? ⟨gb119, 8, none⟩ = some (.slice A1_8 l1_8.length c1_8) := (bc_ BK119.out 8).trans rfl; have hfz23_0 := bf_ BK119.out 0; have hfz23_1 := bf_ BK119.out 1; have hfz23_2 := bf_ BK119.out 2; have hfz23_3 := bf_ BK119.out 3; have hfz23_4 := bf_ BK119.out 4; have hfz23_5 := bf_ BK119.out 5; have hfz23_6 := bf_ BK119.out 6; have hfz23_7 := bf_ BK119.out 7; have hfz23_8 := bf_ BK119.out 8))
  go_ret
  exact ⟨we_, wb2_ HB.out GE118.out GE119.out⟩
 rw [if_pos c5] at H
 have c5b0 : (a0_4 == a1_4 && (a0_5 == a1_5 && (a0_6 == a1_6 && (a0_7 == a1_7)))) = true := c5
 (try (have c5b1 : decide (a0_4 = a1_4 && (a0_5 == a1_5 && (a0_6 == a1_6 && (a0_7 == a1_7)))) = true := by simpa using c5))
 (try (have c5b2 : (a0_4 == a1_4 && (a0_5 == a1_5 && (a0_6 == a1_6 && (a0_7 == a1_7)))) = true := by simpa using c5))
 clear c5
 by_cases c6 : a0_1.toList = a1_1.toList
 rotate_left
 ·rw [if_neg c6] at H
  have c6b0 : (a0_1.toList == a1_1.toList) = false := beq_eq_false_iff_ne.mpr c6
  have c6b1 : (a0_1.toList != a1_1.toList) = true := bne_iff_ne.mpr c6
  obtain rfl := Option.some.inj H
  go_enter Tryd.func20, Tryd.ntmps20
  go_wp2_with (first | ((with_reducible refine gate_dst (N := 2) rfl ?_); refine box_event ?hg (N := 2) ?hd (cs := #[.string a0_0, .string a0_1, .string a0_2, .int .u8 a0_3, .int .i64 a0_4, .int .i64 a0_5, .int .i64 a0_6, .int .i64 a0_7, .slice A0_8 l0_8.length c0_8]) (t := 38) ?hr ?_; (case hd => rfl); (case hg => rfl); (case hr => first | (go_simp; done) | (go_simp; rfl)); intro gb118 hg w14 hbox hb; have n0_ := A0_ (below_step (wb_ HB.out) hb); have n1_ := A0_ (hbox); have n2_ := A0_ ((by rw [hg]; exact (below_size (wb_ HB.out)) : w.heap.size ≤ gb118)); have n3_ := A0_ ((by rw [hg]; exact (below_size (wb_ HB.out)) : w.heap.size ≤ gb118)); clear HB; have HB := n0_; have BK118 := n1_; have GW118 := n2_; have GE118 := n3_; clear n0_ n1_ n2_ n3_; clear hb hbox hg) | ((with_reducible refine gate_dst (N := 3) rfl ?_); refine box_event ?hg (N := 3) ?hd (cs := #[.string a1_0, .string a1_1, .string a1_2, .int .u8 a1_3, .int .i64 a1_4, .int .i64 a1_5, .int .i64 a1_6, .int .i64 a1_7, .slice A1_8 l1_8.length c1_8]) (t := 38) ?hr ?_; (case hd => rfl); (case hg => rfl); (case hr => first | (go_simp; done) | (go_simp; rfl)); intro gb119 hg w15 hbox hb; have n0_ := A0_ (blk_below (g := gb118) (o := .cells #[.string a0_0, .string a0_1, .string a0_2, .int .u8 a0_3, .int .i64 a0_4, .int .i64 a0_5, .int .i64 a0_6, .int .i64 a0_7, .slice A0_8 l0_8.length c0_8] 38 (0, 0)) (wB_ BK118.out) hb); have n1_ := A0_ (below_step (wb1_ HB.out GE118.out) hb); have n2_ := A0_ (hbox); have n3_ := A0_ ((by rw [hg]; exact (below_size (wb1_ HB.out GE118.out)) : w.heap.size ≤ gb119)); have n4_ := A0_ ((by rw [hg]; exact (below_size (wb1_ HB.out GE118.out)) : w.heap.size ≤ gb119)); have n5_ := A0_ ((by rw [hg]; exact Nat.ne_of_lt (blk_lt (g := gb118) (o := .cells #[.string a0_0, .string a0_1, .string a0_2, .int .u8 a0_3, .int .i64 a0_4, .int .i64 a0_5, .int .i64 a0_6, .int .i64 a0_7, .slice A0_8 l0_8.length c0_8] 38 (0, 0)) (wB_ BK118.out)) : gb118 ≠ gb119)); have n6_ := A0_ ((by rw [hg]; exact Nat.ne_of_gt (blk_lt (g := gb118) (o := .cells #[.string a0_0, .string a0_1, .string a0_2, .int .u8 a0_3, .int .i64 a0_4, .int .i64 a0_5, .int .i64 a0_6, .int .i64 a0_7, .slice A0_8 l0_8.length c0_8] 38 (0, 0)) (wB_ BK118.out)) : gb119 ≠ gb118)); clear BK118; clear HB; have BK118 := n0_; have HB := n1_; have BK119 := n2_; have GW119 := n3_; have GE119 := n4_; have NB118_119 := n5_; have NB119_118 := n6_; clear n0_ n1_ n2_ n3_ n4_ n5_ n6_; clear hb hbox hg; have hnb16 := NB118_119.out; have hnc16 := NB119_118.out; have hcz17_0 : w15.cell? ⟨gb118, 0, none⟩ = some (.string a0_0) := (bc_ BK118.out 0).trans rfl; have hcz17_1 : w15.cell? ⟨gb118, 1, none⟩ = some (.string a0_1) := (bc_ BK118.out 1).trans rfl; have hcz17_2 : w15.cell? ⟨gb118, 2, none⟩ = some (.string a0_2) := (bc_ BK118.out 2).trans rfl; have hcz17_3 : w15.cell? ⟨gb118, 3, none⟩ = some (.int .u8 a0_3) := (bc_ BK118.out 3).trans rfl; have hcz17_4 : w15.cell? ⟨gb118, 4, none⟩ = some (.int .i64 a0_4) := (bc_ BK118.out 4).trans rfl; have hcz17_5 : w15.cell? ⟨gb118, 5, none⟩ = some (.int .i64 a0_5) := (bc_ BK118.out 5).trans rfl; have hcz17_6 : w15.cell? ⟨gb118, 6, none⟩ = some (.int .i64 a0_6) := (bc_ BK118.out 6).trans rfl; have hcz17_7 : w15.cell? ⟨gb118, 7, none⟩ = some (.int .i64 a0_7) := (bc_ BK118.out 7).trans rfl; have hcz17_8 : w15.cell? ⟨gb118, 8, none⟩ = some (.slice A0_8 l0_8.length c0_8) := (bc_ BK118.out 8).trans rfl; have hfz17_0 := bf_ BK118.out 0; have hfz17_1 := bf_ BK118.out 1; have hfz17_2 := bf_ BK118.out 2; have hfz17_3 := bf_ BK118.out 3; have hfz17_4 := bf_ BK118.out 4; have hfz17_5 := bf_ BK118.out 5; have hfz17_6 := bf_ BK118.out 6; have hfz17_7 := bf_ BK118.out 7; have hfz17_8 := bf_ BK118.out 8; have hcz18_0 : w15.cell? ⟨gb119, 0, none⟩ = some (.string a1_0) := (bc_ BK119.out 0).trans rfl; have hcz18_1 : w15.cell? ⟨gb119, 1, none⟩ = some (.string a1_1) := (bc_ BK119.out 1).trans rfl; have hcz18_2 : w15.cell? ⟨gb119, 2, none⟩ = some (.string a1_2) := (bc_ BK119.out 2).trans rfl; have hcz18_3 : w15.cell? ⟨gb119, 3, none⟩ = some (.int .u8 a1_3) := (bc_ BK119.out 3).trans rfl; have hcz18_4 : w15.cell? ⟨gb119, 4, none⟩ = some (.int .i64 a1_4) := (bc_ BK119.out 4).trans rfl; have hcz18_5 : w15.cell? ⟨gb119, 5, none⟩ = some (.int .i64 a1_5) := (bc_ BK119.out 5).trans rfl; have hcz18_6 : w15.cell? ⟨gb119, 6, none⟩ = some (.int .i64 a1_6) := (bc_ BK119.out 6).trans rfl; have hcz18_7 : w15.cell? ⟨gb119, 7, none⟩ = some (.int .i64 a1_7) := (bc_ BK119.out 7).trans rfl; have hcz18_8 : w15.cell? ⟨gb119, 8, none⟩ = some (.slice A1_8 l1_8.length c1_8) := (bc_ BK119.out 8).trans rfl; have hfz18_0 := bf_ BK119.out 0; have hfz18_1 := bf_ BK119.out 1; have hfz18_2 := bf_ BK119.out 2; have hfz18_3 := bf_ BK119.out 3; have hfz18_4 := bf_ BK119.out 4; have hfz18_5 := bf_ BK119.out 5; have hfz18_6 := bf_ BK119.out 6; have hfz18_7 := bf_ BK119.out 7; have hfz18_8 := bf_ BK119.out 8))
  go_ret
  exact ⟨we_, wb2_ HB.out GE118.out GE119.out⟩
 rw [if_pos c6] at H
 have c6b0 : (a0_1.toList == a1_1.toList) = true := beq_iff_eq.mpr c6
 have c6b1 : (a0_1.toList != a1_1.toList) = false := bne_eq_false_iff_eq.mpr c6
 clear c6
 obtain rfl := Option.some.inj H
 go_enter Tryd.func20, Tryd.ntmps20
 go_wp2_with (first | ((with_reducible refine gate_dst (N := 2) rfl ?_); refine box_event ?hg (N := 2) ?hd (cs := #[.string a0_0, .string a0_1, .string a0_2, .int .u8 a0_3, .int .i64 a0_4, .int .i64 a0_5, .int .i64 a0_6, .int .i64 a0_7, .slice A0_8 l0_8.length c0_8]) (t := 38) ?hr ?_; (case hd => rfl); (case hg => rfl); (case hr => first | (go_simp; done) | (go_simp; rfl)); intro gb118 hg w7 hbox hb; have n0_ := A0_ (below_step (wb_ HB.out) hb); have n1_ := A0_ (hbox); have n2_ := A0_ ((by rw [hg]; exact (below_size (wb_ HB.out)) : w.heap.size ≤ gb118)); have n3_ := A0_ ((by rw [hg]; exact (below_size (wb_ HB.out)) : w.heap.size ≤ gb118)); clear HB; have HB := n0_; have BK118 := n1_; have GW118 := n2_; have GE118 := n3_; clear n0_ n1_ n2_ n3_; clear hb hbox hg) | ((with_reducible refine gate_dst (N := 3) rfl ?_); refine box_event ?hg (N := 3) ?hd (cs := #[.string a1_0, .string a1_1, .string a1_2, .int .u8 a1_3, .int .i64 a1_4, .int .i64 a1_5, .int .i64 a1_6, .int .i64 a1_7, .slice A1_8 l1_8.length c1_8]) (t := 38) ?hr ?_; (case hd => rfl); (case hg => rfl); (case hr => first | (go_simp; done) | (go_simp; rfl)); intro gb119 hg w8 hbox hb; have n0_ := A0_ (blk_below (g := gb118) (o := .cells #[.string a0_0, .string a0_1, .string a0_2, .int .u8 a0_3, .int .i64 a0_4, .int .i64 a0_5, .int .i64 a0_6, .int .i64 a0_7, .slice A0_8 l0_8.length c0_8] 38 (0, 0)) (wB_ BK118.out) hb); have n1_ := A0_ (below_step (wb1_ HB.out GE118.out) hb); have n2_ := A0_ (hbox); have n3_ := A0_ ((by rw [hg]; exact (below_size (wb1_ HB.out GE118.out)) : w.heap.size ≤ gb119)); have n4_ := A0_ ((by rw [hg]; exact (below_size (wb1_ HB.out GE118.out)) : w.heap.size ≤ gb119)); have n5_ := A0_ ((by rw [hg]; exact Nat.ne_of_lt (blk_lt (g := gb118) (o := .cells #[.string a0_0, .string a0_1, .string a0_2, .int .u8 a0_3, .int .i64 a0_4, .int .i64 a0_5, .int .i64 a0_6, .int .i64 a0_7, .slice A0_8 l0_8.length c0_8] 38 (0, 0)) (wB_ BK118.out)) : gb118 ≠ gb119)); have n6_ := A0_ ((by rw [hg]; exact Nat.ne_of_gt (blk_lt (g := gb118) (o := .cells #[.string a0_0, .string a0_1, .string a0_2, .int .u8 a0_3, .int .i64 a0_4, .int .i64 a0_5, .int .i64 a0_6, .int .i64 a0_7, .slice A0_8 l0_8.length c0_8] 38 (0, 0)) (wB_ BK118.out)) : gb119 ≠ gb118)); clear BK118; clear HB; have BK118 := n0_; have HB := n1_; have BK119 := n2_; have GW119 := n3_; have GE119 := n4_; have NB118_119 := n5_; have NB119_118 := n6_; clear n0_ n1_ n2_ n3_ n4_ n5_ n6_; clear hb hbox hg; have hnb9 := NB118_119.out; have hnc9 := NB119_118.out; have hcz10_0 : w8.cell? ⟨gb118, 0, none⟩ = some (.string a0_0) := (bc_ BK118.out 0).trans rfl; have hcz10_1 : w8.cell? ⟨gb118, 1, none⟩ = some (.string a0_1) := (bc_ BK118.out 1).trans rfl; have hcz10_2 : w8.cell? ⟨gb118, 2, none⟩ = some (.string a0_2) := (bc_ BK118.out 2).trans rfl; have hcz10_3 : w8.cell? ⟨gb118, 3, none⟩ = some (.int .u8 a0_3) := (bc_ BK118.out 3).trans rfl; have hcz10_4 : w8.cell? ⟨gb118, 4, none⟩ = some (.int .i64 a0_4) := (bc_ BK118.out 4).trans rfl; have hcz10_5 : w8.cell? ⟨gb118, 5, none⟩ = some (.int .i64 a0_5) := (bc_ BK118.out 5).trans rfl; have hcz10_6 : w8.cell? ⟨gb118, 6, none⟩ = some (.int .i64 a0_6) := (bc_ BK118.out 6).trans rfl; have hcz10_7 : w8.cell? ⟨gb118, 7, none⟩ = some (.int .i64 a0_7) := (bc_ BK118.out 7).trans rfl; have hcz10_8 : w8.cell? ⟨gb118, 8, none⟩ = some (.slice A0_8 l0_8.length c0_8) := (bc_ BK118.out 8).trans rfl; have hfz10_0 := bf_ BK118.out 0; have hfz10_1 := bf_ BK118.out 1; have hfz10_2 := bf_ BK118.out 2; have hfz10_3 := bf_ BK118.out 3; have hfz10_4 := bf_ BK118.out 4; have hfz10_5 := bf_ BK118.out 5; have hfz10_6 := bf_ BK118.out 6; have hfz10_7 := bf_ BK118.out 7; have hfz10_8 := bf_ BK118.out 8; have hcz11_0 : w8.cell? ⟨gb119, 0, none⟩ = some (.string a1_0) := (bc_ BK119.out 0).trans rfl; have hcz11_1 : w8.cell? ⟨gb119, 1, none⟩ = some (.string a1_1) := (bc_ BK119.out 1).trans rfl; have hcz11_2 : w8.cell? ⟨gb119, 2, none⟩ = some (.string a1_2) := (bc_ BK119.out 2).trans rfl; have hcz11_3 : w8.cell? ⟨gb119, 3, none⟩ = some (.int .u8 a1_3) := (bc_ BK119.out 3).trans rfl; have hcz11_4 : w8.cell? ⟨gb119, 4, none⟩ = some (.int .i64 a1_4) := (bc_ BK119.out 4).trans rfl; have hcz11_5 : w8.cell? ⟨gb119, 5, none⟩ = some (.int .i64 a1_5) := (bc_ BK119.out 5).trans rfl; have hcz11_6 : w8.cell? ⟨gb119, 6, none⟩ = some (.int .i64 a1_6) := (bc_ BK119.out 6).trans rfl; have hcz11_7 : w8.cell? ⟨gb119, 7, none⟩ = some (.int .i64 a1_7) := (bc_ BK119.out 7).trans rfl; have hcz11_8 : w8.cell? ⟨gb119, 8, none⟩ = some (.slice A1_8 l1_8.length c1_8) := (bc_ BK119.out 8).trans rfl; have hfz11_0 := bf_ BK119.out 0; have hfz11_1 := bf_ BK119.out 1; have hfz11_2 := bf_ BK119.out 2; have hfz11_3 := bf_ BK119.out 3; have hfz11_4 := bf_ BK119.out 4; have hfz11_5 := bf_ BK119.out 5; have hfz11_6 := bf_ BK119.out 6; have hfz11_7 := bf_ BK119.out 7; have hfz11_8 := bf_ BK119.out 8; have hcv12 := Kd.C_string (P := Tryd.prog) (A := A0_8) (c := c0_8) Tryd.underlying25 Tryd.underlying5 Tryd.underlying9 (Kd.C_below HR0_8.out HB.out); have hcv13 := Kd.C_string (P := Tryd.prog) (A := A1_8) (c := c1_8) Tryd.underlying25 Tryd.underlying5 Tryd.underlying9 (Kd.C_below HR1_8.out HB.out)))
 go_ret
 exact ⟨we_, wb2_ HB.out GE118.out GE119.out⟩
end Go.Proofs.YtfmphccoeinhcaaDoor.Print

namespace Go.Proofs.YtfmphccoeinhcaaDoor.Print
open Go.RowKit Go.Proofs.YtfmphccoeinhcaaDoorW.PrintWords Go.Proofs.YtfmphccoeinhcaaDoorW.PrintLast Go.Proofs.YtfmphccoeinhcaaDoorW.PrintMore
attribute [local go_sem] max2_int min2_int max_two min_two max_three min_three max_four min_four   -- for this text's walks alone
set_option linter.unusedVariables false
set_option linter.unusedSimpArgs false
abbrev q25_0 : Array Bool := #[false, false, false, false, false, false, false, false, false, false, false, false, false, false, false, false, false, false, false, false, false, false, false]
abbrev q25_1 : Array Bool := #[true, false, false, false, false, false, false, false, false, false, false, false, false, false, false, false, false, false, false, false, false, false, false]
abbrev q25_2 : Array Bool := #[true, true, false, false, false, false, false, false, false, false, false, false, false, false, false, false, false, false, false, false, false, false, false]
abbrev q25_3 : Array Bool := #[true, true, true, false, false, false, false, false, false, false, false, false, false, false, false, false, false, false, false, false, false, false, false]
abbrev q25_4 : Array Bool := #[true, true, true, true, false, false, false, false, false, false, false, false, false, false, false, false, false, false, false, false, false, false, false]
abbrev q25_5 : Array Bool := #[true, true, true, true, false, true, false, false, false, false, false, false, false, false, false, false, false, false, false, false, false, false, false]
abbrev q25_6 : Array Bool := #[true, true, true, true, false, true, true, false, false, false, false, false, false, false, false, false, false, false, false, false, false, false, false]
abbrev q25_7 : Array Bool := #[true, true, true, true, false, true, true, true, false, false, false, false, false, false, false, false, false, false, false, false, false, false, false]
abbrev q25_8 : Array Bool := #[true, true, true, true, false, true, true, true, true, false, false, false, false, false, false, false, false, false, false, false, false, false, false]
abbrev q25_9 : Array Bool := #[true, true, true, true, true, true, true, true, true, false, false, false, false, false, false, false, false, false, false, false, false, false, false]
abbrev q25_10 : Array Bool := #[true, true, true, true, true, true, true, true, true, true, false, false, false, false, false, false, false, false, false, false, false, false, false]
abbrev q25_11 : Array Bool := #[true, true, true, true, true, true, true, true, true, true, true, false, false, false, false, false, false, false, false, false, false, false, false]
abbrev q25_12 : Array Bool := #[true, true, true, true, true, true, true, true, true, true, true, true, false, false, false, false, false, false, false, false, false, false, false]
abbrev q25_13 : Array Bool := #[true, true, true, true, true, true, true, true, true, true, true, true, true, false, false, false, false, false, false, false, false, false, false]
abbrev q25_14 : Array Bool := #[true, true, true, true, true, true, true, true, true, true, true, true, true, true, false, false, false, false, false, false, false, false, false]
abbrev q25_15 : Array Bool := #[true, true, true, true, true, true, true, true, true, true, true, true, true, true, true, false, false, false, false, false, false, false, false]
abbrev q25_16 : Array Bool := #[true, true, true, true, true, true, true, true, true, true, true, true, true, true, true, true, false, false, false, false, false, false, false]
abbrev q25_17 : Array Bool := #[true, true, true, true, true, true, true, true, true, true, true, true, true, true, true, true, true, false, false, false, false, false, false]
abbrev q25_18 : Array Bool := #[true, true, true, true, true, true, true, true, true, true, true, true, true, true, true, true, true, true, false, false, false, false, false]
abbrev q25_19 : Array Bool := #[true, true, true, true, true, true, true, true, true, true, true, true, true, true, true, true, true, true, true, false, false, false, false]
abbrev q25_20 : Array Bool := #[true, true, true, true, true, true, true, true, true, true, true, true, true, true, true, true, true, true, true, true, false, false, false]
abbrev q25_21 : Array Bool := #[true, true, true, true, true, true, true, true, true, true, true, true, true, true, true, true, true, true, true, true, true, false, false]
abbrev q25_22 : Array Bool := #[true, true, true, true, true, true, true, true, true, true, true, true, true, true, true, true, true, true, true, true, true, true, false]
abbrev q25_23 : Array Bool := #[true, true, true, true, true, true, true, true, true, true, true, true, true, true, true, true, true, true, true, true, true, true, true]
abbrev q25_24 : Array Bool := #[true, true, true, true, true, true, true, true, true, true, true, true, true, true, true, false, true, false, false, false, false, false, false]
abbrev q25_25 : Array Bool := #[true, true, true, true, true, true, true, true, true, true, true, true, true, true, true, false, true, true, false, false, false, false, false]
abbrev q25_26 : Array Bool := #[true, true, true, true, true, true, true, true, true, true, true, true, true, true, true, false, true, true, true, false, false, false, false]
def bindleref08_SameTree.l0 : Nat → List (S38) → List (S38) → Int → Option (Bool)
 | 0, _, _, _ => none
 | k + 1, x0, x1, x5 => if x5 < (x0.length : Int) then (if 0 ≤ x5 then (if x5 < (x1.length : Int) then (if ((rd_T38 x0 x5).f2).toList = ((rd_T38 x1 x5).f2).toList then ((bindleref08_Equal.f ((rd_T38 x0 x5).f0) ((rd_T38 x0 x5).f1) ((rd_T38 x0 x5).f2) ((rd_T38 x0 x5).f3) ((rd_T38 x0 x5).f4.f0) ((rd_T38 x0 x5).f4.f1) ((rd_T38 x0 x5).f4.f2) ((rd_T38 x0 x5).f4.f3) ((rd_T38 x0 x5).f5) ((rd_T38 x1 x5).f0) ((rd_T38 x1 x5).f1) ((rd_T38 x1 x5).f2) ((rd_T38 x1 x5).f3) ((rd_T38 x1 x5).f4.f0) ((rd_T38 x1 x5).f4.f1) ((rd_T38 x1 x5).f4.f2) ((rd_T38 x1 x5).f4.f3) ((rd_T38 x1 x5).f5)).bind fun t251 => (if t251 = true then (bindleref08_SameTree.l0 k x0 x1 (wrap64 (x5 + 1))) else (some false))) else (some false)) else (none)) else (none)) else (some true)
def bindleref08_SameTree.f (k : Nat) (l0 : List (S38)) (l1 : List (S38)) : Option (Bool) := if (l0.length : Int) = (l1.length : Int) then (bindleref08_SameTree.l0 k l0 l1 0) else (some false)
def bindleref08_SameTree.T6 : Bool × List (List Nat × List Nat) := (true, [([], []), ([], []), ([0, 1], [0, 1]), ([2], [2]), ([3], [3]), ([], []), ([], []), ([5, 6], [5, 6]), ([7], [7]), ([8], [8]), ([4, 9], [4, 9]), ([10], [10]), ([11], [11]), ([11], [11]), ([12, 13, 11], [11, 12, 13]), ([14, 11], [11, 14]), ([11], [11]), ([11], [11]), ([16, 17, 11], [11, 16, 17]), ([18, 11], [11, 18]), ([15, 19, 11, 11], [11, 15, 19]), ([20, 11], [11, 20]), ([11, 21], [11, 21])])
def bindleref08_SameTree.B6 : List Nat := [0, 0, 3, 7, 15, 0, 0, 96, 224, 480, 1023, 2047, 4095, 4095, 16383, 32767, 4095, 4095, 200703, 462847, 1048575, 2097151, 4194303]
theorem bindleref08_SameTree.tab6 : rtab .any (opsOf Tryd.f25 6) = bindleref08_SameTree.T6 := by kernel_rfl
theorem bindleref08_SameTree.bits6 : waitsOk bindleref08_SameTree.T6.2 bindleref08_SameTree.B6 = true := by kernel_rfl
set_option maxHeartbeats 8000000 in
set_option maxRecDepth 100000 in
theorem bindleref08_SameTree.calls (k : Nat) (A0 : Option Addr) (c0 : Nat) (l0 : List (S38)) (A1 : Option Addr) (c1 : Nat) (l1 : List (S38)) (r : Bool) (w : World) (hr0 : Kd.C k38 w A0 l0.length l0) (hc0 : l0.length ≤ c0) (hr1 : Kd.C k38 w A1 l1.length l1) (hc1 : l1.length ≤ c1) (h : bindleref08_SameTree.f k l0 l1 = some r) :
  Calls Tryd.prog 25 #[.slice A0 l0.length c0, .slice A1 l1.length c1] w fun e w' => e = .returned (.bool r) ∧ Below w.heap.size w w' := by
 have hu38 := Tryd.underlying38
 have HR0 := A0_ hr0
 have HC0 := A0_ hc0
 clear hr0 hc0
 have HR1 := A0_ hr1
 have HC1 := A0_ hc1
 clear hr1 hc1
 have HB := A0_ (Below.refl w.heap.size w)
 have H : (if (l0.length : Int) = (l1.length : Int) then (bindleref08_SameTree.l0 k l0 l1 0) else (some false)) = some r := h
 clear h
 by_cases c3 : (l0.length : Int) = (l1.length : Int)
 rotate_left
 ·rw [if_neg c3] at H
  have c3b0 : ((l0.length : Int) == (l1.length : Int)) = false := beq_eq_false_iff_ne.mpr c3
  have c3b1 : ((l0.length : Int) != (l1.length : Int)) = true := bne_iff_ne.mpr c3
  have c3b2 : (l0.length == l1.length) = false := by first | simpa using c3 | (simp at c3 ⊢; omega)
  obtain rfl := Option.some.inj H
  go_enter Tryd.func25, Tryd.ntmps25
  go_wp2
  go_ret
  exact ⟨we_, wb_ HB.out⟩
 rw [if_pos c3] at H
 have c3b0 : ((l0.length : Int) == (l1.length : Int)) = true := beq_iff_eq.mpr c3
 have c3b1 : ((l0.length : Int) != (l1.length : Int)) = false := bne_eq_false_iff_eq.mpr c3
 have c3b2 : (l0.length == l1.length) = true := by first | simpa using c3 | (simp at c3 ⊢; omega)
 clear c3
 have H' := A0_ H
 clear H
 go_enter Tryd.func25, Tryd.ntmps25
 go_wp2
 go_loopg [5] k (fun kq v5 w' => ∃ (x5_1 : Int), v5 = .int .i64 x5_1 ∧ Aside0 (bindleref08_SameTree.l0 kq l0 l1 x5_1 = some r) ∧ Aside0 (kq ≤ k) ∧ Aside0 (Below w.heap.size w w'))
 case atStart => exact ⟨(0), wr_, H', ⟨Nat.le_refl _⟩, ⟨wb_ HB.out⟩⟩
 case round =>
  clear H'
  try clear c1
  try clear c2
  try clear p2
  try clear c3
  try clear c3b0
  try clear c3b1
  try clear c3b2
  obtain ⟨x5_1, rfl, HA, HK1, HB⟩ := hrel
  cases gk with
  | zero => exact absurd HA.out (by simp [bindleref08_SameTree.l0])
  | succ k1 =>
   have H := HA.out
   clear HA
   simp only [bindleref08_SameTree.l0] at H
   by_cases c4 : x5_1 < (l0.length : Int)
   rotate_left
   ·rw [if_neg c4] at H
    have c4b0 : decide (x5_1 < (l0.length : Int)) = false := decide_eq_false c4
    clear c4
    obtain rfl := Option.some.inj H
    go_wp2
    go_ret
    exact ⟨we_, wb_ HB.out⟩
   rw [if_pos c4] at H
   have c4b0 : decide (x5_1 < (l0.length : Int)) = true := decide_eq_true c4
   clear c4
   by_cases c5 : 0 ≤ x5_1
   rotate_left
   ·rw [if_neg c5] at H
    exact absurd H (by simp)
   rw [if_pos c5] at H
   have c5b0 : decide (0 ≤ x5_1) = true := decide_eq_true c5
   clear c5
   by_cases c6 : x5_1 < (l1.length : Int)
   rotate_left
   ·rw [if_neg c6] at H
    exact absurd H (by simp)
   rw [if_pos c6] at H
   have c6b0 : decide (x5_1 < (l1.length : Int)) = true := decide_eq_true c6
   clear c6
   by_cases c7 : ((rd_T38 l0 x5_1).f2).toList = ((rd_T38 l1 x5_1).f2).toList
   rotate_left
   ·rw [if_neg c7] at H
    have c7b0 : (((rd_T38 l0 x5_1).f2).toList == ((rd_T38 l1 x5_1).f2).toList) = false := beq_eq_false_iff_ne.mpr c7
    have c7b1 : (((rd_T38 l0 x5_1).f2).toList != ((rd_T38 l1 x5_1).f2).toList) = true := bne_iff_ne.mpr c7
    obtain rfl := Option.some.inj H
    try go_wp2
    have n0_ := A0_ (b1_ HB.out)
    clear HB
    have HB := n0_
    clear n0_
    have p247 : 0 ≤ (x5_1 : Int) := wd_
    have q247 : x5_1 < (l0.length : Int) := wd_
    obtain ⟨ad247, A247_8, c247_8, e247, hx247_0, hx247_1, hx247_2, hx247_3, hx247_4, hx247_5, hx247_6, hx247_7, hx247_8, hl247_8, hi247_8⟩ := at_T38 HR0.out x5_1 p247 q247
    have hw247_8 := hx247_8
    have hw247_7 := hx247_7
    have hw247_6 := hx247_6
    have hw247_5 := hx247_5
    have hw247_4 := hx247_4
    have hw247_3 := hx247_3
    have hw247_2 := hx247_2
    have hw247_1 := hx247_1
    have hw247_0 := hx247_0
    cases e247
    replace hx247_0 := (HB.out.cell (World.block_lt_of_cell? w _ hx247_0)).trans hx247_0
    replace hx247_1 := (HB.out.cell (World.block_lt_of_cell? w _ hx247_1)).trans hx247_1
    replace hx247_2 := (HB.out.cell (World.block_lt_of_cell? w _ hx247_2)).trans hx247_2
    replace hx247_3 := (HB.out.cell (World.block_lt_of_cell? w _ hx247_3)).trans hx247_3
    replace hx247_4 := (HB.out.cell (World.block_lt_of_cell? w _ hx247_4)).trans hx247_4
    replace hx247_5 := (HB.out.cell (World.block_lt_of_cell? w _ hx247_5)).trans hx247_5
    replace hx247_6 := (HB.out.cell (World.block_lt_of_cell? w _ hx247_6)).trans hx247_6
    replace hx247_7 := (HB.out.cell (World.block_lt_of_cell? w _ hx247_7)).trans hx247_7
    replace hx247_8 := (HB.out.cell (World.block_lt_of_cell? w _ hx247_8)).trans hx247_8
    have HR247_8 := A0_ hi247_8
    have HC247_8 := A0_ hl247_8
    clear hi247_8 hl247_8
    replace p247 := eq_true p247
    replace q247 := eq_true q247
    have p248 : 0 ≤ (x5_1 : Int) := wd_
    have q248 : x5_1 < (l1.length : Int) := wd_
    obtain ⟨ad248, A248_8, c248_8, e248, hx248_0, hx248_1, hx248_2, hx248_3, hx248_4, hx248_5, hx248_6, hx248_7, hx248_8, hl248_8, hi248_8⟩ := at_T38 HR1.out x5_1 p248 q248
    have hw248_8 := hx248_8
    have hw248_7 := hx248_7
    have hw248_6 := hx248_6
    have hw248_5 := hx248_5
    have hw248_4 := hx248_4
    have hw248_3 := hx248_3
    have hw248_2 := hx248_2
    have hw248_1 := hx248_1
    have hw248_0 := hx248_0
    cases e248
    replace hx248_0 := (HB.out.cell (World.block_lt_of_cell? w _ hx248_0)).trans hx248_0
    replace hx248_1 := (HB.out.cell (World.block_lt_of_cell? w _ hx248_1)).trans hx248_1
    replace hx248_2 := (HB.out.cell (World.block_lt_of_cell? w _ hx248_2)).trans hx248_2
    replace hx248_3 := (HB.out.cell (World.block_lt_of_cell? w _ hx248_3)).trans hx248_3
    replace hx248_4 := (HB.out.cell (World.block_lt_of_cell? w _ hx248_4)).trans hx248_4
    replace hx248_5 := (HB.out.cell (World.block_lt_of_cell? w _ hx248_5)).trans hx248_5
    replace hx248_6 := (HB.out.cell (World.block_lt_of_cell? w _ hx248_6)).trans hx248_6
    replace hx248_7 := (HB.out.cell (World.block_lt_of_cell? w _ hx248_7)).trans hx248_7
    replace hx248_8 := (HB.out.cell (World.block_lt_of_cell? w _ hx248_8)).trans hx248_8
    have HR248_8 := A0_ hi248_8
    have HC248_8 := A0_ hl248_8
    clear hi248_8 hl248_8
    replace p248 := eq_true p248
    replace q248 := eq_true q248
    refine start_ (n := 23) (S := fun w' => w'.cell? (ad247.add ((x5_1).toNat * 9)) = some (.string ((rd_T38 l0 x5_1).f0)) ∧ w'.cell? ⟨(ad247.add ((x5_1).toNat * 9)).block, (ad247.add ((x5_1).toNat * 9)).off + 1, none⟩ = some (.string ((rd_T38 l0 x5_1).f1)) ∧ w'.cell? ⟨(ad247.add ((x5_1).toNat * 9)).block, (ad247.add ((x5_1).toNat * 9)).off + 2, none⟩ = some (.string ((rd_T38 l0 x5_1).f2)) ∧ w'.cell? ⟨(ad247.add ((x5_1).toNat * 9)).block, (ad247.add ((x5_1).toNat * 9)).off + 3, none⟩ = some (.int .u8 ((rd_T38 l0 x5_1).f3)) ∧ w'.cell? ⟨(ad247.add ((x5_1).toNat * 9)).block, (ad247.add ((x5_1).toNat * 9)).off + 4, none⟩ = some (.int .i64 ((rd_T38 l0 x5_1).f4.f0)) ∧ w'.cell? ⟨(ad247.add ((x5_1).toNat * 9)).block, (ad247.add ((x5_1).toNat * 9)).off + 5, none⟩ = some (.int .i64 ((rd_T38 l0 x5_1).f4.f1)) ∧ w'.cell? ⟨(ad247.add ((x5_1).toNat * 9)).block, (ad247.add ((x5_1).toNat * 9)).off + 6, none⟩ = some (.int .i64 ((rd_T38 l0 x5_1).f4.f2)) ∧ w'.cell? ⟨(ad247.add ((x5_1).toNat * 9)).block, (ad247.add ((x5_1).toNat * 9)).off + 7, none⟩ = some (.int .i64 ((rd_T38 l0 x5_1).f4.f3)) ∧ w'.cell? ⟨(ad247.add ((x5_1).toNat * 9)).block, (ad247.add ((x5_1).toNat * 9)).off + 8, none⟩ = some (.slice A247_8 ((rd_T38 l0 x5_1).f5).length c247_8) ∧ w'.cell? (ad248.add ((x5_1).toNat * 9)) = some (.string ((rd_T38 l1 x5_1).f0)) ∧ w'.cell? ⟨(ad248.add ((x5_1).toNat * 9)).block, (ad248.add ((x5_1).toNat * 9)).off + 1, none⟩ = some (.string ((rd_T38 l1 x5_1).f1)) ∧ w'.cell? ⟨(ad248.add ((x5_1).toNat * 9)).block, (ad248.add ((x5_1).toNat * 9)).off + 2, none⟩ = some (.string ((rd_T38 l1 x5_1).f2)) ∧ w'.cell? ⟨(ad248.add ((x5_1).toNat * 9)).block, (ad248.add ((x5_1).toNat * 9)).off + 3, none⟩ = some (.int .u8 ((rd_T38 l1 x5_1).f3)) ∧ w'.cell? ⟨(ad248.add ((x5_1).toNat * 9)).block, (ad248.add ((x5_1).toNat * 9)).off + 4, none⟩ = some (.int .i64 ((rd_T38 l1 x5_1).f4.f0)) ∧ w'.cell? ⟨(ad248.add ((x5_1).toNat * 9)).block, (ad248.add ((x5_1).toNat * 9)).off + 5, none⟩ = some (.int .i64 ((rd_T38 l1 x5_1).f4.f1)) ∧ w'.cell? ⟨(ad248.add ((x5_1).toNat * 9)).block, (ad248.add ((x5_1).toNat * 9)).off + 6, none⟩ = some (.int .i64 ((rd_T38 l1 x5_1).f4.f2)) ∧ w'.cell? ⟨(ad248.add ((x5_1).toNat * 9)).block, (ad248.add ((x5_1).toNat * 9)).off + 7, none⟩ = some (.int .i64 ((rd_T38 l1 x5_1).f4.f3)) ∧ w'.cell? ⟨(ad248.add ((x5_1).toNat * 9)).block, (ad248.add ((x5_1).toNat * 9)).off + 8, none⟩ = some (.slice A248_8 ((rd_T38 l1 x5_1).f5).length c248_8)) (ds := []) q25_0 (by kernel_rfl) rfl rfl ⟨((HB.out.cell (World.block_lt_of_cell? w _ hw247_0)).trans hw247_0), ((HB.out.cell (World.block_lt_of_cell? w _ hw247_1)).trans hw247_1), ((HB.out.cell (World.block_lt_of_cell? w _ hw247_2)).trans hw247_2), ((HB.out.cell (World.block_lt_of_cell? w _ hw247_3)).trans hw247_3), ((HB.out.cell (World.block_lt_of_cell? w _ hw247_4)).trans hw247_4), ((HB.out.cell (World.block_lt_of_cell? w _ hw247_5)).trans hw247_5), ((HB.out.cell (World.block_lt_of_cell? w _ hw247_6)).trans hw247_6), ((HB.out.cell (World.block_lt_of_cell? w _ hw247_7)).trans hw247_7), ((HB.out.cell (World.block_lt_of_cell? w _ hw247_8)).trans hw247_8), ((HB.out.cell (World.block_lt_of_cell? w _ hw248_0)).trans hw248_0), ((HB.out.cell (World.block_lt_of_cell? w _ hw248_1)).trans hw248_1), ((HB.out.cell (World.block_lt_of_cell? w _ hw248_2)).trans hw248_2), ((HB.out.cell (World.block_lt_of_cell? w _ hw248_3)).trans hw248_3), ((HB.out.cell (World.block_lt_of_cell? w _ hw248_4)).trans hw248_4), ((HB.out.cell (World.block_lt_of_cell? w _ hw248_5)).trans hw248_5), ((HB.out.cell (World.block_lt_of_cell? w _ hw248_6)).trans hw248_6), ((HB.out.cell (World.block_lt_of_cell? w _ hw248_7)).trans hw248_7), ((HB.out.cell (World.block_lt_of_cell? w _ hw248_8)).trans hw248_8)⟩ (fun hHeld => ?_); refine with_tabW bindleref08_SameTree.tab6 bindleref08_SameTree.bits6 (fun HT_ HW_ => ?_)
    generalize wr.drew = w14 at HB HR247_8 HR248_8 hx247_0 hx247_1 hx247_2 hx247_3 hx247_4 hx247_5 hx247_6 hx247_7 hx247_8 hx248_0 hx248_1 hx248_2 hx248_3 hx248_4 hx248_5 hx248_6 hx248_7 hx248_8 hHeld ⊢
    refine pur_ (i := 0) (N := some 17) q25_1 (any_of HT_.out (by kernel_rfl)) ?_
    refine pur_ (i := 1) (N := some 18) q25_2 (any_of HT_.out (by kernel_rfl)) ?_
    refine pur_ (i := 2) (N := some 19) q25_3 (any_of HT_.out (by kernel_rfl)) ?_
    refine pur_ (i := 3) (N := some 20) q25_4 (any_of HT_.out (by kernel_rfl)) ?_
    refine pur_ (i := 5) (N := some 22) q25_5 (any_of HT_.out (by kernel_rfl)) ?_
    refine pur_ (i := 6) (N := some 23) q25_6 (any_of HT_.out (by kernel_rfl)) ?_
    refine pur_ (i := 7) (N := some 24) q25_7 (any_of HT_.out (by kernel_rfl)) ?_
    refine pur_ (i := 8) (N := some 25) q25_8 (any_of HT_.out (by kernel_rfl)) ?_
    refine take_ (i := 4) (N := some 21) (v := ?_) (a' := ?_) q25_9 rfl rfl (take_ofW HT_.out HW_.out (by kernel_rfl)) (fun _ _ _ h => h) (Or.inl ⟨by rfl, ?_⟩) hHeld ?_ ?_
    rotate_left
    ·rintro w' ⟨s0, s1, s2, s3, s4, s5, s6, s7, s8, s9, s10, s11, s12, s13, s14, s15, s16, s17⟩
     go_simp
     with_reducible rfl
    rotate_left
    ·simp only [Act.put, List.setIfInBounds_toArray, List.set_cons_zero, List.set_cons_succ, i64_w, i32_w]
     rfl
    refine take_ (i := 9) (N := some 26) (v := ?_) (a' := ?_) q25_10 rfl rfl (take_ofW HT_.out HW_.out (by kernel_rfl)) (fun _ _ _ h => h) (Or.inl ⟨by rfl, ?_⟩) hHeld ?_ ?_
    rotate_left
    ·rintro w' ⟨s0, s1, s2, s3, s4, s5, s6, s7, s8, s9, s10, s11, s12, s13, s14, s15, s16, s17⟩
     go_simp
     with_reducible rfl
    rotate_left
    ·simp only [Act.put, List.setIfInBounds_toArray, List.set_cons_zero, List.set_cons_succ, i64_w, i32_w]
     rfl
    refine pur_ (i := 10) (N := some 27) q25_11 (any_of HT_.out (by kernel_rfl)) ?_
    refine pur_ (i := 11) (N := some 28) q25_12 (any_of HT_.out (by kernel_rfl)) ?_
    refine puu_ (i := 12) (N := some 29) q25_13 (any_of HT_.out (by kernel_rfl)) ?_
    refine puu_ (i := 13) (N := some 30) q25_14 (any_of HT_.out (by kernel_rfl)) ?_
    refine puu_ (i := 14) (N := some 31) q25_15 (any_of HT_.out (by kernel_rfl)) ?_
    refine puu_ (i := 15) (N := some 32) q25_16 (any_of HT_.out (by kernel_rfl)) ?_
    refine puu_ (i := 16) (N := some 33) q25_17 (any_of HT_.out (by kernel_rfl)) ?_
    refine puu_ (i := 17) (N := some 34) q25_18 (any_of HT_.out (by kernel_rfl)) ?_
    refine puu_ (i := 18) (N := some 35) q25_19 (any_of HT_.out (by kernel_rfl)) ?_
    refine puu_ (i := 19) (N := some 36) q25_20 (any_of HT_.out (by kernel_rfl)) ?_
    refine puu_ (i := 20) (N := some 37) q25_21 (any_of HT_.out (by kernel_rfl)) ?_
    refine puu_ (i := 21) (N := some 38) q25_22 (any_of HT_.out (by kernel_rfl)) ?_
    refine pur_ (i := 22) (N := some 39) q25_23 (any_of HT_.out (by kernel_rfl)) ?_
    refine done_ (done_of HT_.out (by kernel_rfl)) ?_
    try go_wp2
    go_ret
    exact ⟨we_, wb_ HB.out⟩
   rw [if_pos c7] at H
   have c7b0 : (((rd_T38 l0 x5_1).f2).toList == ((rd_T38 l1 x5_1).f2).toList) = true := beq_iff_eq.mpr c7
   have c7b1 : (((rd_T38 l0 x5_1).f2).toList != ((rd_T38 l1 x5_1).f2).toList) = false := bne_eq_false_iff_eq.mpr c7
   clear c7
   replace H := Option.bind_eq_some_iff.mp H
   obtain ⟨t251, A80, H⟩ := H
   replace H : (if t251 = true then (bindleref08_SameTree.l0 k1 l0 l1 (wrap64 (x5_1 + 1))) else (some false)) = some r := H
   have A8 := A0_ A80
   clear A80
   by_cases c9 : t251 = true
   rotate_left
   ·replace c9 := Bool.eq_false_iff.mpr c9
    subst c9
    have H1 : (some false) = some r := by rw [if_neg (show ¬ (false = true) by decide)] at H; exact H
    clear H
    have H := H1
    clear H1
    obtain rfl := Option.some.inj H
    try go_wp2
    have n0_ := A0_ (b1_ HB.out)
    clear HB
    have HB := n0_
    clear n0_
    have p247 : 0 ≤ (x5_1 : Int) := wd_
    have q247 : x5_1 < (l0.length : Int) := wd_
    obtain ⟨ad247, A247_8, c247_8, e247, hx247_0, hx247_1, hx247_2, hx247_3, hx247_4, hx247_5, hx247_6, hx247_7, hx247_8, hl247_8, hi247_8⟩ := at_T38 HR0.out x5_1 p247 q247
    have hw247_8 := hx247_8
    have hw247_7 := hx247_7
    have hw247_6 := hx247_6
    have hw247_5 := hx247_5
    have hw247_4 := hx247_4
    have hw247_3 := hx247_3
    have hw247_2 := hx247_2
    have hw247_1 := hx247_1
    have hw247_0 := hx247_0
    cases e247
    replace hx247_0 := (HB.out.cell (World.block_lt_of_cell? w _ hx247_0)).trans hx247_0
    replace hx247_1 := (HB.out.cell (World.block_lt_of_cell? w _ hx247_1)).trans hx247_1
    replace hx247_2 := (HB.out.cell (World.block_lt_of_cell? w _ hx247_2)).trans hx247_2
    replace hx247_3 := (HB.out.cell (World.block_lt_of_cell? w _ hx247_3)).trans hx247_3
    replace hx247_4 := (HB.out.cell (World.block_lt_of_cell? w _ hx247_4)).trans hx247_4
    replace hx247_5 := (HB.out.cell (World.block_lt_of_cell? w _ hx247_5)).trans hx247_5
    replace hx247_6 := (HB.out.cell (World.block_lt_of_cell? w _ hx247_6)).trans hx247_6
    replace hx247_7 := (HB.out.cell (World.block_lt_of_cell? w _ hx247_7)).trans hx247_7
    replace hx247_8 := (HB.out.cell (World.block_lt_of_cell? w _ hx247_8)).trans hx247_8
    have HR247_8 := A0_ hi247_8
    have HC247_8 := A0_ hl247_8
    clear hi247_8 hl247_8
    replace p247 := eq_true p247
    replace q247 := eq_true q247
    have p248 : 0 ≤ (x5_1 : Int) := wd_
    have q248 : x5_1 < (l1.length : Int) := wd_
    obtain ⟨ad248, A248_8, c248_8, e248, hx248_0, hx248_1, hx248_2, hx248_3, hx248_4, hx248_5, hx248_6, hx248_7, hx248_8, hl248_8, hi248_8⟩ := at_T38 HR1.out x5_1 p248 q248
    have hw248_8 := hx248_8
    have hw248_7 := hx248_7
    have hw248_6 := hx248_6
    have hw248_5 := hx248_5
    have hw248_4 := hx248_4
    have hw248_3 := hx248_3
    have hw248_2 := hx248_2
    have hw248_1 := hx248_1
    have hw248_0 := hx248_0
    cases e248
    replace hx248_0 := (HB.out.cell (World.block_lt_of_cell? w _ hx248_0)).trans hx248_0
    replace hx248_1 := (HB.out.cell (World.block_lt_of_cell? w _ hx248_1)).trans hx248_1
    replace hx248_2 := (HB.out.cell (World.block_lt_of_cell? w _ hx248_2)).trans hx248_2
    replace hx248_3 := (HB.out.cell (World.block_lt_of_cell? w _ hx248_3)).trans hx248_3
    replace hx248_4 := (HB.out.cell (World.block_lt_of_cell? w _ hx248_4)).trans hx248_4
    replace hx248_5 := (HB.out.cell (World.block_lt_of_cell? w _ hx248_5)).trans hx248_5
    replace hx248_6 := (HB.out.cell (World.block_lt_of_cell? w _ hx248_6)).trans hx248_6
    replace hx248_7 := (HB.out.cell (World.block_lt_of_cell? w _ hx248_7)).trans hx248_7
    replace hx248_8 := (HB.out.cell (World.block_lt_of_cell? w _ hx248_8)).trans hx248_8
    have HR248_8 := A0_ hi248_8
    have HC248_8 := A0_ hl248_8
    clear hi248_8 hl248_8
    replace p248 := eq_true p248
    replace q248 := eq_true q248
    have p249 : 0 ≤ (x5_1 : Int) := wd_
    have q249 : x5_1 < (l0.length : Int) := wd_
    obtain ⟨ad249, A249_8, c249_8, e249, hx249_0, hx249_1, hx249_2, hx249_3, hx249_4, hx249_5, hx249_6, hx249_7, hx249_8, hl249_8, hi249_8⟩ := at_T38 HR0.out x5_1 p249 q249
    have hw249_8 := hx249_8
    have hw249_7 := hx249_7
    have hw249_6 := hx249_6
    have hw249_5 := hx249_5
    have hw249_4 := hx249_4
    have hw249_3 := hx249_3
    have hw249_2 := hx249_2
    have hw249_1 := hx249_1
    have hw249_0 := hx249_0
    obtain rfl : ad247 = ad249 := (by injection e249)
    replace hx249_0 := (HB.out.cell (World.block_lt_of_cell? w _ hx249_0)).trans hx249_0
    replace hx249_1 := (HB.out.cell (World.block_lt_of_cell? w _ hx249_1)).trans hx249_1
    replace hx249_2 := (HB.out.cell (World.block_lt_of_cell? w _ hx249_2)).trans hx249_2
    replace hx249_3 := (HB.out.cell (World.block_lt_of_cell? w _ hx249_3)).trans hx249_3
    replace hx249_4 := (HB.out.cell (World.block_lt_of_cell? w _ hx249_4)).trans hx249_4
    replace hx249_5 := (HB.out.cell (World.block_lt_of_cell? w _ hx249_5)).trans hx249_5
    replace hx249_6 := (HB.out.cell (World.block_lt_of_cell? w _ hx249_6)).trans hx249_6
    replace hx249_7 := (HB.out.cell (World.block_lt_of_cell? w _ hx249_7)).trans hx249_7
    replace hx249_8 := (HB.out.cell (World.block_lt_of_cell? w _ hx249_8)).trans hx249_8
    have HR249_8 := A0_ hi249_8
    have HC249_8 := A0_ hl249_8
    clear hi249_8 hl249_8
    replace p249 := eq_true p249
    replace q249 := eq_true q249
    have ea_ := Option.some.inj (hx247_8.symm.trans hx249_8)
    injection ea_ with ea_ en_ ec_
    subst ea_
    subst ec_
    clear en_
    have p250 : 0 ≤ (x5_1 : Int) := wd_
    have q250 : x5_1 < (l1.length : Int) := wd_
    obtain ⟨ad250, A250_8, c250_8, e250, hx250_0, hx250_1, hx250_2, hx250_3, hx250_4, hx250_5, hx250_6, hx250_7, hx250_8, hl250_8, hi250_8⟩ := at_T38 HR1.out x5_1 p250 q250
    have hw250_8 := hx250_8
    have hw250_7 := hx250_7
    have hw250_6 := hx250_6
    have hw250_5 := hx250_5
    have hw250_4 := hx250_4
    have hw250_3 := hx250_3
    have hw250_2 := hx250_2
    have hw250_1 := hx250_1
    have hw250_0 := hx250_0
    obtain rfl : ad248 = ad250 := (by injection e250)
    replace hx250_0 := (HB.out.cell (World.block_lt_of_cell? w _ hx250_0)).trans hx250_0
    replace hx250_1 := (HB.out.cell (World.block_lt_of_cell? w _ hx250_1)).trans hx250_1
    replace hx250_2 := (HB.out.cell (World.block_lt_of_cell? w _ hx250_2)).trans hx250_2
    replace hx250_3 := (HB.out.cell (World.block_lt_of_cell? w _ hx250_3)).trans hx250_3
    replace hx250_4 := (HB.out.cell (World.block_lt_of_cell? w _ hx250_4)).trans hx250_4
    replace hx250_5 := (HB.out.cell (World.block_lt_of_cell? w _ hx250_5)).trans hx250_5
    replace hx250_6 := (HB.out.cell (World.block_lt_of_cell? w _ hx250_6)).trans hx250_6
    replace hx250_7 := (HB.out.cell (World.block_lt_of_cell? w _ hx250_7)).trans hx250_7
    replace hx250_8 := (HB.out.cell (World.block_lt_of_cell? w _ hx250_8)).trans hx250_8
    have HR250_8 := A0_ hi250_8
    have HC250_8 := A0_ hl250_8
    clear hi250_8 hl250_8
    replace p250 := eq_true p250
    replace q250 := eq_true q250
    have ea_ := Option.some.inj (hx248_8.symm.trans hx250_8)
    injection ea_ with ea_ en_ ec_
    subst ea_
    subst ec_
    clear en_
    refine start_ (n := 23) (S := fun w' => w'.cell? (ad247.add ((x5_1).toNat * 9)) = some (.string ((rd_T38 l0 x5_1).f0)) ∧ w'.cell? ⟨(ad247.add ((x5_1).toNat * 9)).block, (ad247.add ((x5_1).toNat * 9)).off + 1, none⟩ = some (.string ((rd_T38 l0 x5_1).f1)) ∧ w'.cell? ⟨(ad247.add ((x5_1).toNat * 9)).block, (ad247.add ((x5_1).toNat * 9)).off + 2, none⟩ = some (.string ((rd_T38 l0 x5_1).f2)) ∧ w'.cell? ⟨(ad247.add ((x5_1).toNat * 9)).block, (ad247.add ((x5_1).toNat * 9)).off + 3, none⟩ = some (.int .u8 ((rd_T38 l0 x5_1).f3)) ∧ w'.cell? ⟨(ad247.add ((x5_1).toNat * 9)).block, (ad247.add ((x5_1).toNat * 9)).off + 4, none⟩ = some (.int .i64 ((rd_T38 l0 x5_1).f4.f0)) ∧ w'.cell? ⟨(ad247.add ((x5_1).toNat * 9)).block, (ad247.add ((x5_1).toNat * 9)).off + 5, none⟩ = some (.int .i64 ((rd_T38 l0 x5_1).f4.f1)) ∧ w'.cell? ⟨(ad247.add ((x5_1).toNat * 9)).block, (ad247.add ((x5_1).toNat * 9)).off + 6, none⟩ = some (.int .i64 ((rd_T38 l0 x5_1).f4.f2)) ∧ w'.cell? ⟨(ad247.add ((x5_1).toNat * 9)).block, (ad247.add ((x5_1).toNat * 9)).off + 7, none⟩ = some (.int .i64 ((rd_T38 l0 x5_1).f4.f3)) ∧ w'.cell? ⟨(ad247.add ((x5_1).toNat * 9)).block, (ad247.add ((x5_1).toNat * 9)).off + 8, none⟩ = some (.slice A247_8 ((rd_T38 l0 x5_1).f5).length c247_8) ∧ w'.cell? (ad248.add ((x5_1).toNat * 9)) = some (.string ((rd_T38 l1 x5_1).f0)) ∧ w'.cell? ⟨(ad248.add ((x5_1).toNat * 9)).block, (ad248.add ((x5_1).toNat * 9)).off + 1, none⟩ = some (.string ((rd_T38 l1 x5_1).f1)) ∧ w'.cell? ⟨(ad248.add ((x5_1).toNat * 9)).block, (ad248.add ((x5_1).toNat * 9)).off + 2, none⟩ = some (.string ((rd_T38 l1 x5_1).f2)) ∧ w'.cell? ⟨(ad248.add ((x5_1).toNat * 9)).block, (ad248.add ((x5_1).toNat * 9)).off + 3, none⟩ = some (.int .u8 ((rd_T38 l1 x5_1).f3)) ∧ w'.cell? ⟨(ad248.add ((x5_1).toNat * 9)).block, (ad248.add ((x5_1).toNat * 9)).off + 4, none⟩ = some (.int .i64 ((rd_T38 l1 x5_1).f4.f0)) ∧ w'.cell? ⟨(ad248.add ((x5_1).toNat * 9)).block, (ad248.add ((x5_1).toNat * 9)).off + 5, none⟩ = some (.int .i64 ((rd_T38 l1 x5_1).f4.f1)) ∧ w'.cell? ⟨(ad248.add ((x5_1).toNat * 9)).block, (ad248.add ((x5_1).toNat * 9)).off + 6, none⟩ = some (.int .i64 ((rd_T38 l1 x5_1).f4.f2)) ∧ w'.cell? ⟨(ad248.add ((x5_1).toNat * 9)).block, (ad248.add ((x5_1).toNat * 9)).off + 7, none⟩ = some (.int .i64 ((rd_T38 l1 x5_1).f4.f3)) ∧ w'.cell? ⟨(ad248.add ((x5_1).toNat * 9)).block, (ad248.add ((x5_1).toNat * 9)).off + 8, none⟩ = some (.slice A248_8 ((rd_T38 l1 x5_1).f5).length c248_8) ∧ w'.cell? (ad247.add ((x5_1).toNat * 9)) = some (.string ((rd_T38 l0 x5_1).f0)) ∧ w'.cell? ⟨(ad247.add ((x5_1).toNat * 9)).block, (ad247.add ((x5_1).toNat * 9)).off + 1, none⟩ = some (.string ((rd_T38 l0 x5_1).f1)) ∧ w'.cell? ⟨(ad247.add ((x5_1).toNat * 9)).block, (ad247.add ((x5_1).toNat * 9)).off + 2, none⟩ = some (.string ((rd_T38 l0 x5_1).f2)) ∧ w'.cell? ⟨(ad247.add ((x5_1).toNat * 9)).block, (ad247.add ((x5_1).toNat * 9)).off + 3, none⟩ = some (.int .u8 ((rd_T38 l0 x5_1).f3)) ∧ w'.cell? ⟨(ad247.add ((x5_1).toNat * 9)).block, (ad247.add ((x5_1).toNat * 9)).off + 4, none⟩ = some (.int .i64 ((rd_T38 l0 x5_1).f4.f0)) ∧ w'.cell? ⟨(ad247.add ((x5_1).toNat * 9)).block, (ad247.add ((x5_1).toNat * 9)).off + 5, none⟩ = some (.int .i64 ((rd_T38 l0 x5_1).f4.f1)) ∧ w'.cell? ⟨(ad247.add ((x5_1).toNat * 9)).block, (ad247.add ((x5_1).toNat * 9)).off + 6, none⟩ = some (.int .i64 ((rd_T38 l0 x5_1).f4.f2)) ∧ w'.cell? ⟨(ad247.add ((x5_1).toNat * 9)).block, (ad247.add ((x5_1).toNat * 9)).off + 7, none⟩ = some (.int .i64 ((rd_T38 l0 x5_1).f4.f3)) ∧ w'.cell? ⟨(ad247.add ((x5_1).toNat * 9)).block, (ad247.add ((x5_1).toNat * 9)).off + 8, none⟩ = some (.slice A247_8 ((rd_T38 l0 x5_1).f5).length c247_8) ∧ w'.cell? (ad248.add ((x5_1).toNat * 9)) = some (.string ((rd_T38 l1 x5_1).f0)) ∧ w'.cell? ⟨(ad248.add ((x5_1).toNat * 9)).block, (ad248.add ((x5_1).toNat * 9)).off + 1, none⟩ = some (.string ((rd_T38 l1 x5_1).f1)) ∧ w'.cell? ⟨(ad248.add ((x5_1).toNat * 9)).block, (ad248.add ((x5_1).toNat * 9)).off + 2, none⟩ = some (.string ((rd_T38 l1 x5_1).f2)) ∧ w'.cell? ⟨(ad248.add ((x5_1).toNat * 9)).block, (ad248.add ((x5_1).toNat * 9)).off + 3, none⟩ = some (.int .u8 ((rd_T38 l1 x5_1).f3)) ∧ w'.cell? ⟨(ad248.add ((x5_1).toNat * 9)).block, (ad248.add ((x5_1).toNat * 9)).off + 4, none⟩ = some (.int .i64 ((rd_T38 l1 x5_1).f4.f0)) ∧ w'.cell? ⟨(ad248.add ((x5_1).toNat * 9)).block, (ad248.add ((x5_1).toNat * 9)).off + 5, none⟩ = some (.int .i64 ((rd_T38 l1 x5_1).f4.f1)) ∧ w'.cell? ⟨(ad248.add ((x5_1).toNat * 9)).block, (ad248.add ((x5_1).toNat * 9)).off + 6, none⟩ = some (.int .i64 ((rd_T38 l1 x5_1).f4.f2)) ∧ w'.cell? ⟨(ad248.add ((x5_1).toNat * 9)).block, (ad248.add ((x5_1).toNat * 9)).off + 7, none⟩ = some (.int .i64 ((rd_T38 l1 x5_1).f4.f3)) ∧ w'.cell? ⟨(ad248.add ((x5_1).toNat * 9)).block, (ad248.add ((x5_1).toNat * 9)).off + 8, none⟩ = some (.slice A248_8 ((rd_T38 l1 x5_1).f5).length c248_8)) (ds := []) q25_0 (by kernel_rfl) rfl rfl ⟨((HB.out.cell (World.block_lt_of_cell? w _ hw247_0)).trans hw247_0), ((HB.out.cell (World.block_lt_of_cell? w _ hw247_1)).trans hw247_1), ((HB.out.cell (World.block_lt_of_cell? w _ hw247_2)).trans hw247_2), ((HB.out.cell (World.block_lt_of_cell? w _ hw247_3)).trans hw247_3), ((HB.out.cell (World.block_lt_of_cell? w _ hw247_4)).trans hw247_4), ((HB.out.cell (World.block_lt_of_cell? w _ hw247_5)).trans hw247_5), ((HB.out.cell (World.block_lt_of_cell? w _ hw247_6)).trans hw247_6), ((HB.out.cell (World.block_lt_of_cell? w _ hw247_7)).trans hw247_7), ((HB.out.cell (World.block_lt_of_cell? w _ hw247_8)).trans hw247_8), ((HB.out.cell (World.block_lt_of_cell? w _ hw248_0)).trans hw248_0), ((HB.out.cell (World.block_lt_of_cell? w _ hw248_1)).trans hw248_1), ((HB.out.cell (World.block_lt_of_cell? w _ hw248_2)).trans hw248_2), ((HB.out.cell (World.block_lt_of_cell? w _ hw248_3)).trans hw248_3), ((HB.out.cell (World.block_lt_of_cell? w _ hw248_4)).trans hw248_4), ((HB.out.cell (World.block_lt_of_cell? w _ hw248_5)).trans hw248_5), ((HB.out.cell (World.block_lt_of_cell? w _ hw248_6)).trans hw248_6), ((HB.out.cell (World.block_lt_of_cell? w _ hw248_7)).trans hw248_7), ((HB.out.cell (World.block_lt_of_cell? w _ hw248_8)).trans hw248_8), ((HB.out.cell (World.block_lt_of_cell? w _ hw249_0)).trans hw249_0), ((HB.out.cell (World.block_lt_of_cell? w _ hw249_1)).trans hw249_1), ((HB.out.cell (World.block_lt_of_cell? w _ hw249_2)).trans hw249_2), ((HB.out.cell (World.block_lt_of_cell? w _ hw249_3)).trans hw249_3), ((HB.out.cell (World.block_lt_of_cell? w _ hw249_4)).trans hw249_4), ((HB.out.cell (World.block_lt_of_cell? w _ hw249_5)).trans hw249_5), ((HB.out.cell (World.block_lt_of_cell? w _ hw249_6)).trans hw249_6), ((HB.out.cell (World.block_lt_of_cell? w _ hw249_7)).trans hw249_7), ((HB.out.cell (World.block_lt_of_cell? w _ hw249_8)).trans hw249_8), ((HB.out.cell (World.block_lt_of_cell? w _ hw250_0)).trans hw250_0), ((HB.out.cell (World.block_lt_of_cell? w _ hw250_1)).trans hw250_1), ((HB.out.cell (World.block_lt_of_cell? w _ hw250_2)).trans hw250_2), ((HB.out.cell (World.block_lt_of_cell? w _ hw250_3)).trans hw250_3), ((HB.out.cell (World.block_lt_of_cell? w _ hw250_4)).trans hw250_4), ((HB.out.cell (World.block_lt_of_cell? w _ hw250_5)).trans hw250_5), ((HB.out.cell (World.block_lt_of_cell? w _ hw250_6)).trans hw250_6), ((HB.out.cell (World.block_lt_of_cell? w _ hw250_7)).trans hw250_7), ((HB.out.cell (World.block_lt_of_cell? w _ hw250_8)).trans hw250_8)⟩ (fun hHeld => ?_); refine with_tabW bindleref08_SameTree.tab6 bindleref08_SameTree.bits6 (fun HT_ HW_ => ?_)
    generalize wr.drew = w12 at HB HR247_8 HR248_8 HR249_8 HR250_8 hx247_0 hx247_1 hx247_2 hx247_3 hx247_4 hx247_5 hx247_6 hx247_7 hx247_8 hx248_0 hx248_1 hx248_2 hx248_3 hx248_4 hx248_5 hx248_6 hx248_7 hx248_8 hx249_0 hx249_1 hx249_2 hx249_3 hx249_4 hx249_5 hx249_6 hx249_7 hx249_8 hx250_0 hx250_1 hx250_2 hx250_3 hx250_4 hx250_5 hx250_6 hx250_7 hx250_8 hHeld ⊢
    refine pur_ (i := 0) (N := some 17) q25_1 (any_of HT_.out (by kernel_rfl)) ?_
    refine pur_ (i := 1) (N := some 18) q25_2 (any_of HT_.out (by kernel_rfl)) ?_
    refine pur_ (i := 2) (N := some 19) q25_3 (any_of HT_.out (by kernel_rfl)) ?_
    refine pur_ (i := 3) (N := some 20) q25_4 (any_of HT_.out (by kernel_rfl)) ?_
    refine pur_ (i := 5) (N := some 22) q25_5 (any_of HT_.out (by kernel_rfl)) ?_
    refine pur_ (i := 6) (N := some 23) q25_6 (any_of HT_.out (by kernel_rfl)) ?_
    refine pur_ (i := 7) (N := some 24) q25_7 (any_of HT_.out (by kernel_rfl)) ?_
    refine pur_ (i := 8) (N := some 25) q25_8 (any_of HT_.out (by kernel_rfl)) ?_
    refine take_ (i := 4) (N := some 21) (v := ?_) (a' := ?_) q25_9 rfl rfl (take_ofW HT_.out HW_.out (by kernel_rfl)) (fun _ _ _ h => h) (Or.inl ⟨by rfl, ?_⟩) hHeld ?_ ?_
    rotate_left
    ·rintro w' ⟨s0, s1, s2, s3, s4, s5, s6, s7, s8, s9, s10, s11, s12, s13, s14, s15, s16, s17, s18, s19, s20, s21, s22, s23, s24, s25, s26, s27, s28, s29, s30, s31, s32, s33, s34, s35⟩
     go_simp
     with_reducible rfl
    rotate_left
    ·simp only [Act.put, List.setIfInBounds_toArray, List.set_cons_zero, List.set_cons_succ, i64_w, i32_w]
     rfl
    refine take_ (i := 9) (N := some 26) (v := ?_) (a' := ?_) q25_10 rfl rfl (take_ofW HT_.out HW_.out (by kernel_rfl)) (fun _ _ _ h => h) (Or.inl ⟨by rfl, ?_⟩) hHeld ?_ ?_
    rotate_left
    ·rintro w' ⟨s0, s1, s2, s3, s4, s5, s6, s7, s8, s9, s10, s11, s12, s13, s14, s15, s16, s17, s18, s19, s20, s21, s22, s23, s24, s25, s26, s27, s28, s29, s30, s31, s32, s33, s34, s35⟩
     go_simp
     with_reducible rfl
    rotate_left
    ·simp only [Act.put, List.setIfInBounds_toArray, List.set_cons_zero, List.set_cons_succ, i64_w, i32_w]
     rfl
    refine pur_ (i := 10) (N := some 27) q25_11 (any_of HT_.out (by kernel_rfl)) ?_
    refine pur_ (i := 11) (N := some 28) q25_12 (any_of HT_.out (by kernel_rfl)) ?_
    refine pur_ (i := 12) (N := some 29) q25_13 (any_of HT_.out (by kernel_rfl)) ?_
    refine pur_ (i := 13) (N := some 30) q25_14 (any_of HT_.out (by kernel_rfl)) ?_
    refine pur_ (i := 14) (N := some 31) q25_15 (any_of HT_.out (by kernel_rfl)) ?_
    refine pur_ (i := 16) (N := some 33) q25_24 (any_of HT_.out (by kernel_rfl)) ?_
    refine pur_ (i := 17) (N := some 34) q25_25 (any_of HT_.out (by kernel_rfl)) ?_
    refine pur_ (i := 18) (N := some 35) q25_26 (any_of HT_.out (by kernel_rfl)) ?_
    refine take_ (i := 15) (N := some 32) (v := ?_) (a' := ?_) q25_19 rfl rfl (take_ofW HT_.out HW_.out (by kernel_rfl)) (fun _ _ _ h => h) (Or.inl ⟨by rfl, ?_⟩) hHeld ?_ ?_
    rotate_left
    ·rintro w' ⟨s0, s1, s2, s3, s4, s5, s6, s7, s8, s9, s10, s11, s12, s13, s14, s15, s16, s17, s18, s19, s20, s21, s22, s23, s24, s25, s26, s27, s28, s29, s30, s31, s32, s33, s34, s35⟩
     go_simp
     with_reducible rfl
    rotate_left
    ·simp only [Act.put, List.setIfInBounds_toArray, List.set_cons_zero, List.set_cons_succ, i64_w, i32_w]
     rfl
    refine take_ (i := 19) (N := some 36) (v := ?_) (a' := ?_) q25_20 rfl rfl (take_ofW HT_.out HW_.out (by kernel_rfl)) (fun _ _ _ h => h) (Or.inl ⟨by rfl, ?_⟩) hHeld ?_ ?_
    rotate_left
    ·rintro w' ⟨s0, s1, s2, s3, s4, s5, s6, s7, s8, s9, s10, s11, s12, s13, s14, s15, s16, s17, s18, s19, s20, s21, s22, s23, s24, s25, s26, s27, s28, s29, s30, s31, s32, s33, s34, s35⟩
     go_simp
     with_reducible rfl
    rotate_left
    ·simp only [Act.put, List.setIfInBounds_toArray, List.set_cons_zero, List.set_cons_succ, i64_w, i32_w]
     rfl
    refine one_ (i := 20) (N := some 37) q25_21 rfl rfl (one_of HT_.out (by kernel_rfl)) (by decide) (fun K hK => ?_)
    refine goes_ Tryd.func20 (by kernel_rfl) rfl #[.agg #[.string ((rd_T38 l0 x5_1).f0), .string ((rd_T38 l0 x5_1).f1), .string ((rd_T38 l0 x5_1).f2), .int .u8 ((rd_T38 l0 x5_1).f3), .int .i64 ((rd_T38 l0 x5_1).f4.f0), .int .i64 ((rd_T38 l0 x5_1).f4.f1), .int .i64 ((rd_T38 l0 x5_1).f4.f2), .int .i64 ((rd_T38 l0 x5_1).f4.f3), .slice A247_8 ((rd_T38 l0 x5_1).f5).length c247_8], .agg #[.string ((rd_T38 l1 x5_1).f0), .string ((rd_T38 l1 x5_1).f1), .string ((rd_T38 l1 x5_1).f2), .int .u8 ((rd_T38 l1 x5_1).f3), .int .i64 ((rd_T38 l1 x5_1).f4.f0), .int .i64 ((rd_T38 l1 x5_1).f4.f1), .int .i64 ((rd_T38 l1 x5_1).f4.f2), .int .i64 ((rd_T38 l1 x5_1).f4.f3), .slice A248_8 ((rd_T38 l1 x5_1).f5).length c248_8]] (by rfl) rfl rfl wm_ ?_
    with_reducible refine (bindleref08_Equal.calls ((rd_T38 l0 x5_1).f0) ((rd_T38 l0 x5_1).f1) ((rd_T38 l0 x5_1).f2) ((rd_T38 l0 x5_1).f3) ((rd_T38 l0 x5_1).f4.f0) ((rd_T38 l0 x5_1).f4.f1) ((rd_T38 l0 x5_1).f4.f2) ((rd_T38 l0 x5_1).f4.f3) _ _ ((rd_T38 l0 x5_1).f5) ((rd_T38 l1 x5_1).f0) ((rd_T38 l1 x5_1).f1) ((rd_T38 l1 x5_1).f2) ((rd_T38 l1 x5_1).f3) ((rd_T38 l1 x5_1).f4.f0) ((rd_T38 l1 x5_1).f4.f1) ((rd_T38 l1 x5_1).f4.f2) ((rd_T38 l1 x5_1).f4.f3) _ _ ((rd_T38 l1 x5_1).f5) false _ ?side1 ?side2 ?side3 ?side4 A8.out).mono ?_
    (case side1 => exact wc_ (Kd.C_below HR249_8.out HB.out))
    (case side2 => exact HC249_8.out)
    (case side3 => exact wc_ (Kd.C_below HR250_8.out HB.out))
    (case side4 => exact HC250_8.out)
    rintro e w13 ⟨rfl, hb⟩
    refine ⟨_, rfl, ?_⟩
    have n0_ := A0_ (below_step (wb_ HB.out) hb)
    clear HB
    have HB := n0_
    clear n0_
    (try clear hb)
    (try clear hb2)
    (try clear hk)
    (try clear hi)
    refine hK.out _ _ ⟨((HB.out.cell (World.block_lt_of_cell? w _ hw247_0)).trans hw247_0), ((HB.out.cell (World.block_lt_of_cell? w _ hw247_1)).trans hw247_1), ((HB.out.cell (World.block_lt_of_cell? w _ hw247_2)).trans hw247_2), ((HB.out.cell (World.block_lt_of_cell? w _ hw247_3)).trans hw247_3), ((HB.out.cell (World.block_lt_of_cell? w _ hw247_4)).trans hw247_4), ((HB.out.cell (World.block_lt_of_cell? w _ hw247_5)).trans hw247_5), ((HB.out.cell (World.block_lt_of_cell? w _ hw247_6)).trans hw247_6), ((HB.out.cell (World.block_lt_of_cell? w _ hw247_7)).trans hw247_7), ((HB.out.cell (World.block_lt_of_cell? w _ hw247_8)).trans hw247_8), ((HB.out.cell (World.block_lt_of_cell? w _ hw248_0)).trans hw248_0), ((HB.out.cell (World.block_lt_of_cell? w _ hw248_1)).trans hw248_1), ((HB.out.cell (World.block_lt_of_cell? w _ hw248_2)).trans hw248_2), ((HB.out.cell (World.block_lt_of_cell? w _ hw248_3)).trans hw248_3), ((HB.out.cell (World.block_lt_of_cell? w _ hw248_4)).trans hw248_4), ((HB.out.cell (World.block_lt_of_cell? w _ hw248_5)).trans hw248_5), ((HB.out.cell (World.block_lt_of_cell? w _ hw248_6)).trans hw248_6), ((HB.out.cell (World.block_lt_of_cell? w _ hw248_7)).trans hw248_7), ((HB.out.cell (World.block_lt_of_cell? w _ hw248_8)).trans hw248_8), ((HB.out.cell (World.block_lt_of_cell? w _ hw249_0)).trans hw249_0), ((HB.out.cell (World.block_lt_of_cell? w _ hw249_1)).trans hw249_1), ((HB.out.cell (World.block_lt_of_cell? w _ hw249_2)).trans hw249_2), ((HB.out.cell (World.block_lt_of_cell? w _ hw249_3)).trans hw249_3), ((HB.out.cell (World.block_lt_of_cell? w _ hw249_4)).trans hw249_4), ((HB.out.cell (World.block_lt_of_cell? w _ hw249_5)).trans hw249_5), ((HB.out.cell (World.block_lt_of_cell? w _ hw249_6)).trans hw249_6), ((HB.out.cell (World.block_lt_of_cell? w _ hw249_7)).trans hw249_7), ((HB.out.cell (World.block_lt_of_cell? w _ hw249_8)).trans hw249_8), ((HB.out.cell (World.block_lt_of_cell? w _ hw250_0)).trans hw250_0), ((HB.out.cell (World.block_lt_of_cell? w _ hw250_1)).trans hw250_1), ((HB.out.cell (World.block_lt_of_cell? w _ hw250_2)).trans hw250_2), ((HB.out.cell (World.block_lt_of_cell? w _ hw250_3)).trans hw250_3), ((HB.out.cell (World.block_lt_of_cell? w _ hw250_4)).trans hw250_4), ((HB.out.cell (World.block_lt_of_cell? w _ hw250_5)).trans hw250_5), ((HB.out.cell (World.block_lt_of_cell? w _ hw250_6)).trans hw250_6), ((HB.out.cell (World.block_lt_of_cell? w _ hw250_7)).trans hw250_7), ((HB.out.cell (World.block_lt_of_cell? w _ hw250_8)).trans hw250_8)⟩ (fun hHeld => ?_)
    clear hK K
    refine norm_ (a' := ?_) ?_ ?_
    rotate_left
    ·show Act.put _ (some 37) _ = _
     simp only [Act.put, List.setIfInBounds_toArray, List.set_cons_zero, List.set_cons_succ, i64_w, i32_w]
     rfl
    refine pur_ (i := 21) (N := some 38) q25_22 (any_of HT_.out (by kernel_rfl)) ?_
    refine pur_ (i := 22) (N := some 39) q25_23 (any_of HT_.out (by kernel_rfl)) ?_
    refine done_ (done_of HT_.out (by kernel_rfl)) ?_
    try go_wp2
    go_ret
    exact ⟨we_, wb_ HB.out⟩
   subst c9
   have H1 : (bindleref08_SameTree.l0 k1 l0 l1 (wrap64 (x5_1 + 1))) = some r := by rw [if_pos rfl] at H; exact H
   clear H
   have H := H1
   clear H1
   have H' := A0_ H
   clear H
   try go_wp2
   have n0_ := A0_ (b1_ HB.out)
   clear HB
   have HB := n0_
   clear n0_
   have p247 : 0 ≤ (x5_1 : Int) := wd_
   have q247 : x5_1 < (l0.length : Int) := wd_
   obtain ⟨ad247, A247_8, c247_8, e247, hx247_0, hx247_1, hx247_2, hx247_3, hx247_4, hx247_5, hx247_6, hx247_7, hx247_8, hl247_8, hi247_8⟩ := at_T38 HR0.out x5_1 p247 q247
   have hw247_8 := hx247_8
   have hw247_7 := hx247_7
   have hw247_6 := hx247_6
   have hw247_5 := hx247_5
   have hw247_4 := hx247_4
   have hw247_3 := hx247_3
   have hw247_2 := hx247_2
   have hw247_1 := hx247_1
   have hw247_0 := hx247_0
   cases e247
   replace hx247_0 := (HB.out.cell (World.block_lt_of_cell? w _ hx247_0)).trans hx247_0
   replace hx247_1 := (HB.out.cell (World.block_lt_of_cell? w _ hx247_1)).trans hx247_1
   replace hx247_2 := (HB.out.cell (World.block_lt_of_cell? w _ hx247_2)).trans hx247_2
   replace hx247_3 := (HB.out.cell (World.block_lt_of_cell? w _ hx247_3)).trans hx247_3
   replace hx247_4 := (HB.out.cell (World.block_lt_of_cell? w _ hx247_4)).trans hx247_4
   replace hx247_5 := (HB.out.cell (World.block_lt_of_cell? w _ hx247_5)).trans hx247_5
   replace hx247_6 := (HB.out.cell (World.block_lt_of_cell? w _ hx247_6)).trans hx247_6
   replace hx247_7 := (HB.out.cell (World.block_lt_of_cell? w _ hx247_7)).trans hx247_7
   replace hx247_8 := (HB.out.cell (World.block_lt_of_cell? w _ hx247_8)).trans hx247_8
   have HR247_8 := A0_ hi247_8
   have HC247_8 := A0_ hl247_8
   clear hi247_8 hl247_8
   replace p247 := eq_true p247
   replace q247 := eq_true q247
   have p248 : 0 ≤ (x5_1 : Int) := wd_
   have q248 : x5_1 < (l1.length : Int) := wd_
   obtain ⟨ad248, A248_8, c248_8, e248, hx248_0, hx248_1, hx248_2, hx248_3, hx248_4, hx248_5, hx248_6, hx248_7, hx248_8, hl248_8, hi248_8⟩ := at_T38 HR1.out x5_1 p248 q248
   have hw248_8 := hx248_8
   have hw248_7 := hx248_7
   have hw248_6 := hx248_6
   have hw248_5 := hx248_5
   have hw248_4 := hx248_4
   have hw248_3 := hx248_3
   have hw248_2 := hx248_2
   have hw248_1 := hx248_1
   have hw248_0 := hx248_0
   cases e248
   replace hx248_0 := (HB.out.cell (World.block_lt_of_cell? w _ hx248_0)).trans hx248_0
   replace hx248_1 := (HB.out.cell (World.block_lt_of_cell? w _ hx248_1)).trans hx248_1
   replace hx248_2 := (HB.out.cell (World.block_lt_of_cell? w _ hx248_2)).trans hx248_2
   replace hx248_3 := (HB.out.cell (World.block_lt_of_cell? w _ hx248_3)).trans hx248_3
   replace hx248_4 := (HB.out.cell (World.block_lt_of_cell? w _ hx248_4)).trans hx248_4
   replace hx248_5 := (HB.out.cell (World.block_lt_of_cell? w _ hx248_5)).trans hx248_5
   replace hx248_6 := (HB.out.cell (World.block_lt_of_cell? w _ hx248_6)).trans hx248_6
   replace hx248_7 := (HB.out.cell (World.block_lt_of_cell? w _ hx248_7)).trans hx248_7
   replace hx248_8 := (HB.out.cell (World.block_lt_of_cell? w _ hx248_8)).trans hx248_8
   have HR248_8 := A0_ hi248_8
   have HC248_8 := A0_ hl248_8
   clear hi248_8 hl248_8
   replace p248 := eq_true p248
   replace q248 := eq_true q248
   have p249 : 0 ≤ (x5_1 : Int) := wd_
   have q249 : x5_1 < (l0.length : Int) := wd_
   obtain ⟨ad249, A249_8, c249_8, e249, hx249_0, hx249_1, hx249_2, hx249_3, hx249_4, hx249_5, hx249_6, hx249_7, hx249_8, hl249_8, hi249_8⟩ := at_T38 HR0.out x5_1 p249 q249
   have hw249_8 := hx249_8
   have hw249_7 := hx249_7
   have hw249_6 := hx249_6
   have hw249_5 := hx249_5
   have hw249_4 := hx249_4
   have hw249_3 := hx249_3
   have hw249_2 := hx249_2
   have hw249_1 := hx249_1
   have hw249_0 := hx249_0
   obtain rfl : ad247 = ad249 := (by injection e249)
   replace hx249_0 := (HB.out.cell (World.block_lt_of_cell? w _ hx249_0)).trans hx249_0
   replace hx249_1 := (HB.out.cell (World.block_lt_of_cell? w _ hx249_1)).trans hx249_1
   replace hx249_2 := (HB.out.cell (World.block_lt_of_cell? w _ hx249_2)).trans hx249_2
   replace hx249_3 := (HB.out.cell (World.block_lt_of_cell? w _ hx249_3)).trans hx249_3
   replace hx249_4 := (HB.out.cell (World.block_lt_of_cell? w _ hx249_4)).trans hx249_4
   replace hx249_5 := (HB.out.cell (World.block_lt_of_cell? w _ hx249_5)).trans hx249_5
   replace hx249_6 := (HB.out.cell (World.block_lt_of_cell? w _ hx249_6)).trans hx249_6
   replace hx249_7 := (HB.out.cell (World.block_lt_of_cell? w _ hx249_7)).trans hx249_7
   replace hx249_8 := (HB.out.cell (World.block_lt_of_cell? w _ hx249_8)).trans hx249_8
   have HR249_8 := A0_ hi249_8
   have HC249_8 := A0_ hl249_8
   clear hi249_8 hl249_8
   replace p249 := eq_true p249
   replace q249 := eq_true q249
   have ea_ := Option.some.inj (hx247_8.symm.trans hx249_8)
   injection ea_ with ea_ en_ ec_
   subst ea_
   subst ec_
   clear en_
   have p250 : 0 ≤ (x5_1 : Int) := wd_
   have q250 : x5_1 < (l1.length : Int) := wd_
   obtain ⟨ad250, A250_8, c250_8, e250, hx250_0, hx250_1, hx250_2, hx250_3, hx250_4, hx250_5, hx250_6, hx250_7, hx250_8, hl250_8, hi250_8⟩ := at_T38 HR1.out x5_1 p250 q250
   have hw250_8 := hx250_8
   have hw250_7 := hx250_7
   have hw250_6 := hx250_6
   have hw250_5 := hx250_5
   have hw250_4 := hx250_4
   have hw250_3 := hx250_3
   have hw250_2 := hx250_2
   have hw250_1 := hx250_1
   have hw250_0 := hx250_0
   obtain rfl : ad248 = ad250 := (by injection e250)
   replace hx250_0 := (HB.out.cell (World.block_lt_of_cell? w _ hx250_0)).trans hx250_0
   replace hx250_1 := (HB.out.cell (World.block_lt_of_cell? w _ hx250_1)).trans hx250_1
   replace hx250_2 := (HB.out.cell (World.block_lt_of_cell? w _ hx250_2)).trans hx250_2
   replace hx250_3 := (HB.out.cell (World.block_lt_of_cell? w _ hx250_3)).trans hx250_3
   replace hx250_4 := (HB.out.cell (World.block_lt_of_cell? w _ hx250_4)).trans hx250_4
   replace hx250_5 := (HB.out.cell (World.block_lt_of_cell? w _ hx250_5)).trans hx250_5
   replace hx250_6 := (HB.out.cell (World.block_lt_of_cell? w _ hx250_6)).trans hx250_6
   replace hx250_7 := (HB.out.cell (World.block_lt_of_cell? w _ hx250_7)).trans hx250_7
   replace hx250_8 := (HB.out.cell (World.block_lt_of_cell? w _ hx250_8)).trans hx250_8
   have HR250_8 := A0_ hi250_8
   have HC250_8 := A0_ hl250_8
   clear hi250_8 hl250_8
   replace p250 := eq_true p250
   replace q250 := eq_true q250
   have ea_ := Option.some.inj (hx248_8.symm.trans hx250_8)
   injection ea_ with ea_ en_ ec_
   subst ea_
   subst ec_
   clear en_
   refine start_ (n := 23) (S := fun w' => w'.cell? (ad247.add ((x5_1).toNat * 9)) = some (.string ((rd_T38 l0 x5_1).f0)) ∧ w'.cell? ⟨(ad247.add ((x5_1).toNat * 9)).block, (ad247.add ((x5_1).toNat * 9)).off + 1, none⟩ = some (.string ((rd_T38 l0 x5_1).f1)) ∧ w'.cell? ⟨(ad247.add ((x5_1).toNat * 9)).block, (ad247.add ((x5_1).toNat * 9)).off + 2, none⟩ = some (.string ((rd_T38 l0 x5_1).f2)) ∧ w'.cell? ⟨(ad247.add ((x5_1).toNat * 9)).block, (ad247.add ((x5_1).toNat * 9)).off + 3, none⟩ = some (.int .u8 ((rd_T38 l0 x5_1).f3)) ∧ w'.cell? ⟨(ad247.add ((x5_1).toNat * 9)).block, (ad247.add ((x5_1).toNat * 9)).off + 4, none⟩ = some (.int .i64 ((rd_T38 l0 x5_1).f4.f0)) ∧ w'.cell? ⟨(ad247.add ((x5_1).toNat * 9)).block, (ad247.add ((x5_1).toNat * 9)).off + 5, none⟩ = some (.int .i64 ((rd_T38 l0 x5_1).f4.f1)) ∧ w'.cell? ⟨(ad247.add ((x5_1).toNat * 9)).block, (ad247.add ((x5_1).toNat * 9)).off + 6, none⟩ = some (.int .i64 ((rd_T38 l0 x5_1).f4.f2)) ∧ w'.cell? ⟨(ad247.add ((x5_1).toNat * 9)).block, (ad247.add ((x5_1).toNat * 9)).off + 7, none⟩ = some (.int .i64 ((rd_T38 l0 x5_1).f4.f3)) ∧ w'.cell? ⟨(ad247.add ((x5_1).toNat * 9)).block, (ad247.add ((x5_1).toNat * 9)).off + 8, none⟩ = some (.slice A247_8 ((rd_T38 l0 x5_1).f5).length c247_8) ∧ w'.cell? (ad248.add ((x5_1).toNat * 9)) = some (.string ((rd_T38 l1 x5_1).f0)) ∧ w'.cell? ⟨(ad248.add ((x5_1).toNat * 9)).block, (ad248.add ((x5_1).toNat * 9)).off + 1, none⟩ = some (.string ((rd_T38 l1 x5_1).f1)) ∧ w'.cell? ⟨(ad248.add ((x5_1).toNat * 9)).block, (ad248.add ((x5_1).toNat * 9)).off + 2, none⟩ = some (.string ((rd_T38 l1 x5_1).f2)) ∧ w'.cell? ⟨(ad248.add ((x5_1).toNat * 9)).block, (ad248.add ((x5_1).toNat * 9)).off + 3, none⟩ = some (.int .u8 ((rd_T38 l1 x5_1).f3)) ∧ w'.cell? ⟨(ad248.add ((x5_1).toNat * 9)).block, (ad248.add ((x5_1).toNat * 9)).off + 4, none⟩ = some (.int .i64 ((rd_T38 l1 x5_1).f4.f0)) ∧ w'.cell? ⟨(ad248.add ((x5_1).toNat * 9)).block, (ad248.add ((x5_1).toNat * 9)).off + 5, none⟩ = some (.int .i64 ((rd_T38 l1 x5_1).f4.f1)) ∧ w'.cell? ⟨(ad248.add ((x5_1).toNat * 9)).block, (ad248.add ((x5_1).toNat * 9)).off + 6, none⟩ = some (.int .i64 ((rd_T38 l1 x5_1).f4.f2)) ∧ w'.cell? ⟨(ad248.add ((x5_1).toNat * 9)).block, (ad248.add ((x5_1).toNat * 9)).off + 7, none⟩ = some (.int .i64 ((rd_T38 l1 x5_1).f4.f3)) ∧ w'.cell? ⟨(ad248.add ((x5_1).toNat * 9)).block, (ad248.add ((x5_1).toNat * 9)).off + 8, none⟩ = some (.slice A248_8 ((rd_T38 l1 x5_1).f5).length c248_8) ∧ w'.cell? (ad247.add ((x5_1).toNat * 9)) = some (.string ((rd_T38 l0 x5_1).f0)) ∧ w'.cell? ⟨(ad247.add ((x5_1).toNat * 9)).block, (ad247.add ((x5_1).toNat * 9)).off + 1, none⟩ = some (.string ((rd_T38 l0 x5_1).f1)) ∧ w'.cell? ⟨(ad247.add ((x5_1).toNat * 9)).block, (ad247.add ((x5_1).toNat * 9)).off + 2, none⟩ = some (.string ((rd_T38 l0 x5_1).f2)) ∧ w'.cell? ⟨(ad247.add ((x5_1).toNat * 9)).block, (ad247.add ((x5_1).toNat * 9)).off + 3, none⟩ = some (.int .u8 ((rd_T38 l0 x5_1).f3)) ∧ w'.cell? ⟨(ad247.add ((x5_1).toNat * 9)).block, (ad247.add ((x5_1).toNat * 9)).off + 4, none⟩ = some (.int .i64 ((rd_T38 l0 x5_1).f4.f0)) ∧ w'.cell? ⟨(ad247.add ((x5_1).toNat * 9)).block, (ad247.add ((x5_1).toNat * 9)).off + 5, none⟩ = some (.int .i64 ((rd_T38 l0 x5_1).f4.f1)) ∧ w'.cell? ⟨(ad247.add ((x5_1).toNat * 9)).block, (ad247.add ((x5_1).toNat * 9)).off + 6, none⟩ = some (.int .i64 ((rd_T38 l0 x5_1).f4.f2)) ∧ w'.cell? ⟨(ad247.add ((x5_1).toNat * 9)).block, (ad247.add ((x5_1).toNat * 9)).off + 7, none⟩ = some (.int .i64 ((rd_T38 l0 x5_1).f4.f3)) ∧ w'.cell? ⟨(ad247.add ((x5_1).toNat * 9)).block, (ad247.add ((x5_1).toNat * 9)).off + 8, none⟩ = some (.slice A247_8 ((rd_T38 l0 x5_1).f5).length c247_8) ∧ w'.cell? (ad248.add ((x5_1).toNat * 9)) = some (.string ((rd_T38 l1 x5_1).f0)) ∧ w'.cell? ⟨(ad248.add ((x5_1).toNat * 9)).block, (ad248.add ((x5_1).toNat * 9)).off + 1, none⟩ = some (.string ((rd_T38 l1 x5_1).f1)) ∧ w'.cell? ⟨(ad248.add ((x5_1).toNat * 9)).block, (ad248.add ((x5_1).toNat * 9)).off + 2, none⟩ = some (.string ((rd_T38 l1 x5_1).f2)) ∧ w'.cell? ⟨(ad248.add ((x5_1).toNat * 9)).block, (ad248.add ((x5_1).toNat * 9)).off + 3, none⟩ = some (.int .u8 ((rd_T38 l1 x5_1).f3)) ∧ w'.cell? ⟨(ad248.add ((x5_1).toNat * 9)).block, (ad248.add ((x5_1).toNat * 9)).off + 4, none⟩ = some (.int .i64 ((rd_T38 l1 x5_1).f4.f0)) ∧ w'.cell? ⟨(ad248.add ((x5_1).toNat * 9)).block, (ad248.add ((x5_1).toNat * 9)).off + 5, none⟩ = some (.int .i64 ((rd_T38 l1 x5_1).f4.f1)) ∧ w'.cell? ⟨(ad248.add ((x5_1).toNat * 9)).block, (ad248.add ((x5_1).toNat * 9)).off + 6, none⟩ = some (.int .i64 ((rd_T38 l1 x5_1).f4.f2)) ∧ w'.cell? ⟨(ad248.add ((x5_1).toNat * 9)).block, (ad248.add ((x5_1).toNat * 9)).off + 7, none⟩ = some (.int .i64 ((rd_T38 l1 x5_1).f4.f3)) ∧ w'.cell? ⟨(ad248.add ((x5_1).toNat * 9)).block, (ad248.add ((x5_1).toNat * 9)).off + 8, none⟩ = some (.slice A248_8 ((rd_T38 l1 x5_1).f5).length c248_8)) (ds := []) q25_0 (by kernel_rfl) rfl rfl ⟨((HB.out.cell (World.block_lt_of_cell? w _ hw247_0)).trans hw247_0), ((HB.out.cell (World.block_lt_of_cell? w _ hw247_1)).trans hw247_1), ((HB.out.cell (World.block_lt_of_cell? w _ hw247_2)).trans hw247_2), ((HB.out.cell (World.block_lt_of_cell? w _ hw247_3)).trans hw247_3), ((HB.out.cell (World.block_lt_of_cell? w _ hw247_4)).trans hw247_4), ((HB.out.cell (World.block_lt_of_cell? w _ hw247_5)).trans hw247_5), ((HB.out.cell (World.block_lt_of_cell? w _ hw247_6)).trans hw247_6), ((HB.out.cell (World.block_lt_of_cell? w _ hw247_7)).trans hw247_7), ((HB.out.cell (World.block_lt_of_cell? w _ hw247_8)).trans hw247_8), ((HB.out.cell (World.block_lt_of_cell? w _ hw248_0)).trans hw248_0), ((HB.out.cell (World.block_lt_of_cell? w _ hw248_1)).trans hw248_1), ((HB.out.cell (World.block_lt_of_cell? w _ hw248_2)).trans hw248_2), ((HB.out.cell (World.block_lt_of_cell? w _ hw248_3)).trans hw248_3), ((HB.out.cell (World.block_lt_of_cell? w _ hw248_4)).trans hw248_4), ((HB.out.cell (World.block_lt_of_cell? w _ hw248_5)).trans hw248_5), ((HB.out.cell (World.block_lt_of_cell? w _ hw248_6)).trans hw248_6), ((HB.out.cell (World.block_lt_of_cell? w _ hw248_7)).trans hw248_7), ((HB.out.cell (World.block_lt_of_cell? w _ hw248_8)).trans hw248_8), ((HB.out.cell (World.block_lt_of_cell? w _ hw249_0)).trans hw249_0), ((HB.out.cell (World.block_lt_of_cell? w _ hw249_1)).trans hw249_1), ((HB.out.cell (World.block_lt_of_cell? w _ hw249_2)).trans hw249_2), ((HB.out.cell (World.block_lt_of_cell? w _ hw249_3)).trans hw249_3), ((HB.out.cell (World.block_lt_of_cell? w _ hw249_4)).trans hw249_4), ((HB.out.cell (World.block_lt_of_cell? w _ hw249_5)).trans hw249_5), ((HB.out.cell (World.block_lt_of_cell? w _ hw249_6)).trans hw249_6), ((HB.out.cell (World.block_lt_of_cell? w _ hw249_7)).trans hw249_7), ((HB.out.cell (World.block_lt_of_cell? w _ hw249_8)).trans hw249_8), ((HB.out.cell (World.block_lt_of_cell? w _ hw250_0)).trans hw250_0), ((HB.out.cell (World.block_lt_of_cell? w _ hw250_1)).trans hw250_1), ((HB.out.cell (World.block_lt_of_cell? w _ hw250_2)).trans hw250_2), ((HB.out.cell (World.block_lt_of_cell? w _ hw250_3)).trans hw250_3), ((HB.out.cell (World.block_lt_of_cell? w _ hw250_4)).trans hw250_4), ((HB.out.cell (World.block_lt_of_cell? w _ hw250_5)).trans hw250_5), ((HB.out.cell (World.block_lt_of_cell? w _ hw250_6)).trans hw250_6), ((HB.out.cell (World.block_lt_of_cell? w _ hw250_7)).trans hw250_7), ((HB.out.cell (World.block_lt_of_cell? w _ hw250_8)).trans hw250_8)⟩ (fun hHeld => ?_); refine with_tabW bindleref08_SameTree.tab6 bindleref08_SameTree.bits6 (fun HT_ HW_ => ?_)
   generalize wr.drew = w10 at HB HR247_8 HR248_8 HR249_8 HR250_8 hx247_0 hx247_1 hx247_2 hx247_3 hx247_4 hx247_5 hx247_6 hx247_7 hx247_8 hx248_0 hx248_1 hx248_2 hx248_3 hx248_4 hx248_5 hx248_6 hx248_7 hx248_8 hx249_0 hx249_1 hx249_2 hx249_3 hx249_4 hx249_5 hx249_6 hx249_7 hx249_8 hx250_0 hx250_1 hx250_2 hx250_3 hx250_4 hx250_5 hx250_6 hx250_7 hx250_8 hHeld ⊢
   refine pur_ (i := 0) (N := some 17) q25_1 (any_of HT_.out (by kernel_rfl)) ?_
   refine pur_ (i := 1) (N := some 18) q25_2 (any_of HT_.out (by kernel_rfl)) ?_
   refine pur_ (i := 2) (N := some 19) q25_3 (any_of HT_.out (by kernel_rfl)) ?_
   refine pur_ (i := 3) (N := some 20) q25_4 (any_of HT_.out (by kernel_rfl)) ?_
   refine pur_ (i := 5) (N := some 22) q25_5 (any_of HT_.out (by kernel_rfl)) ?_
   refine pur_ (i := 6) (N := some 23) q25_6 (any_of HT_.out (by kernel_rfl)) ?_
   refine pur_ (i := 7) (N := some 24) q25_7 (any_of HT_.out (by kernel_rfl)) ?_
   refine pur_ (i := 8) (N := some 25) q25_8 (any_of HT_.out (by kernel_rfl)) ?_
   refine take_ (i := 4) (N := some 21) (v := ?_) (a' := ?_) q25_9 rfl rfl (take_ofW HT_.out HW_.out (by kernel_rfl)) (fun _ _ _ h => h) (Or.inl ⟨by rfl, ?_⟩) hHeld ?_ ?_
   rotate_left
   ·rintro w' ⟨s0, s1, s2, s3, s4, s5, s6, s7, s8, s9, s10, s11, s12, s13, s14, s15, s16, s17, s18, s19, s20, s21, s22, s23, s24, s25, s26, s27, s28, s29, s30, s31, s32, s33, s34, s35⟩
    go_simp
    with_reducible rfl
   rotate_left
   ·simp only [Act.put, List.setIfInBounds_toArray, List.set_cons_zero, List.set_cons_succ, i64_w, i32_w]
    rfl
   refine take_ (i := 9) (N := some 26) (v := ?_) (a' := ?_) q25_10 rfl rfl (take_ofW HT_.out HW_.out (by kernel_rfl)) (fun _ _ _ h => h) (Or.inl ⟨by rfl, ?_⟩) hHeld ?_ ?_
   rotate_left
   ·rintro w' ⟨s0, s1, s2, s3, s4, s5, s6, s7, s8, s9, s10, s11, s12, s13, s14, s15, s16, s17, s18, s19, s20, s21, s22, s23, s24, s25, s26, s27, s28, s29, s30, s31, s32, s33, s34, s35⟩
    go_simp
    with_reducible rfl
   rotate_left
   ·simp only [Act.put, List.setIfInBounds_toArray, List.set_cons_zero, List.set_cons_succ, i64_w, i32_w]
    rfl
   refine pur_ (i := 10) (N := some 27) q25_11 (any_of HT_.out (by kernel_rfl)) ?_
   refine pur_ (i := 11) (N := some 28) q25_12 (any_of HT_.out (by kernel_rfl)) ?_
   refine pur_ (i := 12) (N := some 29) q25_13 (any_of HT_.out (by kernel_rfl)) ?_
   refine pur_ (i := 13) (N := some 30) q25_14 (any_of HT_.out (by kernel_rfl)) ?_
   refine pur_ (i := 14) (N := some 31) q25_15 (any_of HT_.out (by kernel_rfl)) ?_
   refine pur_ (i := 16) (N := some 33) q25_24 (any_of HT_.out (by kernel_rfl)) ?_
   refine pur_ (i := 17) (N := some 34) q25_25 (any_of HT_.out (by kernel_rfl)) ?_
   refine pur_ (i := 18) (N := some 35) q25_26 (any_of HT_.out (by kernel_rfl)) ?_
   refine take_ (i := 15) (N := some 32) (v := ?_) (a' := ?_) q25_19 rfl rfl (take_ofW HT_.out HW_.out (by kernel_rfl)) (fun _ _ _ h => h) (Or.inl ⟨by rfl, ?_⟩) hHeld ?_ ?_
   rotate_left
   ·rintro w' ⟨s0, s1, s2, s3, s4, s5, s6, s7, s8, s9, s10, s11, s12, s13, s14, s15, s16, s17, s18, s19, s20, s21, s22, s23, s24, s25, s26, s27, s28, s29, s30, s31, s32, s33, s34, s35⟩
    go_simp
    with_reducible rfl
   rotate_left
   ·simp only [Act.put, List.setIfInBounds_toArray, List.set_cons_zero, List.set_cons_succ, i64_w, i32_w]
    rfl
   refine take_ (i := 19) (N := some 36) (v := ?_) (a' := ?_) q25_20 rfl rfl (take_ofW HT_.out HW_.out (by kernel_rfl)) (fun _ _ _ h => h) (Or.inl ⟨by rfl, ?_⟩) hHeld ?_ ?_
   rotate_left
   ·rintro w' ⟨s0, s1, s2, s3, s4, s5, s6, s7, s8, s9, s10, s11, s12, s13, s14, s15, s16, s17, s18, s19, s20, s21, s22, s23, s24, s25, s26, s27, s28, s29, s30, s31, s32, s33, s34, s35⟩
    go_simp
    with_reducible rfl
   rotate_left
   ·simp only [Act.put, List.setIfInBounds_toArray, List.set_cons_zero, List.set_cons_succ, i64_w, i32_w]
    rfl
   refine one_ (i := 20) (N := some 37) q25_21 rfl rfl (one_of HT_.out (by kernel_rfl)) (by decide) (fun K hK => ?_)
   refine goes_ Tryd.func20 (by kernel_rfl) rfl #[.agg #[.string ((rd_T38 l0 x5_1).f0), .string ((rd_T38 l0 x5_1).f1), .string ((rd_T38 l0 x5_1).f2), .int .u8 ((rd_T38 l0 x5_1).f3), .int .i64 ((rd_T38 l0 x5_1).f4.f0), .int .i64 ((rd_T38 l0 x5_1).f4.f1), .int .i64 ((rd_T38 l0 x5_1).f4.f2), .int .i64 ((rd_T38 l0 x5_1).f4.f3), .slice A247_8 ((rd_T38 l0 x5_1).f5).length c247_8], .agg #[.string ((rd_T38 l1 x5_1).f0), .string ((rd_T38 l1 x5_1).f1), .string ((rd_T38 l1 x5_1).f2), .int .u8 ((rd_T38 l1 x5_1).f3), .int .i64 ((rd_T38 l1 x5_1).f4.f0), .int .i64 ((rd_T38 l1 x5_1).f4.f1), .int .i64 ((rd_T38 l1 x5_1).f4.f2), .int .i64 ((rd_T38 l1 x5_1).f4.f3), .slice A248_8 ((rd_T38 l1 x5_1).f5).length c248_8]] (by rfl) rfl rfl wm_ ?_
   with_reducible refine (bindleref08_Equal.calls ((rd_T38 l0 x5_1).f0) ((rd_T38 l0 x5_1).f1) ((rd_T38 l0 x5_1).f2) ((rd_T38 l0 x5_1).f3) ((rd_T38 l0 x5_1).f4.f0) ((rd_T38 l0 x5_1).f4.f1) ((rd_T38 l0 x5_1).f4.f2) ((rd_T38 l0 x5_1).f4.f3) _ _ ((rd_T38 l0 x5_1).f5) ((rd_T38 l1 x5_1).f0) ((rd_T38 l1 x5_1).f1) ((rd_T38 l1 x5_1).f2) ((rd_T38 l1 x5_1).f3) ((rd_T38 l1 x5_1).f4.f0) ((rd_T38 l1 x5_1).f4.f1) ((rd_T38 l1 x5_1).f4.f2) ((rd_T38 l1 x5_1).f4.f3) _ _ ((rd_T38 l1 x5_1).f5) true _ ?side1 ?side2 ?side3 ?side4 A8.out).mono ?_
   (case side1 => exact wc_ (Kd.C_below HR249_8.out HB.out))
   (case side2 => exact HC249_8.out)
   (case side3 => exact wc_ (Kd.C_below HR250_8.out HB.out))
   (case side4 => exact HC250_8.out)
   rintro e w11 ⟨rfl, hb⟩
   refine ⟨_, rfl, ?_⟩
   have n0_ := A0_ (below_step (wb_ HB.out) hb)
   clear HB
   have HB := n0_
   clear n0_
   (try clear hb)
   (try clear hb2)
   (try clear hk)
   (try clear hi)
   refine hK.out _ _ ⟨((HB.out.cell (World.block_lt_of_cell? w _ hw247_0)).trans hw247_0), ((HB.out.cell (World.block_lt_of_cell? w _ hw247_1)).trans hw247_1), ((HB.out.cell (World.block_lt_of_cell? w _ hw247_2)).trans hw247_2), ((HB.out.cell (World.block_lt_of_cell? w _ hw247_3)).trans hw247_3), ((HB.out.cell (World.block_lt_of_cell? w _ hw247_4)).trans hw247_4), ((HB.out.cell (World.block_lt_of_cell? w _ hw247_5)).trans hw247_5), ((HB.out.cell (World.block_lt_of_cell? w _ hw247_6)).trans hw247_6), ((HB.out.cell (World.block_lt_of_cell? w _ hw247_7)).trans hw247_7), ((HB.out.cell (World.block_lt_of_cell? w _ hw247_8)).trans hw247_8), ((HB.out.cell (World.block_lt_of_cell? w _ hw248_0)).trans hw248_0), ((HB.out.cell (World.block_lt_of_cell? w _ hw248_1)).trans hw248_1), ((HB.out.cell (World.block_lt_of_cell? w _ hw248_2)).trans hw248_2), ((HB.out.cell (World.block_lt_of_cell? w _ hw248_3)).trans hw248_3), ((HB.out.cell (World.block_lt_of_cell? w _ hw248_4)).trans hw248_4), ((HB.out.cell (World.block_lt_of_cell? w _ hw248_5)).trans hw248_5), ((HB.out.cell (World.block_lt_of_cell? w _ hw248_6)).trans hw248_6), ((HB.out.cell (World.block_lt_of_cell? w _ hw248_7)).trans hw248_7), ((HB.out.cell (World.block_lt_of_cell? w _ hw248_8)).trans hw248_8), ((HB.out.cell (World.block_lt_of_cell? w _ hw249_0)).trans hw249_0), ((HB.out.cell (World.block_lt_of_cell? w _ hw249_1)).trans hw249_1), ((HB.out.cell (World.block_lt_of_cell? w _ hw249_2)).trans hw249_2), ((HB.out.cell (World.block_lt_of_cell? w _ hw249_3)).trans hw249_3), ((HB.out.cell (World.block_lt_of_cell? w _ hw249_4)).trans hw249_4), ((HB.out.cell (World.block_lt_of_cell? w _ hw249_5)).trans hw249_5), ((HB.out.cell (World.block_lt_of_cell? w _ hw249_6)).trans hw249_6), ((HB.out.cell (World.block_lt_of_cell? w _ hw249_7)).trans hw249_7), ((HB.out.cell (World.block_lt_of_cell? w _ hw249_8)).trans hw249_8), ((HB.out.cell (World.block_lt_of_cell? w _ hw250_0)).trans hw250_0), ((HB.out.cell (World.block_lt_of_cell? w _ hw250_1)).trans hw250_1), ((HB.out.cell (World.block_lt_of_cell? w _ hw250_2)).trans hw250_2), ((HB.out.cell (World.block_lt_of_cell? w _ hw250_3)).trans hw250_3), ((HB.out.cell (World.block_lt_of_cell? w _ hw250_4)).trans hw250_4), ((HB.out.cell (World.block_lt_of_cell? w _ hw250_5)).trans hw250_5), ((HB.out.cell (World.block_lt_of_cell? w _ hw250_6)).trans hw250_6), ((HB.out.cell (World.block_lt_of_cell? w _ hw250_7)).trans hw250_7), ((HB.out.cell (World.block_lt_of_cell? w _ hw250_8)).trans hw250_8)⟩ (fun hHeld => ?_)
   clear hK K
   refine norm_ (a' := ?_) ?_ ?_
   rotate_left
   ·show Act.put _ (some 37) _ = _
    simp only [Act.put, List.setIfInBounds_toArray, List.set_cons_zero, List.set_cons_succ, i64_w, i32_w]
    rfl
   refine pur_ (i := 21) (N := some 38) q25_22 (any_of HT_.out (by kernel_rfl)) ?_
   refine pur_ (i := 22) (N := some 39) q25_23 (any_of HT_.out (by kernel_rfl)) ?_
   refine done_ (done_of HT_.out (by kernel_rfl)) ?_
   try go_wp2
   go_roundg k1
   case measure => have := HK1.out; omega
   case rel => exact ⟨(wrap64 (x5_1 + 1)), wr_, H', ⟨by have := HK1.out; omega⟩, ⟨wb_ HB.out⟩⟩
end Go.Proofs.YtfmphccoeinhcaaDoor.Print

namespace Go.Proofs.YtfmphccoeinhcaaDoor
open Go.RowKit Go.Proofs.YtfmphccoeinhcaaDoor.Print Go.Proofs.YtfmphccoeinhcaaDoorW.PrintWords
set_option linter.unusedVariables false
theorem requal_f (a b : Node) : bindleref08_Equal.f a.f0 a.f1 a.f2 a.f3 a.f4.f0 a.f4.f1 a.f4.f2 a.f4.f3 a.f5 b.f0 b.f1 b.f2 b.f3 b.f4.f0 b.f4.f1 b.f4.f2 b.f4.f3 b.f5 = some (equalB a b) := by
 unfold bindleref08_Equal.f
 exact equal_chain a b rfl
theorem rdN_nat' (l : List Node) (j : Nat) (h : j < l.length) : rd_T38 l (j : Int) = l[j] := by rw [rdN_at l j (by omega) (by omega)]; simp
theorem sameB_size : ∀ (l r : List Node), sameB l r = true → l.length = r.length
 | [], [], _ => rfl
 | [], _ :: _, h => by cases h
 | _ :: _, [], h => by cases h
 | a :: l, b :: r, h => by
  rw [sameB, Bool.and_eq_true] at h
  rw [List.length_cons, List.length_cons, sameB_size l r h.2]
theorem sameTree_l (l r : List Node) (hl : l.length = r.length) (hlen : l.length ≤ 4611686018427387904) : ∀ (d i : Nat), i + d = l.length → Ev (fun k => bindleref08_SameTree.l0 k l r (i : Int)) (sameB (l.drop i) (r.drop i)) := by
 intro d
 induction d with
 | zero =>
  intro i hi
  rw [List.drop_of_length_le (by omega), List.drop_of_length_le (by omega)]
  exact Ev.step (f := fun _ => some true) (fun k => by rw [bindleref08_SameTree.l0, if_neg (by omega)]) (Ev.now _)
 | succ d ih =>
  intro i hi
  have hil : i < l.length := by omega
  have hir : i < r.length := by omega
  rw [List.drop_eq_getElem_cons hil, List.drop_eq_getElem_cons hir, sameB]
  by_cases he : l[i].f2.toList = r[i].f2.toList
  ·rw [decide_eq_true he, Bool.true_and]
   cases hb : equalB l[i] r[i] with
   | true =>
    rw [Bool.true_and]
    refine Ev.step (fun k => ?_) (ih (i + 1) (by omega))
    rw [bindleref08_SameTree.l0, if_pos (by omega), if_pos (by omega), if_pos (by omega), rdN_nat' l i hil, rdN_nat' r i hir, if_pos he, requal_f, hb, Option.bind_some, if_pos rfl]
    rw [show wrap64 ((i : Int) + 1) = ((i + 1 : Nat) : Int) by unfold wrap64; omega]
   | false =>
    rw [Bool.false_and]
    refine Ev.step (f := fun _ => some false) (fun k => ?_) (Ev.now _)
    rw [bindleref08_SameTree.l0, if_pos (by omega), if_pos (by omega), if_pos (by omega), rdN_nat' l i hil, rdN_nat' r i hir, if_pos he, requal_f, hb, Option.bind_some, if_neg (by simp)]
  ·rw [decide_eq_false he, Bool.false_and, Bool.false_and]
   refine Ev.step (f := fun _ => some false) (fun k => ?_) (Ev.now _)
   rw [bindleref08_SameTree.l0, if_pos (by omega), if_pos (by omega), if_pos (by omega), rdN_nat' l i hil, rdN_nat' r i hir, if_neg he]
theorem sameTree_eq (l r : List Node) (hlen : l.length ≤ 4611686018427387904) : Ev (fun k => bindleref08_SameTree.f k l r) (sameB l r) := by
 by_cases hl : l.length = r.length
 ·refine Ev.congr (fun k => ?_) (sameTree_l l r hl hlen l.length 0 (by omega))
  unfold bindleref08_SameTree.f
  rw [if_pos (by omega)]
  rfl
 ·have hf : sameB l r = false := by
   rw [Bool.eq_false_iff]
   exact fun h => hl (sameB_size l r h)
  rw [hf]
  refine Ev.congr (f := fun _ => some false) (fun k => ?_) (Ev.now _)
  unfold bindleref08_SameTree.f
  rw [if_neg (by omega)]
end Go.Proofs.YtfmphccoeinhcaaDoor

namespace Go.Proofs.YtfmphccoeinhcaaDoor.Print
open Go.RowKit Go.Proofs.YtfmphccoeinhcaaDoorW.PrintWords Go.Proofs.YtfmphccoeinhcaaDoorW.PrintLast Go.Proofs.YtfmphccoeinhcaaDoorW.PrintMore
attribute [local go_sem] max2_int min2_int max_two min_two max_three min_three max_four min_four   -- for this text's walks alone
set_option linter.unusedVariables false
set_option linter.unusedSimpArgs false
def bindlelaw19_answers.f  : Option (Bool) := (union_Union.f (([(([(⟨(⟨#[97]⟩ : ByteArray), (⟨#[]⟩ : ByteArray), (⟨#[97]⟩ : ByteArray), 48, (⟨0, 0, 0, 0⟩ : S24), ([] : List Int)⟩ : S38), (⟨(⟨#[98]⟩ : ByteArray), (⟨#[]⟩ : ByteArray), (⟨#[97]⟩ : ByteArray), 48, (⟨0, 0, 0, 0⟩ : S24), ([] : List Int)⟩ : S38)] : List (S38))), (([(⟨(⟨#[97]⟩ : ByteArray), (⟨#[]⟩ : ByteArray), (⟨#[]⟩ : ByteArray), 53, (⟨0, 0, 0, 0⟩ : S24), ([] : List Int)⟩ : S38)] : List (S38)))] : List (List (S38))))).bind fun bt202 => ((union_Union.f (([(([(⟨(⟨#[]⟩ : ByteArray), (⟨#[]⟩ : ByteArray), (⟨#[]⟩ : ByteArray), 0, (⟨0, 0, 0, 0⟩ : S24), ([] : List Int)⟩ : S38)] : List (S38)))] : List (List (S38))))).bind fun bt212 => (if bt202.2 = 0 then (if (bt202.1.length : Int) = 2 then (if 0 < (bt202.1.length : Int) then (if ((rd_T38 bt202.1 0).f3) = 53 then (if 1 < (bt202.1.length : Int) then (if ((rd_T38 bt202.1 1).f2).toList = ([98] : List UInt8) then (some (bt212.2 == 1)) else (some false)) else (none)) else (some false)) else (none)) else (some false)) else (some false)))
theorem bindlelaw19_answers.val : bindlelaw19_answers.f = some true := by kernel_rfl
set_option maxHeartbeats 8000000 in
set_option maxRecDepth 100000 in
theorem bindlelaw19_answers.calls  (r : Bool) (w : World) (hT : Aside0 (Tabs w)) (h : bindlelaw19_answers.f  = some r) :
  Calls Tryd.prog 22 #[] w fun e w' => e = .returned (.bool r) ∧ Below w.heap.size w w' := by
 have hr_ : r = true := Option.some.inj (h.symm.trans bindlelaw19_answers.val)
 have hu38 := Tryd.underlying38
 have HB := A0_ (Below.refl w.heap.size w)
 have H : ((union_Union.f (([(([(⟨(⟨#[97]⟩ : ByteArray), (⟨#[]⟩ : ByteArray), (⟨#[97]⟩ : ByteArray), 48, (⟨0, 0, 0, 0⟩ : S24), ([] : List Int)⟩ : S38), (⟨(⟨#[98]⟩ : ByteArray), (⟨#[]⟩ : ByteArray), (⟨#[97]⟩ : ByteArray), 48, (⟨0, 0, 0, 0⟩ : S24), ([] : List Int)⟩ : S38)] : List (S38))), (([(⟨(⟨#[97]⟩ : ByteArray), (⟨#[]⟩ : ByteArray), (⟨#[]⟩ : ByteArray), 53, (⟨0, 0, 0, 0⟩ : S24), ([] : List Int)⟩ : S38)] : List (S38)))] : List (List (S38))))).bind fun bt202 => ((union_Union.f (([(([(⟨(⟨#[]⟩ : ByteArray), (⟨#[]⟩ : ByteArray), (⟨#[]⟩ : ByteArray), 0, (⟨0, 0, 0, 0⟩ : S24), ([] : List Int)⟩ : S38)] : List (S38)))] : List (List (S38))))).bind fun bt212 => (if bt202.2 = 0 then (if (bt202.1.length : Int) = 2 then (if 0 < (bt202.1.length : Int) then (if ((rd_T38 bt202.1 0).f3) = 53 then (if 1 < (bt202.1.length : Int) then (if ((rd_T38 bt202.1 1).f2).toList = ([98] : List UInt8) then (some (bt212.2 == 1)) else (some false)) else (none)) else (some false)) else (none)) else (some false)) else (some false)))) = some r := h
 clear h
 obtain ⟨y193, hy193⟩ : ∃ y_ : List (S38), y_ = (([(⟨(⟨#[97]⟩ : ByteArray), (⟨#[]⟩ : ByteArray), (⟨#[97]⟩ : ByteArray), 48, (⟨0, 0, 0, 0⟩ : S24), ([] : List Int)⟩ : S38), (⟨(⟨#[98]⟩ : ByteArray), (⟨#[]⟩ : ByteArray), (⟨#[97]⟩ : ByteArray), 48, (⟨0, 0, 0, 0⟩ : S24), ([] : List Int)⟩ : S38)] : List (S38))) := ⟨_, rfl⟩
 replace H : ((union_Union.f (([y193, (([(⟨(⟨#[97]⟩ : ByteArray), (⟨#[]⟩ : ByteArray), (⟨#[]⟩ : ByteArray), 53, (⟨0, 0, 0, 0⟩ : S24), ([] : List Int)⟩ : S38)] : List (S38)))] : List (List (S38))))).bind fun bt202 => ((union_Union.f (([(([(⟨(⟨#[]⟩ : ByteArray), (⟨#[]⟩ : ByteArray), (⟨#[]⟩ : ByteArray), 0, (⟨0, 0, 0, 0⟩ : S24), ([] : List Int)⟩ : S38)] : List (S38)))] : List (List (S38))))).bind fun bt212 => (if bt202.2 = 0 then (if (bt202.1.length : Int) = 2 then (if 0 < (bt202.1.length : Int) then (if ((rd_T38 bt202.1 0).f3) = 53 then (if 1 < (bt202.1.length : Int) then (if ((rd_T38 bt202.1 1).f2).toList = ([98] : List UInt8) then (some (bt212.2 == 1)) else (some false)) else (none)) else (some false)) else (none)) else (some false)) else (some false)))) = some r := by first | (rw [hy193]; with_reducible exact H) | (have H2_ := (Option.bind_some _ _).symm.trans H; rw [hy193]; with_reducible exact H2_) | (have H2_ := (Option.bind_some _ _).symm.trans H; with_reducible exact H2_) | with_reducible exact H | (rw [hy193]; exact H) | exact H
 have Ny193 := A0_ hy193
 clear hy193
 obtain ⟨y196, hy196⟩ : ∃ y_ : List (S38), y_ = (([(⟨(⟨#[97]⟩ : ByteArray), (⟨#[]⟩ : ByteArray), (⟨#[]⟩ : ByteArray), 53, (⟨0, 0, 0, 0⟩ : S24), ([] : List Int)⟩ : S38)] : List (S38))) := ⟨_, rfl⟩
 replace H : ((union_Union.f (([y193, y196] : List (List (S38))))).bind fun bt202 => ((union_Union.f (([(([(⟨(⟨#[]⟩ : ByteArray), (⟨#[]⟩ : ByteArray), (⟨#[]⟩ : ByteArray), 0, (⟨0, 0, 0, 0⟩ : S24), ([] : List Int)⟩ : S38)] : List (S38)))] : List (List (S38))))).bind fun bt212 => (if bt202.2 = 0 then (if (bt202.1.length : Int) = 2 then (if 0 < (bt202.1.length : Int) then (if ((rd_T38 bt202.1 0).f3) = 53 then (if 1 < (bt202.1.length : Int) then (if ((rd_T38 bt202.1 1).f2).toList = ([98] : List UInt8) then (some (bt212.2 == 1)) else (some false)) else (none)) else (some false)) else (none)) else (some false)) else (some false)))) = some r := by first | (rw [hy196]; with_reducible exact H) | (have H2_ := (Option.bind_some _ _).symm.trans H; rw [hy196]; with_reducible exact H2_) | (have H2_ := (Option.bind_some _ _).symm.trans H; with_reducible exact H2_) | with_reducible exact H | (rw [hy196]; exact H) | exact H
 have Ny196 := A0_ hy196
 clear hy196
 obtain ⟨y199, hy199⟩ : ∃ y_ : List (List (S38)), y_ = (([y193, y196] : List (List (S38)))) := ⟨_, rfl⟩
 replace H : ((union_Union.f y199).bind fun bt202 => ((union_Union.f (([(([(⟨(⟨#[]⟩ : ByteArray), (⟨#[]⟩ : ByteArray), (⟨#[]⟩ : ByteArray), 0, (⟨0, 0, 0, 0⟩ : S24), ([] : List Int)⟩ : S38)] : List (S38)))] : List (List (S38))))).bind fun bt212 => (if bt202.2 = 0 then (if (bt202.1.length : Int) = 2 then (if 0 < (bt202.1.length : Int) then (if ((rd_T38 bt202.1 0).f3) = 53 then (if 1 < (bt202.1.length : Int) then (if ((rd_T38 bt202.1 1).f2).toList = ([98] : List UInt8) then (some (bt212.2 == 1)) else (some false)) else (none)) else (some false)) else (none)) else (some false)) else (some false)))) = some r := by first | (rw [hy199]; with_reducible exact H) | (have H2_ := (Option.bind_some _ _).symm.trans H; rw [hy199]; with_reducible exact H2_) | (have H2_ := (Option.bind_some _ _).symm.trans H; with_reducible exact H2_) | with_reducible exact H | (rw [hy199]; exact H) | exact H
 have Ny199 := A0_ hy199
 clear hy199
 replace H := Option.bind_eq_some_iff.mp H
 obtain ⟨⟨t202, t205⟩, A10, H⟩ := H
 replace H : ((union_Union.f (([(([(⟨(⟨#[]⟩ : ByteArray), (⟨#[]⟩ : ByteArray), (⟨#[]⟩ : ByteArray), 0, (⟨0, 0, 0, 0⟩ : S24), ([] : List Int)⟩ : S38)] : List (S38)))] : List (List (S38))))).bind fun bt212 => (if t205 = 0 then (if (t202.length : Int) = 2 then (if 0 < (t202.length : Int) then (if ((rd_T38 t202 0).f3) = 53 then (if 1 < (t202.length : Int) then (if ((rd_T38 t202 1).f2).toList = ([98] : List UInt8) then (some (bt212.2 == 1)) else (some false)) else (none)) else (some false)) else (none)) else (some false)) else (some false))) = some r := H
 have A1 := A0_ A10
 clear A10
 obtain ⟨y206, hy206⟩ : ∃ y_ : List (S38), y_ = (([(⟨(⟨#[]⟩ : ByteArray), (⟨#[]⟩ : ByteArray), (⟨#[]⟩ : ByteArray), 0, (⟨0, 0, 0, 0⟩ : S24), ([] : List Int)⟩ : S38)] : List (S38))) := ⟨_, rfl⟩
 replace H : ((union_Union.f (([y206] : List (List (S38))))).bind fun bt212 => (if t205 = 0 then (if (t202.length : Int) = 2 then (if 0 < (t202.length : Int) then (if ((rd_T38 t202 0).f3) = 53 then (if 1 < (t202.length : Int) then (if ((rd_T38 t202 1).f2).toList = ([98] : List UInt8) then (some (bt212.2 == 1)) else (some false)) else (none)) else (some false)) else (none)) else (some false)) else (some false))) = some r := by first | (rw [hy206]; with_reducible exact H) | (have H2_ := (Option.bind_some _ _).symm.trans H; rw [hy206]; with_reducible exact H2_) | (have H2_ := (Option.bind_some _ _).symm.trans H; with_reducible exact H2_) | with_reducible exact H | (rw [hy206]; exact H) | exact H
 have Ny206 := A0_ hy206
 clear hy206
 obtain ⟨y209, hy209⟩ : ∃ y_ : List (List (S38)), y_ = (([y206] : List (List (S38)))) := ⟨_, rfl⟩
 replace H : ((union_Union.f y209).bind fun bt212 => (if t205 = 0 then (if (t202.length : Int) = 2 then (if 0 < (t202.length : Int) then (if ((rd_T38 t202 0).f3) = 53 then (if 1 < (t202.length : Int) then (if ((rd_T38 t202 1).f2).toList = ([98] : List UInt8) then (some (bt212.2 == 1)) else (some false)) else (none)) else (some false)) else (none)) else (some false)) else (some false))) = some r := by first | (rw [hy209]; with_reducible exact H) | (have H2_ := (Option.bind_some _ _).symm.trans H; rw [hy209]; with_reducible exact H2_) | (have H2_ := (Option.bind_some _ _).symm.trans H; with_reducible exact H2_) | with_reducible exact H | (rw [hy209]; exact H) | exact H
 have Ny209 := A0_ hy209
 clear hy209
 replace H := Option.bind_eq_some_iff.mp H
 obtain ⟨⟨t212, t215⟩, A20, H⟩ := H
 replace H : (if t205 = 0 then (if (t202.length : Int) = 2 then (if 0 < (t202.length : Int) then (if ((rd_T38 t202 0).f3) = 53 then (if 1 < (t202.length : Int) then (if ((rd_T38 t202 1).f2).toList = ([98] : List UInt8) then (some (t215 == 1)) else (some false)) else (none)) else (some false)) else (none)) else (some false)) else (some false)) = some r := H
 have A2 := A0_ A20
 clear A20
 by_cases c3 : t205 = 0
 rotate_left
 ·rw [if_neg c3] at H
  have c3b0 : (t205 == 0) = false := beq_eq_false_iff_ne.mpr c3
  have c3b1 : (t205 != 0) = true := bne_iff_ne.mpr c3
  exact absurd ((Option.some.inj H).trans hr_) (by decide)
 rw [if_pos c3] at H
 have c3b0 : (t205 == 0) = true := beq_iff_eq.mpr c3
 have c3b1 : (t205 != 0) = false := bne_eq_false_iff_eq.mpr c3
 clear c3
 by_cases c4 : (t202.length : Int) = 2
 rotate_left
 ·rw [if_neg c4] at H
  have c4b0 : ((t202.length : Int) == 2) = false := beq_eq_false_iff_ne.mpr c4
  have c4b1 : ((t202.length : Int) != 2) = true := bne_iff_ne.mpr c4
  exact absurd ((Option.some.inj H).trans hr_) (by decide)
 rw [if_pos c4] at H
 have c4b0 : ((t202.length : Int) == 2) = true := beq_iff_eq.mpr c4
 have c4b1 : ((t202.length : Int) != 2) = false := bne_eq_false_iff_eq.mpr c4
 clear c4
 by_cases c5 : 0 < (t202.length : Int)
 rotate_left
 ·rw [if_neg c5] at H
  exact absurd H (by simp)
 rw [if_pos c5] at H
 have c5b0 : decide (0 < (t202.length : Int)) = true := decide_eq_true c5
 have c5b1 : decide (0 < t202.length) = true := decide_eq_true (by omega)
 clear c5
 by_cases c6 : ((rd_T38 t202 0).f3) = 53
 rotate_left
 ·rw [if_neg c6] at H
  have c6b0 : (((rd_T38 t202 0).f3) == 53) = false := beq_eq_false_iff_ne.mpr c6
  have c6b1 : (((rd_T38 t202 0).f3) != 53) = true := bne_iff_ne.mpr c6
  exact absurd ((Option.some.inj H).trans hr_) (by decide)
 rw [if_pos c6] at H
 have c6b0 : (((rd_T38 t202 0).f3) == 53) = true := beq_iff_eq.mpr c6
 have c6b1 : (((rd_T38 t202 0).f3) != 53) = false := bne_eq_false_iff_eq.mpr c6
 clear c6
 by_cases c7 : 1 < (t202.length : Int)
 rotate_left
 ·rw [if_neg c7] at H
  exact absurd H (by simp)
 rw [if_pos c7] at H
 have c7b0 : decide (1 < (t202.length : Int)) = true := decide_eq_true c7
 have c7b1 : decide (1 < t202.length) = true := decide_eq_true (by omega)
 clear c7
 by_cases c8 : ((rd_T38 t202 1).f2).toList = ([98] : List UInt8)
 rotate_left
 ·rw [if_neg c8] at H
  have c8b0 : (((rd_T38 t202 1).f2).toList == ([98] : List UInt8)) = false := beq_eq_false_iff_ne.mpr c8
  have c8b1 : (((rd_T38 t202 1).f2).toList != ([98] : List UInt8)) = true := bne_iff_ne.mpr c8
  exact absurd ((Option.some.inj H).trans hr_) (by decide)
 rw [if_pos c8] at H
 have c8b0 : (((rd_T38 t202 1).f2).toList == ([98] : List UInt8)) = true := beq_iff_eq.mpr c8
 have c8b1 : (((rd_T38 t202 1).f2).toList != ([98] : List UInt8)) = false := bne_eq_false_iff_eq.mpr c8
 clear c8
 clear hr_
 obtain rfl := Option.some.inj H
 go_enter Tryd.func22, Tryd.ntmps22
 go_wp2_with (first | ((with_reducible refine gate_dst (N := 8) rfl ?_); (try (refine gate_guard (by rfl) ?_; dsimp only)); refine Kd.N_lit k38 _ 38 ?hg (N' := 8) ?hd (xs := ([(⟨(⟨#[97]⟩ : ByteArray), (⟨#[]⟩ : ByteArray), (⟨#[97]⟩ : ByteArray), 48, (⟨0, 0, 0, 0⟩ : S24), ([] : List Int)⟩ : S38), (⟨(⟨#[98]⟩ : ByteArray), (⟨#[]⟩ : ByteArray), (⟨#[97]⟩ : ByteArray), 48, (⟨0, 0, 0, 0⟩ : S24), ([] : List Int)⟩ : S38)] : List (S38))) (inner := [.string (⟨#[97]⟩ : ByteArray), .string (⟨#[]⟩ : ByteArray), .string (⟨#[97]⟩ : ByteArray), .int .u8 48, .int .i64 0, .int .i64 0, .int .i64 0, .int .i64 0, .slice none 0 0, .string (⟨#[98]⟩ : ByteArray), .string (⟨#[]⟩ : ByteArray), .string (⟨#[97]⟩ : ByteArray), .int .u8 48, .int .i64 0, .int .i64 0, .int .i64 0, .int .i64 0, .slice none 0 0]) (ok := (fun _ => True)) (okp := (fun _ => True)) ?hr ?hp (fun _ hk => hk) ((show ∀ k_, w.heap.size ≤ k_ → (fun _ => True) k_ from fun k_ hk => trivial) _ (Nat.le_refl _)) (Below.refl _ _) (Nat.le_refl _) (by simp) ?_; (case hd => rfl); (case hg => rfl); (case hr => first | (go_simp; done) | (go_simp; rfl)); (case hp => exact (Reps.c9 (show Kd.FK k38 _ _ (⟨(⟨#[97]⟩ : ByteArray), (⟨#[]⟩ : ByteArray), (⟨#[97]⟩ : ByteArray), 48, (⟨0, 0, 0, 0⟩ : S24), ([] : List Int)⟩ : S38) [.string (⟨#[97]⟩ : ByteArray), .string (⟨#[]⟩ : ByteArray), .string (⟨#[97]⟩ : ByteArray), .int .u8 48, .int .i64 0, .int .i64 0, .int .i64 0, .int .i64 0, .slice none 0 0] from (k38_mkF _ _ (⟨(⟨#[97]⟩ : ByteArray), (⟨#[]⟩ : ByteArray), (⟨#[97]⟩ : ByteArray), 48, (⟨0, 0, 0, 0⟩ : S24), ([] : List Int)⟩ : S38) (Nat.le_refl _) (Kd.F_nil _ _ _))) (Reps.c9 (show Kd.FK k38 _ _ (⟨(⟨#[98]⟩ : ByteArray), (⟨#[]⟩ : ByteArray), (⟨#[97]⟩ : ByteArray), 48, (⟨0, 0, 0, 0⟩ : S24), ([] : List Int)⟩ : S38) [.string (⟨#[98]⟩ : ByteArray), .string (⟨#[]⟩ : ByteArray), .string (⟨#[97]⟩ : ByteArray), .int .u8 48, .int .i64 0, .int .i64 0, .int .i64 0, .int .i64 0, .slice none 0 0] from (k38_mkF _ _ (⟨(⟨#[98]⟩ : ByteArray), (⟨#[]⟩ : ByteArray), (⟨#[97]⟩ : ByteArray), 48, (⟨0, 0, 0, 0⟩ : S24), ([] : List Int)⟩ : S38) (Nat.le_refl _) (Kd.F_nil _ _ _))) (Reps.none _ _)))); intro v194 w9 ho10 hb hg_ hnew_; clear hg_ hnew_; (first | rw [← Ny193.out] at ho10 | (simp only [Int.reduceToNat] at ho10; rw [← Ny193.out] at ho10)); have n0_ := A0_ (Kd.N_lower ho10 (below_size (wb_ HB.out))); have n1_ := A0_ (below_step (wb_ HB.out) hb); clear HB; have HO195 := n0_; have HB := n1_; clear n0_ n1_; clear hb ho10) | ((with_reducible refine gate_dst (N := 12) rfl ?_); (try (refine gate_guard (by rfl) ?_; dsimp only)); refine Kd.N_lit k38 _ 38 ?hg (N' := 12) ?hd (xs := ([(⟨(⟨#[97]⟩ : ByteArray), (⟨#[]⟩ : ByteArray), (⟨#[]⟩ : ByteArray), 53, (⟨0, 0, 0, 0⟩ : S24), ([] : List Int)⟩ : S38)] : List (S38))) (inner := [.string (⟨#[97]⟩ : ByteArray), .string (⟨#[]⟩ : ByteArray), .string (⟨#[]⟩ : ByteArray), .int .u8 53, .int .i64 0, .int .i64 0, .int .i64 0, .int .i64 0, .slice none 0 0]) (ok := (fun k_ => some k_ ≠ (v194 : Value).ownBlock)) (okp := (fun k_ => some k_ ≠ (v194 : Value).ownBlock)) ?hr ?hp (fun _ hk => hk) ((show ∀ k_, w9.heap.size ≤ k_ → (fun k_ => some k_ ≠ (v194 : Value).ownBlock) k_ from fun k_ hk => Kd.fresh' (Kd.N_lt (wN_ HO195.out)) k_ hk) _ (Nat.le_refl _)) (Below.refl _ _) (Nat.le_refl _) (by simp) ?_; (case hd => rfl); (case hg => rfl); (case hr => first | (go_simp; done) | (go_simp; rfl)); (case hp => exact (Reps.c9 (show Kd.FK k38 _ _ (⟨(⟨#[97]⟩ : ByteArray), (⟨#[]⟩ : ByteArray), (⟨#[]⟩ : ByteArray), 53, (⟨0, 0, 0, 0⟩ : S24), ([] : List Int)⟩ : S38) [.string (⟨#[97]⟩ : ByteArray), .string (⟨#[]⟩ : ByteArray), .string (⟨#[]⟩ : ByteArray), .int .u8 53, .int .i64 0, .int .i64 0, .int .i64 0, .int .i64 0, .slice none 0 0] from (k38_mkF _ _ (⟨(⟨#[97]⟩ : ByteArray), (⟨#[]⟩ : ByteArray), (⟨#[]⟩ : ByteArray), 53, (⟨0, 0, 0, 0⟩ : S24), ([] : List Int)⟩ : S38) (Nat.le_refl _) (Kd.F_nil _ _ _))) (Reps.none _ _))); intro v197 w11 ho12 hb hg_ hnew_; clear hg_ hnew_; (first | rw [← Ny196.out] at ho12 | (simp only [Int.reduceToNat] at ho12; rw [← Ny196.out] at ho12)); have n0_ := A0_ (Kd.N_elder' (wN_ HO195.out) (Kd.N_base ho12) hb); have n1_ := A0_ (Kd.N_lower ho12 (below_size (wb_ HB.out))); have n2_ := A0_ (below_step (wb_ HB.out) hb); clear HO195; clear HB; have HO195 := n0_; have HO198 := n1_; have HB := n2_; clear n0_ n1_ n2_; clear hb ho12; obtain ⟨Ao13, co13, eo13⟩ := Kd.N_slice HO195.out; subst eo13; obtain ⟨Ao14, co14, eo14⟩ := Kd.N_slice HO198.out; subst eo14) | ((with_reducible refine gate_dst (N := 13) rfl ?_); (try (refine gate_guard (by rfl) ?_; dsimp only)); refine Kd.N_lit (Kd.slice 38 k38) _ 31 ?hg (N' := 13) ?hd (xs := ([y193, y196] : List (List (S38)))) (inner := [.slice Ao13 y193.length co13, .slice Ao14 y196.length co14]) (ok := (fun _ => True)) (okp := (fun _ => True)) ?hr ?hp (fun _ hk => hk) ((show ∀ k_, w11.heap.size ≤ k_ → (fun _ => True) k_ from fun k_ hk => trivial) _ (Nat.le_refl _)) (Below.refl _ _) (Nat.le_refl _) (by simp) ?_; (case hd => rfl); (case hg => rfl); (case hr => first | (go_simp; done) | (go_simp; rfl)); (case hp => exact (Reps.one (show Kd.FK (Kd.slice 38 k38) _ _ y193 [.slice Ao13 y193.length co13] from (Kd.FK_slice_mk (Kd.N_reads' (Kd.N_mono (ok' := (fun _ => True)) (HO195.out) (fun k_ hk => trivial))).2.1 (Kd.N_F (Kd.N_mono (ok' := (fun _ => True)) (HO195.out) (fun k_ hk => trivial))))) (Reps.one (show Kd.FK (Kd.slice 38 k38) _ _ y196 [.slice Ao14 y196.length co14] from (Kd.FK_slice_mk (Kd.N_reads' (Kd.N_mono (ok' := (fun _ => True)) (HO198.out) (fun k_ hk => trivial))).2.1 (Kd.N_F (Kd.N_mono (ok' := (fun _ => True)) (HO198.out) (fun k_ hk => trivial))))) (Reps.none _ _)))); intro v200 w15 ho16 hb hg_ hnew_; clear hg_ hnew_; (first | rw [← Ny199.out] at ho16 | (simp only [Int.reduceToNat] at ho16; rw [← Ny199.out] at ho16)); have n0_ := A0_ (Kd.N_lower ho16 (below_size (wb_ HB.out))); have n1_ := A0_ (below_step (wb_ HB.out) hb); clear HB; clear HO195; clear HO198; have HO201 := n0_; have HB := n1_; clear n0_ n1_; clear hb ho16; obtain ⟨Ao17, co17, eo17⟩ := Kd.N_slice HO201.out; subst eo17) | ((with_reducible refine gate_callee (f := 23) rfl ?_); refine goesL_ (some 14) rfl rfl Tryd.func23 (by kernel_rfl) rfl #[.slice Ao17 y199.length co17] rfl wm_ ?_; (with_reducible refine (union_Union.calls _ _ y199 t202 t205 _ ?side1 ?side2 ?side3 A1.out).mono ?_); (case side1 => exact A0_ (Tabs.below hT.out (wb_ HB.out))); (case side2 => exact wc_ (Kd.N_reads' HO201.out).2.2); (case side3 => exact (Kd.N_reads' HO201.out).2.1); rintro e w18 ⟨v203, rfl, ho0, hb⟩; refine ⟨_, rfl, ?_⟩; have n0_ := A0_ (Kd.N_below (wN_ HO201.out) hb); have n1_ := A0_ (Kd.V_lower (Kd.V_mono (ok' := fun k_ => some k_ ≠ (.slice Ao17 y199.length co17 : Value).ownBlock) ho0 (fun k_ hk_ => (Kd.fresh' (Kd.N_lt (wN_ HO201.out)) k_ hk_))) (below_size (wb_ HB.out))); have n2_ := A0_ (below_step (wb_ HB.out) hb); clear HO201; clear HB; have HO201 := n0_; have HO204 := n1_; have HB := n2_; clear n0_ n1_ n2_; (try clear hb); (try clear hb2); (try clear hk); (try clear hi); (try clear ho0)) | ((with_reducible refine gate_dst (N := 19) rfl ?_); (try (refine gate_guard (by rfl) ?_; dsimp only)); refine Kd.N_lit k38 _ 38 ?hg (N' := 19) ?hd (xs := ([(⟨(⟨#[]⟩ : ByteArray), (⟨#[]⟩ : ByteArray), (⟨#[]⟩ : ByteArray), 0, (⟨0, 0, 0, 0⟩ : S24), ([] : List Int)⟩ : S38)] : List (S38))) (inner := [.string (⟨#[]⟩ : ByteArray), .string (⟨#[]⟩ : ByteArray), .string (⟨#[]⟩ : ByteArray), .int .u8 0, .int .i64 0, .int .i64 0, .int .i64 0, .int .i64 0, .slice none 0 0]) (ok := (fun k_ => some k_ ≠ (.slice Ao17 y199.length co17 : Value).ownBlock)) (okp := (fun k_ => some k_ ≠ (.slice Ao17 y199.length co17 : Value).ownBlock)) ?hr ?hp (fun _ hk => hk) ((show ∀ k_, w18.heap.size ≤ k_ → (fun k_ => some k_ ≠ (.slice Ao17 y199.length co17 : Value).ownBlock) k_ from fun k_ hk => Kd.fresh' (Kd.N_lt (wN_ HO201.out)) k_ hk) _ (Nat.le_refl _)) (Below.refl _ _) (Nat.le_refl _) (by simp) ?_; (case hd => rfl); (case hg => rfl); (case hr => first | (go_simp; done) | (go_simp; rfl)); (case hp => exact (Reps.c9 (show Kd.FK k38 _ _ (⟨(⟨#[]⟩ : ByteArray), (⟨#[]⟩ : ByteArray), (⟨#[]⟩ : ByteArray), 0, (⟨0, 0, 0, 0⟩ : S24), ([] : List Int)⟩ : S38) [.string (⟨#[]⟩ : ByteArray), .string (⟨#[]⟩ : ByteArray), .string (⟨#[]⟩ : ByteArray), .int .u8 0, .int .i64 0, .int .i64 0, .int .i64 0, .int .i64 0, .slice none 0 0] from (k38_mkF _ _ (⟨(⟨#[]⟩ : ByteArray), (⟨#[]⟩ : ByteArray), (⟨#[]⟩ : ByteArray), 0, (⟨0, 0, 0, 0⟩ : S24), ([] : List Int)⟩ : S38) (Nat.le_refl _) (Kd.F_nil _ _ _))) (Reps.none _ _))); intro v207 w19 ho20 hb hg_ hnew_; clear hg_ hnew_; (first | rw [← Ny206.out] at ho20 | (simp only [Int.reduceToNat] at ho20; rw [← Ny206.out] at ho20)); have n0_ := A0_ (Kd.N_elder' (wN_ HO201.out) (Kd.N_base ho20) hb); have n1_ := A0_ (Kd.V_elder' (wV_ HO204.out) (Kd.N_base ho20) hb); have n2_ := A0_ (Kd.N_lower ho20 (below_size (wb_ HB.out))); have n3_ := A0_ (below_step (wb_ HB.out) hb); clear HO201; clear HO204; clear HB; have HO201 := n0_; have HO204 := n1_; have HO208 := n2_; have HB := n3_; clear n0_ n1_ n2_ n3_; clear hb ho20; obtain ⟨Ao21, co21, eo21⟩ := Kd.N_slice HO208.out; subst eo21) | ((with_reducible refine gate_dst (N := 20) rfl ?_); (try (refine gate_guard (by rfl) ?_; dsimp only)); refine Kd.N_lit (Kd.slice 38 k38) _ 31 ?hg (N' := 20) ?hd (xs := ([y206] : List (List (S38)))) (inner := [.slice Ao21 y206.length co21]) (ok := (fun k_ => some k_ ≠ (.slice Ao17 y199.length co17 : Value).ownBlock)) (okp := (fun k_ => some k_ ≠ (.slice Ao17 y199.length co17 : Value).ownBlock)) ?hr ?hp (fun _ hk => hk) ((show ∀ k_, w19.heap.size ≤ k_ → (fun k_ => some k_ ≠ (.slice Ao17 y199.length co17 : Value).ownBlock) k_ from fun k_ hk => Kd.fresh' (Kd.N_lt (wN_ HO201.out)) k_ hk) _ (Nat.le_refl _)) (Below.refl _ _) (Nat.le_refl _) (by simp) ?_; (case hd => rfl); (case hg => rfl); (case hr => first | (go_simp; done) | (go_simp; rfl)); (case hp => exact (Reps.one (show Kd.FK (Kd.slice 38 k38) _ _ y206 [.slice Ao21 y206.length co21] from (Kd.FK_slice_mk (Kd.N_reads' (Kd.N_mono (ok' := (fun k_ => some k_ ≠ (.slice Ao17 y199.length co17 : Value).ownBlock)) (HO208.out) (fun k_ hk => hk))).2.1 (Kd.N_F (Kd.N_mono (ok' := (fun k_ => some k_ ≠ (.slice Ao17 y199.length co17 : Value).ownBlock)) (HO208.out) (fun k_ hk => hk))))) (Reps.none _ _))); intro v210 w22 ho23 hb hg_ hnew_; clear hg_ hnew_; (first | rw [← Ny209.out] at ho23 | (simp only [Int.reduceToNat] at ho23; rw [← Ny209.out] at ho23)); have n0_ := A0_ (Kd.N_elder' (wN_ HO201.out) (Kd.N_base ho23) hb); have n1_ := A0_ (Kd.V_elder' (wV_ HO204.out) (Kd.N_base ho23) hb); have n2_ := A0_ (Kd.N_lower ho23 (below_size (wb_ HB.out))); have n3_ := A0_ (below_step (wb_ HB.out) hb); clear HO201; clear HO204; clear HB; clear HO208; have HO201 := n0_; have HO204 := n1_; have HO211 := n2_; have HB := n3_; clear n0_ n1_ n2_ n3_; clear hb ho23; obtain ⟨Ao24, co24, eo24⟩ := Kd.N_slice HO211.out; subst eo24) | ((with_reducible refine gate_callee (f := 23) rfl ?_); refine goesL_ (some 21) rfl rfl Tryd.func23 (by kernel_rfl) rfl #[.slice Ao24 y209.length co24] rfl wm_ ?_; (with_reducible refine (union_Union.calls _ _ y209 t212 t215 _ ?side1 ?side2 ?side3 A2.out).mono ?_); (case side1 => exact A0_ (Tabs.below hT.out (wb_ HB.out))); (case side2 => exact wc_ (Kd.N_reads' HO211.out).2.2); (case side3 => exact (Kd.N_reads' HO211.out).2.1); rintro e w25 ⟨v213, rfl, ho0, hb⟩; refine ⟨_, rfl, ?_⟩; have n0_ := A0_ (Kd.N_below (wN_ HO201.out) hb); have n1_ := A0_ (Vb_ (wV_ HO204.out) hb); have n2_ := A0_ (Kd.N_below (wN_ HO211.out) hb); have n3_ := A0_ (Kd.V_lower (Kd.V_mono (ok' := fun k_ => some k_ ≠ (.slice Ao17 y199.length co17 : Value).ownBlock ∧ some k_ ≠ (.slice Ao24 y209.length co24 : Value).ownBlock) ho0 (fun k_ hk_ => ⟨(Kd.fresh' (Kd.N_lt (wN_ HO201.out)) k_ hk_), (Kd.fresh' (Kd.N_lt (wN_ HO211.out)) k_ hk_)⟩)) (below_size (wb_ HB.out))); have n4_ := A0_ (below_step (wb_ HB.out) hb); clear HO201; clear HO204; clear HO211; clear HB; have HO201 := n0_; have HO204 := n1_; have HO211 := n2_; have HO214 := n3_; have HB := n4_; clear n0_ n1_ n2_ n3_ n4_; (try clear hb); (try clear hb2); (try clear hk); (try clear hi); (try clear ho0); obtain ⟨Ao26, co26, eo26⟩ := Kd.V_slice HO204.out; subst eo26; have p216 : 0 ≤ (0 : Int) := (by omega); have q216 : 0 < (t202.length : Int) := wd_; obtain ⟨ad216, A216_8, c216_8, e216, hx216_0, hx216_1, hx216_2, hx216_3, hx216_4, hx216_5, hx216_6, hx216_7, hx216_8, hl216_8, hi216_8⟩ := at_T38 (Kd.V_reads' HO204.out).2.2 0 p216 q216; cases e216; obtain ⟨ce216, hce216, hMe216, hcc216⟩ := Kd.V_get HO204.out z38 0 p216 (by first | exact q216 | exact wd_ | (have e_ := (Kd.V_reads' HO204.out).1; omega)); obtain ⟨ua216_8, uc216_8, rfl, ul216_8, ge216_8⟩ := k38_openF hMe216; have hv216_8 := hcc216 8 _ rfl; rw [add_field _ _ 8 (by omega)] at hv216_8; replace hv216_8 := Option.some.inj (hv216_8.symm.trans hx216_8); injection hv216_8 with hva_ hvn_ hvc_; rw [hva_] at ge216_8; rw [hvc_] at ul216_8; have HL216_8 := A0_ (show Kd.V (Kd.int .u8) 5 _ w.heap.size _ _ ((rd_T38 t202 0).f5) from Kd.V_mk ul216_8 ge216_8); clear hva_ hvn_ hvc_ ge216_8 ul216_8; clear hcc216 hce216; have qi216 : (0 < t202.length) = True := eq_true (by omega); (try rw [show ((0 : Int)).toNat = 0 from rfl] at hx216_0); (try rw [show 0 * 9 = 0 from rfl] at hx216_0); (try rw [Addr.add_zero'] at hx216_0); (try rw [show ((0 : Int)).toNat = 0 from rfl] at hx216_1); (try rw [show 0 * 9 = 0 from rfl] at hx216_1); (try rw [Addr.add_zero'] at hx216_1); (try rw [show ((0 : Int)).toNat = 0 from rfl] at hx216_2); (try rw [show 0 * 9 = 0 from rfl] at hx216_2); (try rw [Addr.add_zero'] at hx216_2); (try rw [show ((0 : Int)).toNat = 0 from rfl] at hx216_3); (try rw [show 0 * 9 = 0 from rfl] at hx216_3); (try rw [Addr.add_zero'] at hx216_3); (try rw [show ((0 : Int)).toNat = 0 from rfl] at hx216_4); (try rw [show 0 * 9 = 0 from rfl] at hx216_4); (try rw [Addr.add_zero'] at hx216_4); (try rw [show ((0 : Int)).toNat = 0 from rfl] at hx216_5); (try rw [show 0 * 9 = 0 from rfl] at hx216_5); (try rw [Addr.add_zero'] at hx216_5); (try rw [show ((0 : Int)).toNat = 0 from rfl] at hx216_6); (try rw [show 0 * 9 = 0 from rfl] at hx216_6); (try rw [Addr.add_zero'] at hx216_6); (try rw [show ((0 : Int)).toNat = 0 from rfl] at hx216_7); (try rw [show 0 * 9 = 0 from rfl] at hx216_7); (try rw [Addr.add_zero'] at hx216_7); (try rw [show ((0 : Int)).toNat = 0 from rfl] at hx216_8); (try rw [show 0 * 9 = 0 from rfl] at hx216_8); (try rw [Addr.add_zero'] at hx216_8); have HR216_8 := A0_ hi216_8; have HC216_8 := A0_ hl216_8; clear hi216_8 hl216_8; replace p216 := eq_true p216; replace q216 := eq_true q216; have p217 : 0 ≤ (1 : Int) := (by omega); have q217 : 1 < (t202.length : Int) := wd_; obtain ⟨ad217, A217_8, c217_8, e217, hx217_0, hx217_1, hx217_2, hx217_3, hx217_4, hx217_5, hx217_6, hx217_7, hx217_8, hl217_8, hi217_8⟩ := at_T38 (Kd.V_reads' HO204.out).2.2 1 p217 q217; obtain rfl : ad216 = ad217 := (by injection e217); obtain ⟨ce217, hce217, hMe217, hcc217⟩ := Kd.V_get HO204.out z38 1 p217 (by first | exact q217 | exact wd_ | (have e_ := (Kd.V_reads' HO204.out).1; omega)); obtain ⟨ua217_8, uc217_8, rfl, ul217_8, ge217_8⟩ := k38_openF hMe217; have hv217_8 := hcc217 8 _ rfl; rw [add_field _ _ 8 (by omega)] at hv217_8; replace hv217_8 := Option.some.inj (hv217_8.symm.trans hx217_8); injection hv217_8 with hva_ hvn_ hvc_; rw [hva_] at ge217_8; rw [hvc_] at ul217_8; have HL217_8 := A0_ (show Kd.V (Kd.int .u8) 5 _ w.heap.size _ _ ((rd_T38 t202 1).f5) from Kd.V_mk ul217_8 ge217_8); clear hva_ hvn_ hvc_ ge217_8 ul217_8; clear hcc217 hce217; (try simp only [one_n, Nat.reduceMul, Nat.reduceEqDiff, Go.Addr.add, ↓reduceIte] at hx217_0); (try simp only [one_n, Nat.reduceMul, Nat.reduceEqDiff, Go.Addr.add, ↓reduceIte] at hx217_1); (try simp only [one_n, Nat.reduceMul, Nat.reduceEqDiff, Go.Addr.add, ↓reduceIte] at hx217_2); (try simp only [one_n, Nat.reduceMul, Nat.reduceEqDiff, Go.Addr.add, ↓reduceIte] at hx217_3); (try simp only [one_n, Nat.reduceMul, Nat.reduceEqDiff, Go.Addr.add, ↓reduceIte] at hx217_4); (try simp only [one_n, Nat.reduceMul, Nat.reduceEqDiff, Go.Addr.add, ↓reduceIte] at hx217_5); (try simp only [one_n, Nat.reduceMul, Nat.reduceEqDiff, Go.Addr.add, ↓reduceIte] at hx217_6); (try simp only [one_n, Nat.reduceMul, Nat.reduceEqDiff, Go.Addr.add, ↓reduceIte] at hx217_7); (try simp only [one_n, Nat.reduceMul, Nat.reduceEqDiff, Go.Addr.add, ↓reduceIte] at hx217_8); have qi217 : (1 < t202.length) = True := eq_true (by omega); (try rw [show ((1 : Int)).toNat = 1 from rfl] at hx217_0); (try rw [show 1 * 9 = 9 from rfl] at hx217_0); (try rw [show ((1 : Int)).toNat = 1 from rfl] at hx217_1); (try rw [show 1 * 9 = 9 from rfl] at hx217_1); (try rw [show ((1 : Int)).toNat = 1 from rfl] at hx217_2); (try rw [show 1 * 9 = 9 from rfl] at hx217_2); (try rw [show ((1 : Int)).toNat = 1 from rfl] at hx217_3); (try rw [show 1 * 9 = 9 from rfl] at hx217_3); (try rw [show ((1 : Int)).toNat = 1 from rfl] at hx217_4); (try rw [show 1 * 9 = 9 from rfl] at hx217_4); (try rw [show ((1 : Int)).toNat = 1 from rfl] at hx217_5); (try rw [show 1 * 9 = 9 from rfl] at hx217_5); (try rw [show ((1 : Int)).toNat = 1 from rfl] at hx217_6); (try rw [show 1 * 9 = 9 from rfl] at hx217_6); (try rw [show ((1 : Int)).toNat = 1 from rfl] at hx217_7); (try rw [show 1 * 9 = 9 from rfl] at hx217_7); (try rw [show ((1 : Int)).toNat = 1 from rfl] at hx217_8); (try rw [show 1 * 9 = 9 from rfl] at hx217_8); have HR217_8 := A0_ hi217_8; have HC217_8 := A0_ hl217_8; clear hi217_8 hl217_8; replace p217 := eq_true p217; replace q217 := eq_true q217))
 go_ret
 exact ⟨we_, wb_ HB.out⟩
end Go.Proofs.YtfmphccoeinhcaaDoor.Print

namespace Go.Proofs.YtfmphccoeinhcaaDoor.Print
open Go.RowKit Go.Proofs.YtfmphccoeinhcaaDoorW.PrintWords Go.Proofs.YtfmphccoeinhcaaDoorW.PrintLast Go.Proofs.YtfmphccoeinhcaaDoorW.PrintMore
attribute [local go_sem] max2_int min2_int max_two min_two max_three min_three max_four min_four   -- for this text's walks alone
set_option linter.unusedVariables false
set_option linter.unusedSimpArgs false
end Go.Proofs.YtfmphccoeinhcaaDoor.Print

namespace Go.Proofs.YtfmphccoeinhcaaDoor
open Go.RowKit Go.Proofs.YtfmphccoeinhcaaDoor.Print Go.Proofs.YtfmphccoeinhcaaDoorW.PrintWords
set_option linter.unusedVariables false
theorem uokl_z {ls : List (List Node)} (h : OkL ls) (hz : ∀ t ∈ ls, ∀ x ∈ t, NodeZ x) : ∀ t ∈ ls, TreeZ t ∧ t.length ≤ 60 := fun t ht => by
 obtain ⟨h1, h2⟩ := h t ht
 refine ⟨treeZ_of (by omega) (fun x hx => ?_), h1⟩
 have h3 := h2 x hx
 have h4 : szN x = x.f5.length + x.f0.size + x.f1.size := rfl
 exact ⟨hz t ht x hx, by omega, by omega⟩
theorem urgood_f {l : List Node} (h : TreeZ l) : bindleref08_GoodTree.f l = some (goodTree l) := by
 unfold bindleref08_GoodTree.f
 rw [if_pos ((nodesZ_iff l).2 h.2.1)]
theorem uunion_f {ls : List (List Node)} (hl : ls.length ≤ 10000) (h : ∀ t ∈ ls, TreeZ t) : union_Union.f ls = some (unionF ls) := by
 unfold union_Union.f
 rw [if_pos ((treesZB_iff ls).2 ⟨hl, h⟩)]
theorem mem2 {P : List Node → Prop} {a b : List Node} (ha : P a) (hb : P b) : ∀ t ∈ [a, b], P t := fun t ht => by
 rcases List.mem_cons.1 ht with rfl | ht
 ·exact ha
 ·rw [List.mem_singleton] at ht; rw [ht]; exact hb
theorem mem3 {P : List Node → Prop} {a b c : List Node} (ha : P a) (hb : P b) (hc : P c) : ∀ t ∈ [a, b, c], P t := fun t ht => by
 rcases List.mem_cons.1 ht with rfl | ht
 ·exact ha
 ·exact mem2 hb hc t ht
theorem usame_ev {U V : List Node} (h : sameB U V = true) (hz : TreeZ U) : Ev (fun k => bindleref08_SameTree.f k U V) true := by
 rw [← h]
 exact sameTree_eq U V (by have := hz.1; omega)
theorem union_len (ls : List (List Node)) (k : Nat) (hk : ∀ t ∈ ls, t.length ≤ k) : (unionF ls).1.length ≤ ls.length * k := by
 unfold unionF
 split
 ·split
  ·exact Nat.zero_le _
  ·rw [treeE_len]
   have := pilesFrom_len ls k hk 0 []
   simpa using this
 ·exact Nat.zero_le _
end Go.Proofs.YtfmphccoeinhcaaDoor

namespace Go.Proofs.YtfmphccoeinhcaaDoor.Print
open Go.RowKit Go.Proofs.YtfmphccoeinhcaaDoorW.PrintWords Go.Proofs.YtfmphccoeinhcaaDoorW.PrintLast Go.Proofs.YtfmphccoeinhcaaDoorW.PrintMore
attribute [local go_sem] max2_int min2_int max_two min_two max_three min_three max_four min_four   -- for this text's walks alone
set_option linter.unusedVariables false
set_option linter.unusedSimpArgs false
def bindlelaw19_UnionGroups.j0 : Nat → List (S38) → List (S38) → List (S38) → Bool → Option (Bool)
 | 0, _, _, _, _ => none
 | k + 1, x0, x1, x2, x39 => if x39 = true then ((bindlelaw19_answers.f).bind fun t278 => (some t278)) else ((union_Union.f (([x0, x1, x2] : List (List (S38))))).bind fun bt282 => ((union_Union.f (([x0, x1] : List (List (S38))))).bind fun bt289 => ((union_Union.f (([bt289.1, x2] : List (List (S38))))).bind fun bt296 => ((union_Union.f (([x1, x2] : List (List (S38))))).bind fun bt303 => ((union_Union.f (([x0, bt303.1] : List (List (S38))))).bind fun bt310 => ((union_Union.f (([x0, x0] : List (List (S38))))).bind fun bt317 => ((union_Union.f (([[], x0, []] : List (List (S38))))).bind fun bt324 => ((union_Union.f ([] : List (List (S38)))).bind fun bt328 => ((bindlelaw19_answers.f).bind fun t332 => (if t332 = true then ((bindleref08_SameTree.f k bt282.1 bt296.1).bind fun t333 => (if t333 = true then ((bindleref08_SameTree.f k bt282.1 bt310.1).bind fun t334 => (if t334 = true then ((bindleref08_SameTree.f k bt317.1 x0).bind fun t335 => (if t335 = true then (if bt324.2 = 0 then ((bindleref08_SameTree.f k bt324.1 x0).bind fun t336 => (if t336 = true then (if bt328.2 = 0 then (some ((bt328.1.length : Int) == 0)) else (some false)) else (some false))) else (some false)) else (some false))) else (some false))) else (some false))) else (some false)))))))))))
def bindlelaw19_UnionGroups.f (k : Nat) (l0 : List (S38)) (l1 : List (S38)) (l2 : List (S38)) : Option (Bool) := (bindlelaw19_light.f k (([l0, l1, l2] : List (List (S38))))).bind fun t274 => (if t274 = true then ((bindleref08_GoodTree.f l0).bind fun t275 => (if t275 = true then ((bindleref08_GoodTree.f l1).bind fun t276 => (if t276 = true then ((bindleref08_GoodTree.f l2).bind fun t277 => (bindlelaw19_UnionGroups.j0 k l0 l1 l2 (!t277))) else (bindlelaw19_UnionGroups.j0 k l0 l1 l2 true))) else (bindlelaw19_UnionGroups.j0 k l0 l1 l2 true))) else (bindlelaw19_UnionGroups.j0 k l0 l1 l2 true))
set_option maxHeartbeats 8000000 in
set_option maxRecDepth 100000 in
theorem bindlelaw19_UnionGroups.calls (k : Nat) (P0_ : Nat → Prop) (A0 : Option Addr) (c0 : Nat) (l0 : List (S38)) (P1_ : Nat → Prop) (A1 : Option Addr) (c1 : Nat) (l1 : List (S38)) (P2_ : Nat → Prop) (A2 : Option Addr) (c2 : Nat) (l2 : List (S38)) (r : Bool) (w : World) (hT : Aside0 (Tabs w)) (hs0 : Kd.V k38 38 w w.heap.size (fun k_ => P0_ k_) (.slice A0 l0.length c0) l0) (hs1 : Kd.V k38 38 w w.heap.size (fun k_ => P1_ k_) (.slice A1 l1.length c1) l1) (hs2 : Kd.V k38 38 w w.heap.size (fun k_ => P2_ k_) (.slice A2 l2.length c2) l2) (h : bindlelaw19_UnionGroups.f k l0 l1 l2 = some r) (hTRUE_ : Aside0 (r = true)) :
  Calls Tryd.prog 5 #[.slice A0 l0.length c0, .slice A1 l1.length c1, .slice A2 l2.length c2] w fun e w' => e = .returned (.bool r) ∧ Below w.heap.size w w' := by
 have HO0 := A0_ (show Kd.V k38 38 w w.heap.size (fun k_ => ((P0_ k_ ∨ P1_ k_ ∨ P2_ k_) ∨ w.heap.size ≤ k_)) (.slice A0 l0.length c0) l0 from Kd.V_mono hs0 (fun k_ hk => .inl (.inl hk)))
 have HO1 := A0_ (show Kd.V k38 38 w w.heap.size (fun k_ => ((P0_ k_ ∨ P1_ k_ ∨ P2_ k_) ∨ w.heap.size ≤ k_)) (.slice A1 l1.length c1) l1 from Kd.V_mono hs1 (fun k_ hk => .inl (.inr (.inl hk))))
 have HO2 := A0_ (show Kd.V k38 38 w w.heap.size (fun k_ => ((P0_ k_ ∨ P1_ k_ ∨ P2_ k_) ∨ w.heap.size ≤ k_)) (.slice A2 l2.length c2) l2 from Kd.V_mono hs2 (fun k_ hk => .inl (.inr (.inr hk))))
 have HB := A0_ (Below.refl w.heap.size w)
 have H : ((bindlelaw19_light.f k (([l0, l1, l2] : List (List (S38))))).bind fun t274 => (if t274 = true then ((bindleref08_GoodTree.f l0).bind fun t275 => (if t275 = true then ((bindleref08_GoodTree.f l1).bind fun t276 => (if t276 = true then ((bindleref08_GoodTree.f l2).bind fun t277 => (bindlelaw19_UnionGroups.j0 k l0 l1 l2 (!t277))) else (bindlelaw19_UnionGroups.j0 k l0 l1 l2 true))) else (bindlelaw19_UnionGroups.j0 k l0 l1 l2 true))) else (bindlelaw19_UnionGroups.j0 k l0 l1 l2 true))) = some r := h
 clear h
 have HC4 := A0_ H
 clear H
 go_enter Tryd.func5, Tryd.ntmps5
 go_upto_region 1 with (fail)
 go_cut [39] (fun v39 wc => ∃ (kq : Nat) (x39_3 : Bool), v39 = .bool x39_3 ∧ Aside0 (bindlelaw19_UnionGroups.j0 kq l0 l1 l2 x39_3 = some r) ∧ Aside0 (kq ≤ k) ∧ Aside0 (Kd.V k38 38 wc w.heap.size (fun k_ => ((P0_ k_ ∨ P1_ k_ ∨ P2_ k_) ∨ w.heap.size ≤ k_)) (.slice A0 l0.length c0) l0) ∧ Aside0 (Kd.V k38 38 wc w.heap.size (fun k_ => ((P0_ k_ ∨ P1_ k_ ∨ P2_ k_) ∨ w.heap.size ≤ k_)) (.slice A1 l1.length c1) l1) ∧ Aside0 (Kd.V k38 38 wc w.heap.size (fun k_ => ((P0_ k_ ∨ P1_ k_ ∨ P2_ k_) ∨ w.heap.size ≤ k_)) (.slice A2 l2.length c2) l2) ∧ Aside0 (Below w.heap.size w wc))
 case first =>
  have H := HC4.out
  clear HC4
  obtain ⟨y271, hy271⟩ : ∃ y_ : List (List (S38)), y_ = (([l0, l1, l2] : List (List (S38)))) := ⟨_, rfl⟩
  replace H : ((bindlelaw19_light.f k y271).bind fun t274 => (if t274 = true then ((bindleref08_GoodTree.f l0).bind fun t275 => (if t275 = true then ((bindleref08_GoodTree.f l1).bind fun t276 => (if t276 = true then ((bindleref08_GoodTree.f l2).bind fun t277 => (bindlelaw19_UnionGroups.j0 k l0 l1 l2 (!t277))) else (bindlelaw19_UnionGroups.j0 k l0 l1 l2 true))) else (bindlelaw19_UnionGroups.j0 k l0 l1 l2 true))) else (bindlelaw19_UnionGroups.j0 k l0 l1 l2 true))) = some r := by first | (rw [hy271]; with_reducible exact H) | (have H2_ := (Option.bind_some _ _).symm.trans H; rw [hy271]; with_reducible exact H2_) | (have H2_ := (Option.bind_some _ _).symm.trans H; with_reducible exact H2_) | with_reducible exact H | (rw [hy271]; exact H) | exact H
  have Ny271 := A0_ hy271
  clear hy271
  replace H := Option.bind_eq_some_iff.mp H
  obtain ⟨t274, A50, H⟩ := H
  replace H : (if t274 = true then ((bindleref08_GoodTree.f l0).bind fun t275 => (if t275 = true then ((bindleref08_GoodTree.f l1).bind fun t276 => (if t276 = true then ((bindleref08_GoodTree.f l2).bind fun t277 => (bindlelaw19_UnionGroups.j0 k l0 l1 l2 (!t277))) else (bindlelaw19_UnionGroups.j0 k l0 l1 l2 true))) else (bindlelaw19_UnionGroups.j0 k l0 l1 l2 true))) else (bindlelaw19_UnionGroups.j0 k l0 l1 l2 true)) = some r := H
  have A5 := A0_ A50
  clear A50
  by_cases c6 : t274 = true
  rotate_left
  ·replace c6 := Bool.eq_false_iff.mpr c6
   subst c6
   have H1 : (bindlelaw19_UnionGroups.j0 k l0 l1 l2 true) = some r := by rw [if_neg (show ¬ (false = true) by decide)] at H; exact H
   clear H
   have H := H1
   clear H1
   have H' := A0_ H
   clear H
   go_wp2_with (first | ((with_reducible refine gate_dst (N := 22) rfl ?_); (try (refine gate_guard (by rfl) ?_; dsimp only)); refine Kd.N_lit (Kd.slice 38 k38) _ 31 ?hg (N' := 22) ?hd (xs := ([l0, l1, l2] : List (List (S38)))) (inner := [.slice A0 l0.length c0, .slice A1 l1.length c1, .slice A2 l2.length c2]) (ok := (fun k_ => ((P0_ k_ ∨ P1_ k_ ∨ P2_ k_) ∨ w.heap.size ≤ k_))) (okp := (fun k_ => ((P0_ k_ ∨ P1_ k_ ∨ P2_ k_) ∨ w.heap.size ≤ k_))) ?hr ?hp (fun _ hk => hk) ((show ∀ k_, w.heap.size ≤ k_ → (fun k_ => ((P0_ k_ ∨ P1_ k_ ∨ P2_ k_) ∨ w.heap.size ≤ k_)) k_ from fun k_ hk => (.inr (Nat.le_trans (below_size (wb_ HB.out)) hk))) _ (Nat.le_refl _)) (Below.refl _ _) (Nat.le_refl _) (by simp) ?_; (case hd => rfl); (case hg => rfl); (case hr => first | (go_simp; done) | (go_simp; rfl)); (case hp => exact (Reps.one (show Kd.FK (Kd.slice 38 k38) _ _ l0 [.slice A0 l0.length c0] from (Kd.FK_slice_mk (Kd.V_reads' (Kd.V_mono (ok' := (fun k_ => ((P0_ k_ ∨ P1_ k_ ∨ P2_ k_) ∨ w.heap.size ≤ k_))) (HO0.out) (fun k_ hk => hk))).2.1 (Kd.V_F (Kd.V_mono (ok' := (fun k_ => ((P0_ k_ ∨ P1_ k_ ∨ P2_ k_) ∨ w.heap.size ≤ k_))) (HO0.out) (fun k_ hk => hk))))) (Reps.one (show Kd.FK (Kd.slice 38 k38) _ _ l1 [.slice A1 l1.length c1] from (Kd.FK_slice_mk (Kd.V_reads' (Kd.V_mono (ok' := (fun k_ => ((P0_ k_ ∨ P1_ k_ ∨ P2_ k_) ∨ w.heap.size ≤ k_))) (HO1.out) (fun k_ hk => hk))).2.1 (Kd.V_F (Kd.V_mono (ok' := (fun k_ => ((P0_ k_ ∨ P1_ k_ ∨ P2_ k_) ∨ w.heap.size ≤ k_))) (HO1.out) (fun k_ hk => hk))))) (Reps.one (show Kd.FK (Kd.slice 38 k38) _ _ l2 [.slice A2 l2.length c2] from (Kd.FK_slice_mk (Kd.V_reads' (Kd.V_mono (ok' := (fun k_ => ((P0_ k_ ∨ P1_ k_ ∨ P2_ k_) ∨ w.heap.size ≤ k_))) (HO2.out) (fun k_ hk => hk))).2.1 (Kd.V_F (Kd.V_mono (ok' := (fun k_ => ((P0_ k_ ∨ P1_ k_ ∨ P2_ k_) ∨ w.heap.size ≤ k_))) (HO2.out) (fun k_ hk => hk))))) (Reps.none _ _))))); intro v272 w27 ho28 hb hg_ hnew_; clear hg_ hnew_; (first | rw [← Ny271.out] at ho28 | (simp only [Int.reduceToNat] at ho28; rw [← Ny271.out] at ho28)); have n0_ := A0_ (Kd.V_elder' (wV_ HO0.out) (Kd.N_base ho28) hb); have n1_ := A0_ (Kd.V_elder' (wV_ HO1.out) (Kd.N_base ho28) hb); have n2_ := A0_ (Kd.V_elder' (wV_ HO2.out) (Kd.N_base ho28) hb); have n3_ := A0_ (Kd.N_lower ho28 (below_size (wb_ HB.out))); have n4_ := A0_ (below_step (wb_ HB.out) hb); clear HO0; clear HO1; clear HO2; clear HB; have HO0 := n0_; have HO1 := n1_; have HO2 := n2_; have HO273 := n3_; have HB := n4_; clear n0_ n1_ n2_ n3_ n4_; clear hb ho28; obtain ⟨Ao29, co29, eo29⟩ := Kd.N_slice HO273.out; subst eo29) | ((with_reducible refine gate_callee (f := 21) rfl ?_); refine goesL_ (some 23) rfl rfl Tryd.func21 (by kernel_rfl) rfl #[.slice Ao29 y271.length co29] rfl wm_ ?_; (with_reducible refine (bindlelaw19_light.calls k _ _ y271 false _ ?side1 ?side2 A5.out).mono ?_); (case side1 => exact wc_ (Kd.N_reads' HO273.out).2.2); (case side2 => exact (Kd.N_reads' HO273.out).2.1); rintro e w' ⟨rfl, ⟨nd, rfl⟩⟩; refine ⟨_, rfl, ?_⟩))
   go_meet
   case rel => exact ⟨_, (true), wr_, H', ⟨by first | omega | exact Nat.le_refl _⟩, ⟨by (with_reducible repeat (first | apply Va_ | apply VN_ | apply V1_)); exact Kd.V_mono HO0.out (fun _ hk => hk.1)⟩, ⟨by (with_reducible repeat (first | apply Va_ | apply VN_ | apply V1_)); exact Kd.V_mono HO1.out (fun _ hk => hk.1)⟩, ⟨by (with_reducible repeat (first | apply Va_ | apply VN_ | apply V1_)); exact Kd.V_mono HO2.out (fun _ hk => hk.1)⟩, ⟨wb_ HB.out⟩⟩
  subst c6
  have H1 : ((bindleref08_GoodTree.f l0).bind fun t275 => (if t275 = true then ((bindleref08_GoodTree.f l1).bind fun t276 => (if t276 = true then ((bindleref08_GoodTree.f l2).bind fun t277 => (bindlelaw19_UnionGroups.j0 k l0 l1 l2 (!t277))) else (bindlelaw19_UnionGroups.j0 k l0 l1 l2 true))) else (bindlelaw19_UnionGroups.j0 k l0 l1 l2 true))) = some r := by rw [if_pos rfl] at H; exact H
  clear H
  have H := H1
  clear H1
  replace H := Option.bind_eq_some_iff.mp H
  obtain ⟨t275, A70, H⟩ := H
  replace H : (if t275 = true then ((bindleref08_GoodTree.f l1).bind fun t276 => (if t276 = true then ((bindleref08_GoodTree.f l2).bind fun t277 => (bindlelaw19_UnionGroups.j0 k l0 l1 l2 (!t277))) else (bindlelaw19_UnionGroups.j0 k l0 l1 l2 true))) else (bindlelaw19_UnionGroups.j0 k l0 l1 l2 true)) = some r := H
  have A7 := A0_ A70
  clear A70
  by_cases c8 : t275 = true
  rotate_left
  ·replace c8 := Bool.eq_false_iff.mpr c8
   subst c8
   have H1 : (bindlelaw19_UnionGroups.j0 k l0 l1 l2 true) = some r := by rw [if_neg (show ¬ (false = true) by decide)] at H; exact H
   clear H
   have H := H1
   clear H1
   have H' := A0_ H
   clear H
   go_wp2_with (first | ((with_reducible refine gate_dst (N := 22) rfl ?_); (try (refine gate_guard (by rfl) ?_; dsimp only)); refine Kd.N_lit (Kd.slice 38 k38) _ 31 ?hg (N' := 22) ?hd (xs := ([l0, l1, l2] : List (List (S38)))) (inner := [.slice A0 l0.length c0, .slice A1 l1.length c1, .slice A2 l2.length c2]) (ok := (fun k_ => ((P0_ k_ ∨ P1_ k_ ∨ P2_ k_) ∨ w.heap.size ≤ k_))) (okp := (fun k_ => ((P0_ k_ ∨ P1_ k_ ∨ P2_ k_) ∨ w.heap.size ≤ k_))) ?hr ?hp (fun _ hk => hk) ((show ∀ k_, w.heap.size ≤ k_ → (fun k_ => ((P0_ k_ ∨ P1_ k_ ∨ P2_ k_) ∨ w.heap.size ≤ k_)) k_ from fun k_ hk => (.inr (Nat.le_trans (below_size (wb_ HB.out)) hk))) _ (Nat.le_refl _)) (Below.refl _ _) (Nat.le_refl _) (by simp) ?_; (case hd => rfl); (case hg => rfl); (case hr => first | (go_simp; done) | (go_simp; rfl)); (case hp => exact (Reps.one (show Kd.FK (Kd.slice 38 k38) _ _ l0 [.slice A0 l0.length c0] from (Kd.FK_slice_mk (Kd.V_reads' (Kd.V_mono (ok' := (fun k_ => ((P0_ k_ ∨ P1_ k_ ∨ P2_ k_) ∨ w.heap.size ≤ k_))) (HO0.out) (fun k_ hk => hk))).2.1 (Kd.V_F (Kd.V_mono (ok' := (fun k_ => ((P0_ k_ ∨ P1_ k_ ∨ P2_ k_) ∨ w.heap.size ≤ k_))) (HO0.out) (fun k_ hk => hk))))) (Reps.one (show Kd.FK (Kd.slice 38 k38) _ _ l1 [.slice A1 l1.length c1] from (Kd.FK_slice_mk (Kd.V_reads' (Kd.V_mono (ok' := (fun k_ => ((P0_ k_ ∨ P1_ k_ ∨ P2_ k_) ∨ w.heap.size ≤ k_))) (HO1.out) (fun k_ hk => hk))).2.1 (Kd.V_F (Kd.V_mono (ok' := (fun k_ => ((P0_ k_ ∨ P1_ k_ ∨ P2_ k_) ∨ w.heap.size ≤ k_))) (HO1.out) (fun k_ hk => hk))))) (Reps.one (show Kd.FK (Kd.slice 38 k38) _ _ l2 [.slice A2 l2.length c2] from (Kd.FK_slice_mk (Kd.V_reads' (Kd.V_mono (ok' := (fun k_ => ((P0_ k_ ∨ P1_ k_ ∨ P2_ k_) ∨ w.heap.size ≤ k_))) (HO2.out) (fun k_ hk => hk))).2.1 (Kd.V_F (Kd.V_mono (ok' := (fun k_ => ((P0_ k_ ∨ P1_ k_ ∨ P2_ k_) ∨ w.heap.size ≤ k_))) (HO2.out) (fun k_ hk => hk))))) (Reps.none _ _))))); intro v272 w23 ho24 hb hg_ hnew_; clear hg_ hnew_; (first | rw [← Ny271.out] at ho24 | (simp only [Int.reduceToNat] at ho24; rw [← Ny271.out] at ho24)); have n0_ := A0_ (Kd.V_elder' (wV_ HO0.out) (Kd.N_base ho24) hb); have n1_ := A0_ (Kd.V_elder' (wV_ HO1.out) (Kd.N_base ho24) hb); have n2_ := A0_ (Kd.V_elder' (wV_ HO2.out) (Kd.N_base ho24) hb); have n3_ := A0_ (Kd.N_lower ho24 (below_size (wb_ HB.out))); have n4_ := A0_ (below_step (wb_ HB.out) hb); clear HO0; clear HO1; clear HO2; clear HB; have HO0 := n0_; have HO1 := n1_; have HO2 := n2_; have HO273 := n3_; have HB := n4_; clear n0_ n1_ n2_ n3_ n4_; clear hb ho24; obtain ⟨Ao25, co25, eo25⟩ := Kd.N_slice HO273.out; subst eo25) | ((with_reducible refine gate_callee (f := 21) rfl ?_); refine goesL_ (some 23) rfl rfl Tryd.func21 (by kernel_rfl) rfl #[.slice Ao25 y271.length co25] rfl wm_ ?_; (with_reducible refine (bindlelaw19_light.calls k _ _ y271 true _ ?side1 ?side2 A5.out).mono ?_); (case side1 => exact wc_ (Kd.N_reads' HO273.out).2.2); (case side2 => exact (Kd.N_reads' HO273.out).2.1); rintro e w' ⟨rfl, ⟨nd, rfl⟩⟩; refine ⟨_, rfl, ?_⟩) | (go_at_call 26; (with_reducible refine (bindleref08_GoodTree.calls _ _ l0 false _ ?side1 ?side2 A7.out).mono ?_); (case side1 => exact wc_ (Kd.V_reads' HO0.out).2.2); (case side2 => exact (Kd.V_reads' HO0.out).2.1); rintro e w26 ⟨rfl, hb⟩; have n0_ := A0_ (Vb_ (wV_ HO0.out) hb); have n1_ := A0_ (Vb_ (wV_ HO1.out) hb); have n2_ := A0_ (Vb_ (wV_ HO2.out) hb); have n3_ := A0_ (Kd.N_below (wN_ HO273.out) hb); have n4_ := A0_ (below_step (wb_ HB.out) hb); clear HO0; clear HO1; clear HO2; clear HO273; clear HB; have HO0 := n0_; have HO1 := n1_; have HO2 := n2_; have HO273 := n3_; have HB := n4_; clear n0_ n1_ n2_ n3_ n4_; (try clear hb); (try clear hb2); (try clear hk); (try clear hi)))
   go_meet
   case rel => exact ⟨_, (true), wr_, H', ⟨by first | omega | exact Nat.le_refl _⟩, ⟨by (with_reducible repeat (first | apply Va_ | apply VN_ | apply V1_)); exact Kd.V_mono HO0.out (fun _ hk => hk.1)⟩, ⟨by (with_reducible repeat (first | apply Va_ | apply VN_ | apply V1_)); exact Kd.V_mono HO1.out (fun _ hk => hk.1)⟩, ⟨by (with_reducible repeat (first | apply Va_ | apply VN_ | apply V1_)); exact Kd.V_mono HO2.out (fun _ hk => hk.1)⟩, ⟨wb_ HB.out⟩⟩
  subst c8
  have H1 : ((bindleref08_GoodTree.f l1).bind fun t276 => (if t276 = true then ((bindleref08_GoodTree.f l2).bind fun t277 => (bindlelaw19_UnionGroups.j0 k l0 l1 l2 (!t277))) else (bindlelaw19_UnionGroups.j0 k l0 l1 l2 true))) = some r := by rw [if_pos rfl] at H; exact H
  clear H
  have H := H1
  clear H1
  replace H := Option.bind_eq_some_iff.mp H
  obtain ⟨t276, A90, H⟩ := H
  replace H : (if t276 = true then ((bindleref08_GoodTree.f l2).bind fun t277 => (bindlelaw19_UnionGroups.j0 k l0 l1 l2 (!t277))) else (bindlelaw19_UnionGroups.j0 k l0 l1 l2 true)) = some r := H
  have A9 := A0_ A90
  clear A90
  by_cases c10 : t276 = true
  rotate_left
  ·replace c10 := Bool.eq_false_iff.mpr c10
   subst c10
   have H1 : (bindlelaw19_UnionGroups.j0 k l0 l1 l2 true) = some r := by rw [if_neg (show ¬ (false = true) by decide)] at H; exact H
   clear H
   have H := H1
   clear H1
   have H' := A0_ H
   clear H
   go_wp2_with (first | ((with_reducible refine gate_dst (N := 22) rfl ?_); (try (refine gate_guard (by rfl) ?_; dsimp only)); refine Kd.N_lit (Kd.slice 38 k38) _ 31 ?hg (N' := 22) ?hd (xs := ([l0, l1, l2] : List (List (S38)))) (inner := [.slice A0 l0.length c0, .slice A1 l1.length c1, .slice A2 l2.length c2]) (ok := (fun k_ => ((P0_ k_ ∨ P1_ k_ ∨ P2_ k_) ∨ w.heap.size ≤ k_))) (okp := (fun k_ => ((P0_ k_ ∨ P1_ k_ ∨ P2_ k_) ∨ w.heap.size ≤ k_))) ?hr ?hp (fun _ hk => hk) ((show ∀ k_, w.heap.size ≤ k_ → (fun k_ => ((P0_ k_ ∨ P1_ k_ ∨ P2_ k_) ∨ w.heap.size ≤ k_)) k_ from fun k_ hk => (.inr (Nat.le_trans (below_size (wb_ HB.out)) hk))) _ (Nat.le_refl _)) (Below.refl _ _) (Nat.le_refl _) (by simp) ?_; (case hd => rfl); (case hg => rfl); (case hr => first | (go_simp; done) | (go_simp; rfl)); (case hp => exact (Reps.one (show Kd.FK (Kd.slice 38 k38) _ _ l0 [.slice A0 l0.length c0] from (Kd.FK_slice_mk (Kd.V_reads' (Kd.V_mono (ok' := (fun k_ => ((P0_ k_ ∨ P1_ k_ ∨ P2_ k_) ∨ w.heap.size ≤ k_))) (HO0.out) (fun k_ hk => hk))).2.1 (Kd.V_F (Kd.V_mono (ok' := (fun k_ => ((P0_ k_ ∨ P1_ k_ ∨ P2_ k_) ∨ w.heap.size ≤ k_))) (HO0.out) (fun k_ hk => hk))))) (Reps.one (show Kd.FK (Kd.slice 38 k38) _ _ l1 [.slice A1 l1.length c1] from (Kd.FK_slice_mk (Kd.V_reads' (Kd.V_mono (ok' := (fun k_ => ((P0_ k_ ∨ P1_ k_ ∨ P2_ k_) ∨ w.heap.size ≤ k_))) (HO1.out) (fun k_ hk => hk))).2.1 (Kd.V_F (Kd.V_mono (ok' := (fun k_ => ((P0_ k_ ∨ P1_ k_ ∨ P2_ k_) ∨ w.heap.size ≤ k_))) (HO1.out) (fun k_ hk => hk))))) (Reps.one (show Kd.FK (Kd.slice 38 k38) _ _ l2 [.slice A2 l2.length c2] from (Kd.FK_slice_mk (Kd.V_reads' (Kd.V_mono (ok' := (fun k_ => ((P0_ k_ ∨ P1_ k_ ∨ P2_ k_) ∨ w.heap.size ≤ k_))) (HO2.out) (fun k_ hk => hk))).2.1 (Kd.V_F (Kd.V_mono (ok' := (fun k_ => ((P0_ k_ ∨ P1_ k_ ∨ P2_ k_) ∨ w.heap.size ≤ k_))) (HO2.out) (fun k_ hk => hk))))) (Reps.none _ _))))); intro v272 w18 ho19 hb hg_ hnew_; clear hg_ hnew_; (first | rw [← Ny271.out] at ho19 | (simp only [Int.reduceToNat] at ho19; rw [← Ny271.out] at ho19)); have n0_ := A0_ (Kd.V_elder' (wV_ HO0.out) (Kd.N_base ho19) hb); have n1_ := A0_ (Kd.V_elder' (wV_ HO1.out) (Kd.N_base ho19) hb); have n2_ := A0_ (Kd.V_elder' (wV_ HO2.out) (Kd.N_base ho19) hb); have n3_ := A0_ (Kd.N_lower ho19 (below_size (wb_ HB.out))); have n4_ := A0_ (below_step (wb_ HB.out) hb); clear HO0; clear HO1; clear HO2; clear HB; have HO0 := n0_; have HO1 := n1_; have HO2 := n2_; have HO273 := n3_; have HB := n4_; clear n0_ n1_ n2_ n3_ n4_; clear hb ho19; obtain ⟨Ao20, co20, eo20⟩ := Kd.N_slice HO273.out; subst eo20) | ((with_reducible refine gate_callee (f := 21) rfl ?_); refine goesL_ (some 23) rfl rfl Tryd.func21 (by kernel_rfl) rfl #[.slice Ao20 y271.length co20] rfl wm_ ?_; (with_reducible refine (bindlelaw19_light.calls k _ _ y271 true _ ?side1 ?side2 A5.out).mono ?_); (case side1 => exact wc_ (Kd.N_reads' HO273.out).2.2); (case side2 => exact (Kd.N_reads' HO273.out).2.1); rintro e w' ⟨rfl, ⟨nd, rfl⟩⟩; refine ⟨_, rfl, ?_⟩) | (go_at_call 26; (with_reducible refine (bindleref08_GoodTree.calls _ _ l0 true _ ?side1 ?side2 A7.out).mono ?_); (case side1 => exact wc_ (Kd.V_reads' HO0.out).2.2); (case side2 => exact (Kd.V_reads' HO0.out).2.1); rintro e w21 ⟨rfl, hb⟩; have n0_ := A0_ (Vb_ (wV_ HO0.out) hb); have n1_ := A0_ (Vb_ (wV_ HO1.out) hb); have n2_ := A0_ (Vb_ (wV_ HO2.out) hb); have n3_ := A0_ (Kd.N_below (wN_ HO273.out) hb); have n4_ := A0_ (below_step (wb_ HB.out) hb); clear HO0; clear HO1; clear HO2; clear HO273; clear HB; have HO0 := n0_; have HO1 := n1_; have HO2 := n2_; have HO273 := n3_; have HB := n4_; clear n0_ n1_ n2_ n3_ n4_; (try clear hb); (try clear hb2); (try clear hk); (try clear hi)) | (go_at_call 26; (with_reducible refine (bindleref08_GoodTree.calls _ _ l1 false _ ?side1 ?side2 A9.out).mono ?_); (case side1 => exact wc_ (Kd.V_reads' HO1.out).2.2); (case side2 => exact (Kd.V_reads' HO1.out).2.1); rintro e w22 ⟨rfl, hb⟩; have n0_ := A0_ (Vb_ (wV_ HO0.out) hb); have n1_ := A0_ (Vb_ (wV_ HO1.out) hb); have n2_ := A0_ (Vb_ (wV_ HO2.out) hb); have n3_ := A0_ (Kd.N_below (wN_ HO273.out) hb); have n4_ := A0_ (below_step (wb_ HB.out) hb); clear HO0; clear HO1; clear HO2; clear HO273; clear HB; have HO0 := n0_; have HO1 := n1_; have HO2 := n2_; have HO273 := n3_; have HB := n4_; clear n0_ n1_ n2_ n3_ n4_; (try clear hb); (try clear hb2); (try clear hk); (try clear hi)))
   go_meet
   case rel => exact ⟨_, (true), wr_, H', ⟨by first | omega | exact Nat.le_refl _⟩, ⟨by (with_reducible repeat (first | apply Va_ | apply VN_ | apply V1_)); exact Kd.V_mono HO0.out (fun _ hk => hk.1)⟩, ⟨by (with_reducible repeat (first | apply Va_ | apply VN_ | apply V1_)); exact Kd.V_mono HO1.out (fun _ hk => hk.1)⟩, ⟨by (with_reducible repeat (first | apply Va_ | apply VN_ | apply V1_)); exact Kd.V_mono HO2.out (fun _ hk => hk.1)⟩, ⟨wb_ HB.out⟩⟩
  subst c10
  have H1 : ((bindleref08_GoodTree.f l2).bind fun t277 => (bindlelaw19_UnionGroups.j0 k l0 l1 l2 (!t277))) = some r := by rw [if_pos rfl] at H; exact H
  clear H
  have H := H1
  clear H1
  replace H := Option.bind_eq_some_iff.mp H
  obtain ⟨t277, A110, H⟩ := H
  replace H : (bindlelaw19_UnionGroups.j0 k l0 l1 l2 (!t277)) = some r := H
  have A11 := A0_ A110
  clear A110
  have H' := A0_ H
  clear H
  go_wp2_with (first | ((with_reducible refine gate_dst (N := 22) rfl ?_); (try (refine gate_guard (by rfl) ?_; dsimp only)); refine Kd.N_lit (Kd.slice 38 k38) _ 31 ?hg (N' := 22) ?hd (xs := ([l0, l1, l2] : List (List (S38)))) (inner := [.slice A0 l0.length c0, .slice A1 l1.length c1, .slice A2 l2.length c2]) (ok := (fun k_ => ((P0_ k_ ∨ P1_ k_ ∨ P2_ k_) ∨ w.heap.size ≤ k_))) (okp := (fun k_ => ((P0_ k_ ∨ P1_ k_ ∨ P2_ k_) ∨ w.heap.size ≤ k_))) ?hr ?hp (fun _ hk => hk) ((show ∀ k_, w.heap.size ≤ k_ → (fun k_ => ((P0_ k_ ∨ P1_ k_ ∨ P2_ k_) ∨ w.heap.size ≤ k_)) k_ from fun k_ hk => (.inr (Nat.le_trans (below_size (wb_ HB.out)) hk))) _ (Nat.le_refl _)) (Below.refl _ _) (Nat.le_refl _) (by simp) ?_; (case hd => rfl); (case hg => rfl); (case hr => first | (go_simp; done) | (go_simp; rfl)); (case hp => exact (Reps.one (show Kd.FK (Kd.slice 38 k38) _ _ l0 [.slice A0 l0.length c0] from (Kd.FK_slice_mk (Kd.V_reads' (Kd.V_mono (ok' := (fun k_ => ((P0_ k_ ∨ P1_ k_ ∨ P2_ k_) ∨ w.heap.size ≤ k_))) (HO0.out) (fun k_ hk => hk))).2.1 (Kd.V_F (Kd.V_mono (ok' := (fun k_ => ((P0_ k_ ∨ P1_ k_ ∨ P2_ k_) ∨ w.heap.size ≤ k_))) (HO0.out) (fun k_ hk => hk))))) (Reps.one (show Kd.FK (Kd.slice 38 k38) _ _ l1 [.slice A1 l1.length c1] from (Kd.FK_slice_mk (Kd.V_reads' (Kd.V_mono (ok' := (fun k_ => ((P0_ k_ ∨ P1_ k_ ∨ P2_ k_) ∨ w.heap.size ≤ k_))) (HO1.out) (fun k_ hk => hk))).2.1 (Kd.V_F (Kd.V_mono (ok' := (fun k_ => ((P0_ k_ ∨ P1_ k_ ∨ P2_ k_) ∨ w.heap.size ≤ k_))) (HO1.out) (fun k_ hk => hk))))) (Reps.one (show Kd.FK (Kd.slice 38 k38) _ _ l2 [.slice A2 l2.length c2] from (Kd.FK_slice_mk (Kd.V_reads' (Kd.V_mono (ok' := (fun k_ => ((P0_ k_ ∨ P1_ k_ ∨ P2_ k_) ∨ w.heap.size ≤ k_))) (HO2.out) (fun k_ hk => hk))).2.1 (Kd.V_F (Kd.V_mono (ok' := (fun k_ => ((P0_ k_ ∨ P1_ k_ ∨ P2_ k_) ∨ w.heap.size ≤ k_))) (HO2.out) (fun k_ hk => hk))))) (Reps.none _ _))))); intro v272 w12 ho13 hb hg_ hnew_; clear hg_ hnew_; (first | rw [← Ny271.out] at ho13 | (simp only [Int.reduceToNat] at ho13; rw [← Ny271.out] at ho13)); have n0_ := A0_ (Kd.V_elder' (wV_ HO0.out) (Kd.N_base ho13) hb); have n1_ := A0_ (Kd.V_elder' (wV_ HO1.out) (Kd.N_base ho13) hb); have n2_ := A0_ (Kd.V_elder' (wV_ HO2.out) (Kd.N_base ho13) hb); have n3_ := A0_ (Kd.N_lower ho13 (below_size (wb_ HB.out))); have n4_ := A0_ (below_step (wb_ HB.out) hb); clear HO0; clear HO1; clear HO2; clear HB; have HO0 := n0_; have HO1 := n1_; have HO2 := n2_; have HO273 := n3_; have HB := n4_; clear n0_ n1_ n2_ n3_ n4_; clear hb ho13; obtain ⟨Ao14, co14, eo14⟩ := Kd.N_slice HO273.out; subst eo14) | ((with_reducible refine gate_callee (f := 21) rfl ?_); refine goesL_ (some 23) rfl rfl Tryd.func21 (by kernel_rfl) rfl #[.slice Ao14 y271.length co14] rfl wm_ ?_; (with_reducible refine (bindlelaw19_light.calls k _ _ y271 true _ ?side1 ?side2 A5.out).mono ?_); (case side1 => exact wc_ (Kd.N_reads' HO273.out).2.2); (case side2 => exact (Kd.N_reads' HO273.out).2.1); rintro e w' ⟨rfl, ⟨nd, rfl⟩⟩; refine ⟨_, rfl, ?_⟩) | (go_at_call 26; (with_reducible refine (bindleref08_GoodTree.calls _ _ l0 true _ ?side1 ?side2 A7.out).mono ?_); (case side1 => exact wc_ (Kd.V_reads' HO0.out).2.2); (case side2 => exact (Kd.V_reads' HO0.out).2.1); rintro e w15 ⟨rfl, hb⟩; have n0_ := A0_ (Vb_ (wV_ HO0.out) hb); have n1_ := A0_ (Vb_ (wV_ HO1.out) hb); have n2_ := A0_ (Vb_ (wV_ HO2.out) hb); have n3_ := A0_ (Kd.N_below (wN_ HO273.out) hb); have n4_ := A0_ (below_step (wb_ HB.out) hb); clear HO0; clear HO1; clear HO2; clear HO273; clear HB; have HO0 := n0_; have HO1 := n1_; have HO2 := n2_; have HO273 := n3_; have HB := n4_; clear n0_ n1_ n2_ n3_ n4_; (try clear hb); (try clear hb2); (try clear hk); (try clear hi)) | (go_at_call 26; (with_reducible refine (bindleref08_GoodTree.calls _ _ l1 true _ ?side1 ?side2 A9.out).mono ?_); (case side1 => exact wc_ (Kd.V_reads' HO1.out).2.2); (case side2 => exact (Kd.V_reads' HO1.out).2.1); rintro e w16 ⟨rfl, hb⟩; have n0_ := A0_ (Vb_ (wV_ HO0.out) hb); have n1_ := A0_ (Vb_ (wV_ HO1.out) hb); have n2_ := A0_ (Vb_ (wV_ HO2.out) hb); have n3_ := A0_ (Kd.N_below (wN_ HO273.out) hb); have n4_ := A0_ (below_step (wb_ HB.out) hb); clear HO0; clear HO1; clear HO2; clear HO273; clear HB; have HO0 := n0_; have HO1 := n1_; have HO2 := n2_; have HO273 := n3_; have HB := n4_; clear n0_ n1_ n2_ n3_ n4_; (try clear hb); (try clear hb2); (try clear hk); (try clear hi)) | (go_at_call 26; (with_reducible refine (bindleref08_GoodTree.calls _ _ l2 t277 _ ?side1 ?side2 A11.out).mono ?_); (case side1 => exact wc_ (Kd.V_reads' HO2.out).2.2); (case side2 => exact (Kd.V_reads' HO2.out).2.1); rintro e w17 ⟨rfl, hb⟩; have n0_ := A0_ (Vb_ (wV_ HO0.out) hb); have n1_ := A0_ (Vb_ (wV_ HO1.out) hb); have n2_ := A0_ (Vb_ (wV_ HO2.out) hb); have n3_ := A0_ (Kd.N_below (wN_ HO273.out) hb); have n4_ := A0_ (below_step (wb_ HB.out) hb); clear HO0; clear HO1; clear HO2; clear HO273; clear HB; have HO0 := n0_; have HO1 := n1_; have HO2 := n2_; have HO273 := n3_; have HB := n4_; clear n0_ n1_ n2_ n3_ n4_; (try clear hb); (try clear hb2); (try clear hk); (try clear hi)))
  go_meet
  case rel => exact ⟨_, (!t277), wr_, H', ⟨by first | omega | exact Nat.le_refl _⟩, ⟨by (with_reducible repeat (first | apply Va_ | apply VN_ | apply V1_)); exact Kd.V_mono HO0.out (fun _ hk => hk.1)⟩, ⟨by (with_reducible repeat (first | apply Va_ | apply VN_ | apply V1_)); exact Kd.V_mono HO1.out (fun _ hk => hk.1)⟩, ⟨by (with_reducible repeat (first | apply Va_ | apply VN_ | apply V1_)); exact Kd.V_mono HO2.out (fun _ hk => hk.1)⟩, ⟨wb_ HB.out⟩⟩
 case rest =>
  clear HC4
  try clear c1
  try clear c2
  try clear p2
  try clear c5
  try clear c6
  try clear c8
  try clear c10
  try clear c21
  obtain ⟨kq, x39_3, rfl, HA, HJ3, HO_0, HO_1, HO_2, HB⟩ := hcut
  cases kq with
  | zero => exact absurd HA.out (by simp [bindlelaw19_UnionGroups.j0])
  | succ kj3 =>
   have H := HA.out
   clear HA
   simp only [bindlelaw19_UnionGroups.j0] at H
   by_cases c30 : x39_3 = true
   ·subst c30
    have H1 : ((bindlelaw19_answers.f).bind fun t278 => (some t278)) = some r := by rw [if_pos rfl] at H; exact H
    clear H
    have H := H1
    clear H1
    replace H := Option.bind_eq_some_iff.mp H
    obtain ⟨t278, A310, H⟩ := H
    replace H : (some t278) = some r := H
    have A31 := A0_ A310
    clear A310
    obtain rfl := Option.some.inj H
    go_wp2_with (first | ((with_reducible refine gate_callee (f := 22) rfl ?_); refine goesL_ (some 40) rfl rfl Tryd.func22 (by kernel_rfl) rfl #[] rfl wm_ ?_; (with_reducible refine (bindlelaw19_answers.calls  t278 _ ?side1 A31.out).mono ?_); (case side1 => exact A0_ (Tabs.below hT.out (wb_ HB.out))); rintro e w32 ⟨rfl, hb⟩; refine ⟨_, rfl, ?_⟩; have n0_ := A0_ (Vb_ (wV_ HO_0.out) hb); have n1_ := A0_ (Vb_ (wV_ HO_1.out) hb); have n2_ := A0_ (Vb_ (wV_ HO_2.out) hb); have n3_ := A0_ (below_step (wb_ HB.out) hb); clear HO_0; clear HO_1; clear HO_2; clear HB; have HO_0 := n0_; have HO_1 := n1_; have HO_2 := n2_; have HB := n3_; clear n0_ n1_ n2_ n3_; (try clear hb); (try clear hb2); (try clear hk); (try clear hi)))
    go_ret
    exact ⟨we_, wb_ HB.out⟩
   replace c30 := Bool.eq_false_iff.mpr c30
   subst c30
   have H1 : ((union_Union.f (([l0, l1, l2] : List (List (S38))))).bind fun bt282 => ((union_Union.f (([l0, l1] : List (List (S38))))).bind fun bt289 => ((union_Union.f (([bt289.1, l2] : List (List (S38))))).bind fun bt296 => ((union_Union.f (([l1, l2] : List (List (S38))))).bind fun bt303 => ((union_Union.f (([l0, bt303.1] : List (List (S38))))).bind fun bt310 => ((union_Union.f (([l0, l0] : List (List (S38))))).bind fun bt317 => ((union_Union.f (([[], l0, []] : List (List (S38))))).bind fun bt324 => ((union_Union.f ([] : List (List (S38)))).bind fun bt328 => ((bindlelaw19_answers.f).bind fun t332 => (if t332 = true then ((bindleref08_SameTree.f kj3 bt282.1 bt296.1).bind fun t333 => (if t333 = true then ((bindleref08_SameTree.f kj3 bt282.1 bt310.1).bind fun t334 => (if t334 = true then ((bindleref08_SameTree.f kj3 bt317.1 l0).bind fun t335 => (if t335 = true then (if bt324.2 = 0 then ((bindleref08_SameTree.f kj3 bt324.1 l0).bind fun t336 => (if t336 = true then (if bt328.2 = 0 then (some ((bt328.1.length : Int) == 0)) else (some false)) else (some false))) else (some false)) else (some false))) else (some false))) else (some false))) else (some false))))))))))) = some r := by rw [if_neg (show ¬ (false = true) by decide)] at H; exact H
   clear H
   have H := H1
   clear H1
   obtain ⟨y279, hy279⟩ : ∃ y_ : List (List (S38)), y_ = (([l0, l1, l2] : List (List (S38)))) := ⟨_, rfl⟩
   replace H : ((union_Union.f y279).bind fun bt282 => ((union_Union.f (([l0, l1] : List (List (S38))))).bind fun bt289 => ((union_Union.f (([bt289.1, l2] : List (List (S38))))).bind fun bt296 => ((union_Union.f (([l1, l2] : List (List (S38))))).bind fun bt303 => ((union_Union.f (([l0, bt303.1] : List (List (S38))))).bind fun bt310 => ((union_Union.f (([l0, l0] : List (List (S38))))).bind fun bt317 => ((union_Union.f (([[], l0, []] : List (List (S38))))).bind fun bt324 => ((union_Union.f ([] : List (List (S38)))).bind fun bt328 => ((bindlelaw19_answers.f).bind fun t332 => (if t332 = true then ((bindleref08_SameTree.f kj3 bt282.1 bt296.1).bind fun t333 => (if t333 = true then ((bindleref08_SameTree.f kj3 bt282.1 bt310.1).bind fun t334 => (if t334 = true then ((bindleref08_SameTree.f kj3 bt317.1 l0).bind fun t335 => (if t335 = true then (if bt324.2 = 0 then ((bindleref08_SameTree.f kj3 bt324.1 l0).bind fun t336 => (if t336 = true then (if bt328.2 = 0 then (some ((bt328.1.length : Int) == 0)) else (some false)) else (some false))) else (some false)) else (some false))) else (some false))) else (some false))) else (some false))))))))))) = some r := by first | (rw [hy279]; with_reducible exact H) | (have H2_ := (Option.bind_some _ _).symm.trans H; rw [hy279]; with_reducible exact H2_) | (have H2_ := (Option.bind_some _ _).symm.trans H; with_reducible exact H2_) | with_reducible exact H | (rw [hy279]; exact H) | exact H
   have Ny279 := A0_ hy279
   clear hy279
   replace H := Option.bind_eq_some_iff.mp H
   obtain ⟨⟨t282, t285⟩, A330, H⟩ := H
   replace H : ((union_Union.f (([l0, l1] : List (List (S38))))).bind fun bt289 => ((union_Union.f (([bt289.1, l2] : List (List (S38))))).bind fun bt296 => ((union_Union.f (([l1, l2] : List (List (S38))))).bind fun bt303 => ((union_Union.f (([l0, bt303.1] : List (List (S38))))).bind fun bt310 => ((union_Union.f (([l0, l0] : List (List (S38))))).bind fun bt317 => ((union_Union.f (([[], l0, []] : List (List (S38))))).bind fun bt324 => ((union_Union.f ([] : List (List (S38)))).bind fun bt328 => ((bindlelaw19_answers.f).bind fun t332 => (if t332 = true then ((bindleref08_SameTree.f kj3 t282 bt296.1).bind fun t333 => (if t333 = true then ((bindleref08_SameTree.f kj3 t282 bt310.1).bind fun t334 => (if t334 = true then ((bindleref08_SameTree.f kj3 bt317.1 l0).bind fun t335 => (if t335 = true then (if bt324.2 = 0 then ((bindleref08_SameTree.f kj3 bt324.1 l0).bind fun t336 => (if t336 = true then (if bt328.2 = 0 then (some ((bt328.1.length : Int) == 0)) else (some false)) else (some false))) else (some false)) else (some false))) else (some false))) else (some false))) else (some false)))))))))) = some r := H
   have A33 := A0_ A330
   clear A330
   obtain ⟨y286, hy286⟩ : ∃ y_ : List (List (S38)), y_ = (([l0, l1] : List (List (S38)))) := ⟨_, rfl⟩
   replace H : ((union_Union.f y286).bind fun bt289 => ((union_Union.f (([bt289.1, l2] : List (List (S38))))).bind fun bt296 => ((union_Union.f (([l1, l2] : List (List (S38))))).bind fun bt303 => ((union_Union.f (([l0, bt303.1] : List (List (S38))))).bind fun bt310 => ((union_Union.f (([l0, l0] : List (List (S38))))).bind fun bt317 => ((union_Union.f (([[], l0, []] : List (List (S38))))).bind fun bt324 => ((union_Union.f ([] : List (List (S38)))).bind fun bt328 => ((bindlelaw19_answers.f).bind fun t332 => (if t332 = true then ((bindleref08_SameTree.f kj3 t282 bt296.1).bind fun t333 => (if t333 = true then ((bindleref08_SameTree.f kj3 t282 bt310.1).bind fun t334 => (if t334 = true then ((bindleref08_SameTree.f kj3 bt317.1 l0).bind fun t335 => (if t335 = true then (if bt324.2 = 0 then ((bindleref08_SameTree.f kj3 bt324.1 l0).bind fun t336 => (if t336 = true then (if bt328.2 = 0 then (some ((bt328.1.length : Int) == 0)) else (some false)) else (some false))) else (some false)) else (some false))) else (some false))) else (some false))) else (some false)))))))))) = some r := by first | (rw [hy286]; with_reducible exact H) | (have H2_ := (Option.bind_some _ _).symm.trans H; rw [hy286]; with_reducible exact H2_) | (have H2_ := (Option.bind_some _ _).symm.trans H; with_reducible exact H2_) | with_reducible exact H | (rw [hy286]; exact H) | exact H
   have Ny286 := A0_ hy286
   clear hy286
   replace H := Option.bind_eq_some_iff.mp H
   obtain ⟨⟨t289, t292⟩, A340, H⟩ := H
   replace H : ((union_Union.f (([t289, l2] : List (List (S38))))).bind fun bt296 => ((union_Union.f (([l1, l2] : List (List (S38))))).bind fun bt303 => ((union_Union.f (([l0, bt303.1] : List (List (S38))))).bind fun bt310 => ((union_Union.f (([l0, l0] : List (List (S38))))).bind fun bt317 => ((union_Union.f (([[], l0, []] : List (List (S38))))).bind fun bt324 => ((union_Union.f ([] : List (List (S38)))).bind fun bt328 => ((bindlelaw19_answers.f).bind fun t332 => (if t332 = true then ((bindleref08_SameTree.f kj3 t282 bt296.1).bind fun t333 => (if t333 = true then ((bindleref08_SameTree.f kj3 t282 bt310.1).bind fun t334 => (if t334 = true then ((bindleref08_SameTree.f kj3 bt317.1 l0).bind fun t335 => (if t335 = true then (if bt324.2 = 0 then ((bindleref08_SameTree.f kj3 bt324.1 l0).bind fun t336 => (if t336 = true then (if bt328.2 = 0 then (some ((bt328.1.length : Int) == 0)) else (some false)) else (some false))) else (some false)) else (some false))) else (some false))) else (some false))) else (some false))))))))) = some r := H
   have A34 := A0_ A340
   clear A340
   obtain ⟨y293, hy293⟩ : ∃ y_ : List (List (S38)), y_ = (([t289, l2] : List (List (S38)))) := ⟨_, rfl⟩
   replace H : ((union_Union.f y293).bind fun bt296 => ((union_Union.f (([l1, l2] : List (List (S38))))).bind fun bt303 => ((union_Union.f (([l0, bt303.1] : List (List (S38))))).bind fun bt310 => ((union_Union.f (([l0, l0] : List (List (S38))))).bind fun bt317 => ((union_Union.f (([[], l0, []] : List (List (S38))))).bind fun bt324 => ((union_Union.f ([] : List (List (S38)))).bind fun bt328 => ((bindlelaw19_answers.f).bind fun t332 => (if t332 = true then ((bindleref08_SameTree.f kj3 t282 bt296.1).bind fun t333 => (if t333 = true then ((bindleref08_SameTree.f kj3 t282 bt310.1).bind fun t334 => (if t334 = true then ((bindleref08_SameTree.f kj3 bt317.1 l0).bind fun t335 => (if t335 = true then (if bt324.2 = 0 then ((bindleref08_SameTree.f kj3 bt324.1 l0).bind fun t336 => (if t336 = true then (if bt328.2 = 0 then (some ((bt328.1.length : Int) == 0)) else (some false)) else (some false))) else (some false)) else (some false))) else (some false))) else (some false))) else (some false))))))))) = some r := by first | (rw [hy293]; with_reducible exact H) | (have H2_ := (Option.bind_some _ _).symm.trans H; rw [hy293]; with_reducible exact H2_) | (have H2_ := (Option.bind_some _ _).symm.trans H; with_reducible exact H2_) | with_reducible exact H | (rw [hy293]; exact H) | exact H
   have Ny293 := A0_ hy293
   clear hy293
   replace H := Option.bind_eq_some_iff.mp H
   obtain ⟨⟨t296, t299⟩, A350, H⟩ := H
   replace H : ((union_Union.f (([l1, l2] : List (List (S38))))).bind fun bt303 => ((union_Union.f (([l0, bt303.1] : List (List (S38))))).bind fun bt310 => ((union_Union.f (([l0, l0] : List (List (S38))))).bind fun bt317 => ((union_Union.f (([[], l0, []] : List (List (S38))))).bind fun bt324 => ((union_Union.f ([] : List (List (S38)))).bind fun bt328 => ((bindlelaw19_answers.f).bind fun t332 => (if t332 = true then ((bindleref08_SameTree.f kj3 t282 t296).bind fun t333 => (if t333 = true then ((bindleref08_SameTree.f kj3 t282 bt310.1).bind fun t334 => (if t334 = true then ((bindleref08_SameTree.f kj3 bt317.1 l0).bind fun t335 => (if t335 = true then (if bt324.2 = 0 then ((bindleref08_SameTree.f kj3 bt324.1 l0).bind fun t336 => (if t336 = true then (if bt328.2 = 0 then (some ((bt328.1.length : Int) == 0)) else (some false)) else (some false))) else (some false)) else (some false))) else (some false))) else (some false))) else (some false)))))))) = some r := H
   have A35 := A0_ A350
   clear A350
   obtain ⟨y300, hy300⟩ : ∃ y_ : List (List (S38)), y_ = (([l1, l2] : List (List (S38)))) := ⟨_, rfl⟩
   replace H : ((union_Union.f y300).bind fun bt303 => ((union_Union.f (([l0, bt303.1] : List (List (S38))))).bind fun bt310 => ((union_Union.f (([l0, l0] : List (List (S38))))).bind fun bt317 => ((union_Union.f (([[], l0, []] : List (List (S38))))).bind fun bt324 => ((union_Union.f ([] : List (List (S38)))).bind fun bt328 => ((bindlelaw19_answers.f).bind fun t332 => (if t332 = true then ((bindleref08_SameTree.f kj3 t282 t296).bind fun t333 => (if t333 = true then ((bindleref08_SameTree.f kj3 t282 bt310.1).bind fun t334 => (if t334 = true then ((bindleref08_SameTree.f kj3 bt317.1 l0).bind fun t335 => (if t335 = true then (if bt324.2 = 0 then ((bindleref08_SameTree.f kj3 bt324.1 l0).bind fun t336 => (if t336 = true then (if bt328.2 = 0 then (some ((bt328.1.length : Int) == 0)) else (some false)) else (some false))) else (some false)) else (some false))) else (some false))) else (some false))) else (some false)))))))) = some r := by first | (rw [hy300]; with_reducible exact H) | (have H2_ := (Option.bind_some _ _).symm.trans H; rw [hy300]; with_reducible exact H2_) | (have H2_ := (Option.bind_some _ _).symm.trans H; with_reducible exact H2_) | with_reducible exact H | (rw [hy300]; exact H) | exact H
   have Ny300 := A0_ hy300
   clear hy300
   replace H := Option.bind_eq_some_iff.mp H
   obtain ⟨⟨t303, t306⟩, A360, H⟩ := H
   replace H : ((union_Union.f (([l0, t303] : List (List (S38))))).bind fun bt310 => ((union_Union.f (([l0, l0] : List (List (S38))))).bind fun bt317 => ((union_Union.f (([[], l0, []] : List (List (S38))))).bind fun bt324 => ((union_Union.f ([] : List (List (S38)))).bind fun bt328 => ((bindlelaw19_answers.f).bind fun t332 => (if t332 = true then ((bindleref08_SameTree.f kj3 t282 t296).bind fun t333 => (if t333 = true then ((bindleref08_SameTree.f kj3 t282 bt310.1).bind fun t334 => (if t334 = true then ((bindleref08_SameTree.f kj3 bt317.1 l0).bind fun t335 => (if t335 = true then (if bt324.2 = 0 then ((bindleref08_SameTree.f kj3 bt324.1 l0).bind fun t336 => (if t336 = true then (if bt328.2 = 0 then (some ((bt328.1.length : Int) == 0)) else (some false)) else (some false))) else (some false)) else (some false))) else (some false))) else (some false))) else (some false))))))) = some r := H
   have A36 := A0_ A360
   clear A360
   obtain ⟨y307, hy307⟩ : ∃ y_ : List (List (S38)), y_ = (([l0, t303] : List (List (S38)))) := ⟨_, rfl⟩
   replace H : ((union_Union.f y307).bind fun bt310 => ((union_Union.f (([l0, l0] : List (List (S38))))).bind fun bt317 => ((union_Union.f (([[], l0, []] : List (List (S38))))).bind fun bt324 => ((union_Union.f ([] : List (List (S38)))).bind fun bt328 => ((bindlelaw19_answers.f).bind fun t332 => (if t332 = true then ((bindleref08_SameTree.f kj3 t282 t296).bind fun t333 => (if t333 = true then ((bindleref08_SameTree.f kj3 t282 bt310.1).bind fun t334 => (if t334 = true then ((bindleref08_SameTree.f kj3 bt317.1 l0).bind fun t335 => (if t335 = true then (if bt324.2 = 0 then ((bindleref08_SameTree.f kj3 bt324.1 l0).bind fun t336 => (if t336 = true then (if bt328.2 = 0 then (some ((bt328.1.length : Int) == 0)) else (some false)) else (some false))) else (some false)) else (some false))) else (some false))) else (some false))) else (some false))))))) = some r := by first | (rw [hy307]; with_reducible exact H) | (have H2_ := (Option.bind_some _ _).symm.trans H; rw [hy307]; with_reducible exact H2_) | (have H2_ := (Option.bind_some _ _).symm.trans H; with_reducible exact H2_) | with_reducible exact H | (rw [hy307]; exact H) | exact H
   have Ny307 := A0_ hy307
   clear hy307
   replace H := Option.bind_eq_some_iff.mp H
   obtain ⟨⟨t310, t313⟩, A370, H⟩ := H
   replace H : ((union_Union.f (([l0, l0] : List (List (S38))))).bind fun bt317 => ((union_Union.f (([[], l0, []] : List (List (S38))))).bind fun bt324 => ((union_Union.f ([] : List (List (S38)))).bind fun bt328 => ((bindlelaw19_answers.f).bind fun t332 => (if t332 = true then ((bindleref08_SameTree.f kj3 t282 t296).bind fun t333 => (if t333 = true then ((bindleref08_SameTree.f kj3 t282 t310).bind fun t334 => (if t334 = true then ((bindleref08_SameTree.f kj3 bt317.1 l0).bind fun t335 => (if t335 = true then (if bt324.2 = 0 then ((bindleref08_SameTree.f kj3 bt324.1 l0).bind fun t336 => (if t336 = true then (if bt328.2 = 0 then (some ((bt328.1.length : Int) == 0)) else (some false)) else (some false))) else (some false)) else (some false))) else (some false))) else (some false))) else (some false)))))) = some r := H
   have A37 := A0_ A370
   clear A370
   obtain ⟨y314, hy314⟩ : ∃ y_ : List (List (S38)), y_ = (([l0, l0] : List (List (S38)))) := ⟨_, rfl⟩
   replace H : ((union_Union.f y314).bind fun bt317 => ((union_Union.f (([[], l0, []] : List (List (S38))))).bind fun bt324 => ((union_Union.f ([] : List (List (S38)))).bind fun bt328 => ((bindlelaw19_answers.f).bind fun t332 => (if t332 = true then ((bindleref08_SameTree.f kj3 t282 t296).bind fun t333 => (if t333 = true then ((bindleref08_SameTree.f kj3 t282 t310).bind fun t334 => (if t334 = true then ((bindleref08_SameTree.f kj3 bt317.1 l0).bind fun t335 => (if t335 = true then (if bt324.2 = 0 then ((bindleref08_SameTree.f kj3 bt324.1 l0).bind fun t336 => (if t336 = true then (if bt328.2 = 0 then (some ((bt328.1.length : Int) == 0)) else (some false)) else (some false))) else (some false)) else (some false))) else (some false))) else (some false))) else (some false)))))) = some r := by first | (rw [hy314]; with_reducible exact H) | (have H2_ := (Option.bind_some _ _).symm.trans H; rw [hy314]; with_reducible exact H2_) | (have H2_ := (Option.bind_some _ _).symm.trans H; with_reducible exact H2_) | with_reducible exact H | (rw [hy314]; exact H) | exact H
   have Ny314 := A0_ hy314
   clear hy314
   replace H := Option.bind_eq_some_iff.mp H
   obtain ⟨⟨t317, t320⟩, A380, H⟩ := H
   replace H : ((union_Union.f (([[], l0, []] : List (List (S38))))).bind fun bt324 => ((union_Union.f ([] : List (List (S38)))).bind fun bt328 => ((bindlelaw19_answers.f).bind fun t332 => (if t332 = true then ((bindleref08_SameTree.f kj3 t282 t296).bind fun t333 => (if t333 = true then ((bindleref08_SameTree.f kj3 t282 t310).bind fun t334 => (if t334 = true then ((bindleref08_SameTree.f kj3 t317 l0).bind fun t335 => (if t335 = true then (if bt324.2 = 0 then ((bindleref08_SameTree.f kj3 bt324.1 l0).bind fun t336 => (if t336 = true then (if bt328.2 = 0 then (some ((bt328.1.length : Int) == 0)) else (some false)) else (some false))) else (some false)) else (some false))) else (some false))) else (some false))) else (some false))))) = some r := H
   have A38 := A0_ A380
   clear A380
   obtain ⟨y321, hy321⟩ : ∃ y_ : List (List (S38)), y_ = (([[], l0, []] : List (List (S38)))) := ⟨_, rfl⟩
   replace H : ((union_Union.f y321).bind fun bt324 => ((union_Union.f ([] : List (List (S38)))).bind fun bt328 => ((bindlelaw19_answers.f).bind fun t332 => (if t332 = true then ((bindleref08_SameTree.f kj3 t282 t296).bind fun t333 => (if t333 = true then ((bindleref08_SameTree.f kj3 t282 t310).bind fun t334 => (if t334 = true then ((bindleref08_SameTree.f kj3 t317 l0).bind fun t335 => (if t335 = true then (if bt324.2 = 0 then ((bindleref08_SameTree.f kj3 bt324.1 l0).bind fun t336 => (if t336 = true then (if bt328.2 = 0 then (some ((bt328.1.length : Int) == 0)) else (some false)) else (some false))) else (some false)) else (some false))) else (some false))) else (some false))) else (some false))))) = some r := by first | (rw [hy321]; with_reducible exact H) | (have H2_ := (Option.bind_some _ _).symm.trans H; rw [hy321]; with_reducible exact H2_) | (have H2_ := (Option.bind_some _ _).symm.trans H; with_reducible exact H2_) | with_reducible exact H | (rw [hy321]; exact H) | exact H
   have Ny321 := A0_ hy321
   clear hy321
   replace H := Option.bind_eq_some_iff.mp H
   obtain ⟨⟨t324, t327⟩, A390, H⟩ := H
   replace H : ((union_Union.f ([] : List (List (S38)))).bind fun bt328 => ((bindlelaw19_answers.f).bind fun t332 => (if t332 = true then ((bindleref08_SameTree.f kj3 t282 t296).bind fun t333 => (if t333 = true then ((bindleref08_SameTree.f kj3 t282 t310).bind fun t334 => (if t334 = true then ((bindleref08_SameTree.f kj3 t317 l0).bind fun t335 => (if t335 = true then (if t327 = 0 then ((bindleref08_SameTree.f kj3 t324 l0).bind fun t336 => (if t336 = true then (if bt328.2 = 0 then (some ((bt328.1.length : Int) == 0)) else (some false)) else (some false))) else (some false)) else (some false))) else (some false))) else (some false))) else (some false)))) = some r := H
   have A39 := A0_ A390
   clear A390
   replace H := Option.bind_eq_some_iff.mp H
   obtain ⟨⟨t328, t331⟩, A400, H⟩ := H
   replace H : ((bindlelaw19_answers.f).bind fun t332 => (if t332 = true then ((bindleref08_SameTree.f kj3 t282 t296).bind fun t333 => (if t333 = true then ((bindleref08_SameTree.f kj3 t282 t310).bind fun t334 => (if t334 = true then ((bindleref08_SameTree.f kj3 t317 l0).bind fun t335 => (if t335 = true then (if t327 = 0 then ((bindleref08_SameTree.f kj3 t324 l0).bind fun t336 => (if t336 = true then (if t331 = 0 then (some ((t328.length : Int) == 0)) else (some false)) else (some false))) else (some false)) else (some false))) else (some false))) else (some false))) else (some false))) = some r := H
   have A40 := A0_ A400
   clear A400
   replace H := Option.bind_eq_some_iff.mp H
   obtain ⟨t332, A410, H⟩ := H
   replace H : (if t332 = true then ((bindleref08_SameTree.f kj3 t282 t296).bind fun t333 => (if t333 = true then ((bindleref08_SameTree.f kj3 t282 t310).bind fun t334 => (if t334 = true then ((bindleref08_SameTree.f kj3 t317 l0).bind fun t335 => (if t335 = true then (if t327 = 0 then ((bindleref08_SameTree.f kj3 t324 l0).bind fun t336 => (if t336 = true then (if t331 = 0 then (some ((t328.length : Int) == 0)) else (some false)) else (some false))) else (some false)) else (some false))) else (some false))) else (some false))) else (some false)) = some r := H
   have A41 := A0_ A410
   clear A410
   by_cases c42 : t332 = true
   rotate_left
   ·replace c42 := Bool.eq_false_iff.mpr c42
    subst c42
    have H1 : (some false) = some r := by rw [if_neg (show ¬ (false = true) by decide)] at H; exact H
    clear H
    have H := H1
    clear H1
    exact absurd ((Option.some.inj H).trans hTRUE_.out) (by decide)
   subst c42
   have H1 : ((bindleref08_SameTree.f kj3 t282 t296).bind fun t333 => (if t333 = true then ((bindleref08_SameTree.f kj3 t282 t310).bind fun t334 => (if t334 = true then ((bindleref08_SameTree.f kj3 t317 l0).bind fun t335 => (if t335 = true then (if t327 = 0 then ((bindleref08_SameTree.f kj3 t324 l0).bind fun t336 => (if t336 = true then (if t331 = 0 then (some ((t328.length : Int) == 0)) else (some false)) else (some false))) else (some false)) else (some false))) else (some false))) else (some false))) = some r := by rw [if_pos rfl] at H; exact H
   clear H
   have H := H1
   clear H1
   replace H := Option.bind_eq_some_iff.mp H
   obtain ⟨t333, A430, H⟩ := H
   replace H : (if t333 = true then ((bindleref08_SameTree.f kj3 t282 t310).bind fun t334 => (if t334 = true then ((bindleref08_SameTree.f kj3 t317 l0).bind fun t335 => (if t335 = true then (if t327 = 0 then ((bindleref08_SameTree.f kj3 t324 l0).bind fun t336 => (if t336 = true then (if t331 = 0 then (some ((t328.length : Int) == 0)) else (some false)) else (some false))) else (some false)) else (some false))) else (some false))) else (some false)) = some r := H
   have A43 := A0_ A430
   clear A430
   by_cases c44 : t333 = true
   rotate_left
   ·replace c44 := Bool.eq_false_iff.mpr c44
    subst c44
    have H1 : (some false) = some r := by rw [if_neg (show ¬ (false = true) by decide)] at H; exact H
    clear H
    have H := H1
    clear H1
    exact absurd ((Option.some.inj H).trans hTRUE_.out) (by decide)
   subst c44
   have H1 : ((bindleref08_SameTree.f kj3 t282 t310).bind fun t334 => (if t334 = true then ((bindleref08_SameTree.f kj3 t317 l0).bind fun t335 => (if t335 = true then (if t327 = 0 then ((bindleref08_SameTree.f kj3 t324 l0).bind fun t336 => (if t336 = true then (if t331 = 0 then (some ((t328.length : Int) == 0)) else (some false)) else (some false))) else (some false)) else (some false))) else (some false))) = some r := by rw [if_pos rfl] at H; exact H
   clear H
   have H := H1
   clear H1
   replace H := Option.bind_eq_some_iff.mp H
   obtain ⟨t334, A450, H⟩ := H
   replace H : (if t334 = true then ((bindleref08_SameTree.f kj3 t317 l0).bind fun t335 => (if t335 = true then (if t327 = 0 then ((bindleref08_SameTree.f kj3 t324 l0).bind fun t336 => (if t336 = true then (if t331 = 0 then (some ((t328.length : Int) == 0)) else (some false)) else (some false))) else (some false)) else (some false))) else (some false)) = some r := H
   have A45 := A0_ A450
   clear A450
   by_cases c46 : t334 = true
   rotate_left
   ·replace c46 := Bool.eq_false_iff.mpr c46
    subst c46
    have H1 : (some false) = some r := by rw [if_neg (show ¬ (false = true) by decide)] at H; exact H
    clear H
    have H := H1
    clear H1
    exact absurd ((Option.some.inj H).trans hTRUE_.out) (by decide)
   subst c46
   have H1 : ((bindleref08_SameTree.f kj3 t317 l0).bind fun t335 => (if t335 = true then (if t327 = 0 then ((bindleref08_SameTree.f kj3 t324 l0).bind fun t336 => (if t336 = true then (if t331 = 0 then (some ((t328.length : Int) == 0)) else (some false)) else (some false))) else (some false)) else (some false))) = some r := by rw [if_pos rfl] at H; exact H
   clear H
   have H := H1
   clear H1
   replace H := Option.bind_eq_some_iff.mp H
   obtain ⟨t335, A470, H⟩ := H
   replace H : (if t335 = true then (if t327 = 0 then ((bindleref08_SameTree.f kj3 t324 l0).bind fun t336 => (if t336 = true then (if t331 = 0 then (some ((t328.length : Int) == 0)) else (some false)) else (some false))) else (some false)) else (some false)) = some r := H
   have A47 := A0_ A470
   clear A470
   by_cases c48 : t335 = true
   rotate_left
   ·replace c48 := Bool.eq_false_iff.mpr c48
    subst c48
    have H1 : (some false) = some r := by rw [if_neg (show ¬ (false = true) by decide)] at H; exact H
    clear H
    have H := H1
    clear H1
    exact absurd ((Option.some.inj H).trans hTRUE_.out) (by decide)
   subst c48
   have H1 : (if t327 = 0 then ((bindleref08_SameTree.f kj3 t324 l0).bind fun t336 => (if t336 = true then (if t331 = 0 then (some ((t328.length : Int) == 0)) else (some false)) else (some false))) else (some false)) = some r := by rw [if_pos rfl] at H; exact H
   clear H
   have H := H1
   clear H1
   by_cases c49 : t327 = 0
   rotate_left
   ·rw [if_neg c49] at H
    have c49b0 : (t327 == 0) = false := beq_eq_false_iff_ne.mpr c49
    have c49b1 : (t327 != 0) = true := bne_iff_ne.mpr c49
    exact absurd ((Option.some.inj H).trans hTRUE_.out) (by decide)
   rw [if_pos c49] at H
   have c49b0 : (t327 == 0) = true := beq_iff_eq.mpr c49
   have c49b1 : (t327 != 0) = false := bne_eq_false_iff_eq.mpr c49
   clear c49
   replace H := Option.bind_eq_some_iff.mp H
   obtain ⟨t336, A500, H⟩ := H
   replace H : (if t336 = true then (if t331 = 0 then (some ((t328.length : Int) == 0)) else (some false)) else (some false)) = some r := H
   have A50 := A0_ A500
   clear A500
   by_cases c51 : t336 = true
   rotate_left
   ·replace c51 := Bool.eq_false_iff.mpr c51
    subst c51
    have H1 : (some false) = some r := by rw [if_neg (show ¬ (false = true) by decide)] at H; exact H
    clear H
    have H := H1
    clear H1
    exact absurd ((Option.some.inj H).trans hTRUE_.out) (by decide)
   subst c51
   have H1 : (if t331 = 0 then (some ((t328.length : Int) == 0)) else (some false)) = some r := by rw [if_pos rfl] at H; exact H
   clear H
   have H := H1
   clear H1
   by_cases c52 : t331 = 0
   ·rw [if_pos c52] at H
    have c52b0 : (t331 == 0) = true := beq_iff_eq.mpr c52
    have c52b1 : (t331 != 0) = false := bne_eq_false_iff_eq.mpr c52
    clear c52
    obtain rfl := Option.some.inj H
    go_wp2_with (first | ((with_reducible refine gate_dst (N := 45) rfl ?_); (try (refine gate_guard (by rfl) ?_; dsimp only)); refine Kd.N_lit (Kd.slice 38 k38) _ 31 ?hg (N' := 45) ?hd (xs := ([l0, l1, l2] : List (List (S38)))) (inner := [.slice A0 l0.length c0, .slice A1 l1.length c1, .slice A2 l2.length c2]) (ok := (fun k_ => ((P0_ k_ ∨ P1_ k_ ∨ P2_ k_) ∨ w.heap.size ≤ k_))) (okp := (fun k_ => ((P0_ k_ ∨ P1_ k_ ∨ P2_ k_) ∨ w.heap.size ≤ k_))) ?hr ?hp (fun _ hk => hk) ((show ∀ k_, wc.heap.size ≤ k_ → (fun k_ => ((P0_ k_ ∨ P1_ k_ ∨ P2_ k_) ∨ w.heap.size ≤ k_)) k_ from fun k_ hk => (.inr (Nat.le_trans (below_size (wb_ HB.out)) hk))) _ (Nat.le_refl _)) (Below.refl _ _) (Nat.le_refl _) (by simp) ?_; (case hd => rfl); (case hg => rfl); (case hr => first | (go_simp; done) | (go_simp; rfl)); (case hp => exact (Reps.one (show Kd.FK (Kd.slice 38 k38) _ _ l0 [.slice A0 l0.length c0] from (Kd.FK_slice_mk (Kd.V_reads' (Kd.V_mono (ok' := (fun k_ => ((P0_ k_ ∨ P1_ k_ ∨ P2_ k_) ∨ w.heap.size ≤ k_))) (HO_0.out) (fun k_ hk => hk))).2.1 (Kd.V_F (Kd.V_mono (ok' := (fun k_ => ((P0_ k_ ∨ P1_ k_ ∨ P2_ k_) ∨ w.heap.size ≤ k_))) (HO_0.out) (fun k_ hk => hk))))) (Reps.one (show Kd.FK (Kd.slice 38 k38) _ _ l1 [.slice A1 l1.length c1] from (Kd.FK_slice_mk (Kd.V_reads' (Kd.V_mono (ok' := (fun k_ => ((P0_ k_ ∨ P1_ k_ ∨ P2_ k_) ∨ w.heap.size ≤ k_))) (HO_1.out) (fun k_ hk => hk))).2.1 (Kd.V_F (Kd.V_mono (ok' := (fun k_ => ((P0_ k_ ∨ P1_ k_ ∨ P2_ k_) ∨ w.heap.size ≤ k_))) (HO_1.out) (fun k_ hk => hk))))) (Reps.one (show Kd.FK (Kd.slice 38 k38) _ _ l2 [.slice A2 l2.length c2] from (Kd.FK_slice_mk (Kd.V_reads' (Kd.V_mono (ok' := (fun k_ => ((P0_ k_ ∨ P1_ k_ ∨ P2_ k_) ∨ w.heap.size ≤ k_))) (HO_2.out) (fun k_ hk => hk))).2.1 (Kd.V_F (Kd.V_mono (ok' := (fun k_ => ((P0_ k_ ∨ P1_ k_ ∨ P2_ k_) ∨ w.heap.size ≤ k_))) (HO_2.out) (fun k_ hk => hk))))) (Reps.none _ _))))); intro v280 w53 ho54 hb hg_ hnew_; clear hg_ hnew_; (first | rw [← Ny279.out] at ho54 | (simp only [Int.reduceToNat] at ho54; rw [← Ny279.out] at ho54)); have n0_ := A0_ (Kd.V_elder' (wV_ HO_0.out) (Kd.N_base ho54) hb); have n1_ := A0_ (Kd.V_elder' (wV_ HO_1.out) (Kd.N_base ho54) hb); have n2_ := A0_ (Kd.V_elder' (wV_ HO_2.out) (Kd.N_base ho54) hb); have n3_ := A0_ (Kd.N_lower ho54 (below_size (wb_ HB.out))); have n4_ := A0_ (below_step (wb_ HB.out) hb); clear HO_0; clear HO_1; clear HO_2; clear HB; have HO_0 := n0_; have HO_1 := n1_; have HO_2 := n2_; have HO281 := n3_; have HB := n4_; clear n0_ n1_ n2_ n3_ n4_; clear hb ho54; obtain ⟨Ao55, co55, eo55⟩ := Kd.N_slice HO281.out; subst eo55) | ((with_reducible refine gate_callee (f := 23) rfl ?_); refine goesL_ (some 46) rfl rfl Tryd.func23 (by kernel_rfl) rfl #[.slice Ao55 y279.length co55] rfl wm_ ?_; (with_reducible refine (union_Union.calls _ _ y279 t282 t285 _ ?side1 ?side2 ?side3 A33.out).mono ?_); (case side1 => exact A0_ (Tabs.below hT.out (wb_ HB.out))); (case side2 => exact wc_ (Kd.N_reads' HO281.out).2.2); (case side3 => exact (Kd.N_reads' HO281.out).2.1); rintro e w56 ⟨v283, rfl, ho0, hb⟩; refine ⟨_, rfl, ?_⟩; have n0_ := A0_ (Vb_ (wV_ HO_0.out) hb); have n1_ := A0_ (Vb_ (wV_ HO_1.out) hb); have n2_ := A0_ (Vb_ (wV_ HO_2.out) hb); have n3_ := A0_ (Kd.N_below (wN_ HO281.out) hb); have n4_ := A0_ (Kd.V_lower (Kd.V_mono (ok' := fun k_ => ((P0_ k_ ∨ P1_ k_ ∨ P2_ k_) ∨ w.heap.size ≤ k_) ∧ some k_ ≠ (.slice Ao55 y279.length co55 : Value).ownBlock) ho0 (fun k_ hk_ => ⟨(.inr (Nat.le_trans (below_size (wb_ HB.out)) hk_)), (Kd.fresh' (Kd.N_lt (wN_ HO281.out)) k_ hk_)⟩)) (below_size (wb_ HB.out))); have n5_ := A0_ (below_step (wb_ HB.out) hb); clear HO_0; clear HO_1; clear HO_2; clear HO281; clear HB; have HO_0 := n0_; have HO_1 := n1_; have HO_2 := n2_; have HO281 := n3_; have HO284 := n4_; have HB := n5_; clear n0_ n1_ n2_ n3_ n4_ n5_; (try clear hb); (try clear hb2); (try clear hk); (try clear hi); (try clear ho0)) | ((with_reducible refine gate_dst (N := 52) rfl ?_); (try (refine gate_guard (by rfl) ?_; dsimp only)); refine Kd.N_lit (Kd.slice 38 k38) _ 31 ?hg (N' := 52) ?hd (xs := ([l0, l1] : List (List (S38)))) (inner := [.slice A0 l0.length c0, .slice A1 l1.length c1]) (ok := (fun k_ => ((P0_ k_ ∨ P1_ k_ ∨ P2_ k_) ∨ w.heap.size ≤ k_) ∧ some k_ ≠ (.slice Ao55 y279.length co55 : Value).ownBlock)) (okp := (fun k_ => ((P0_ k_ ∨ P1_ k_ ∨ P2_ k_) ∨ w.heap.size ≤ k_) ∧ some k_ ≠ (.slice Ao55 y279.length co55 : Value).ownBlock)) ?hr ?hp (fun _ hk => hk) ((show ∀ k_, w56.heap.size ≤ k_ → (fun k_ => ((P0_ k_ ∨ P1_ k_ ∨ P2_ k_) ∨ w.heap.size ≤ k_) ∧ some k_ ≠ (.slice Ao55 y279.length co55 : Value).ownBlock) k_ from fun k_ hk => ⟨(.inr (Nat.le_trans (below_size (wb_ HB.out)) hk)), Kd.fresh' (Kd.N_lt (wN_ HO281.out)) k_ hk⟩) _ (Nat.le_refl _)) (Below.refl _ _) (Nat.le_refl _) (by simp) ?_; (case hd => rfl); (case hg => rfl); (case hr => first | (go_simp; done) | (go_simp; rfl)); (case hp => exact (Reps.one (show Kd.FK (Kd.slice 38 k38) _ _ l0 [.slice A0 l0.length c0] from (Kd.FK_slice_mk (Kd.V_reads' (Kd.V_mono (ok' := (fun k_ => ((P0_ k_ ∨ P1_ k_ ∨ P2_ k_) ∨ w.heap.size ≤ k_) ∧ some k_ ≠ (.slice Ao55 y279.length co55 : Value).ownBlock)) (HO_0.out) (fun k_ hk => ⟨hk.1, hk.2⟩))).2.1 (Kd.V_F (Kd.V_mono (ok' := (fun k_ => ((P0_ k_ ∨ P1_ k_ ∨ P2_ k_) ∨ w.heap.size ≤ k_) ∧ some k_ ≠ (.slice Ao55 y279.length co55 : Value).ownBlock)) (HO_0.out) (fun k_ hk => ⟨hk.1, hk.2⟩))))) (Reps.one (show Kd.FK (Kd.slice 38 k38) _ _ l1 [.slice A1 l1.length c1] from (Kd.FK_slice_mk (Kd.V_reads' (Kd.V_mono (ok' := (fun k_ => ((P0_ k_ ∨ P1_ k_ ∨ P2_ k_) ∨ w.heap.size ≤ k_) ∧ some k_ ≠ (.slice Ao55 y279.length co55 : Value).ownBlock)) (HO_1.out) (fun k_ hk => ⟨hk.1, hk.2⟩))).2.1 (Kd.V_F (Kd.V_mono (ok' := (fun k_ => ((P0_ k_ ∨ P1_ k_ ∨ P2_ k_) ∨ w.heap.size ≤ k_) ∧ some k_ ≠ (.slice Ao55 y279.length co55 : Value).ownBlock)) (HO_1.out) (fun k_ hk => ⟨hk.1, hk.2⟩))))) (Reps.none _ _)))); intro v287 w57 ho58 hb hg_ hnew_; clear hg_ hnew_; (first | rw [← Ny286.out] at ho58 | (simp only [Int.reduceToNat] at ho58; rw [← Ny286.out] at ho58)); have n0_ := A0_ (Kd.V_elder' (wV_ HO_0.out) (Kd.N_base ho58) hb); have n1_ := A0_ (Kd.V_elder' (wV_ HO_1.out) (Kd.N_base ho58) hb); have n2_ := A0_ (Kd.V_elder' (wV_ HO_2.out) (Kd.N_base ho58) hb); have n3_ := A0_ (Kd.N_elder' (wN_ HO281.out) (Kd.N_base ho58) hb); have n4_ := A0_ (Kd.V_elder' (wV_ HO284.out) (Kd.N_base ho58) hb); have n5_ := A0_ (Kd.N_lower ho58 (below_size (wb_ HB.out))); have n6_ := A0_ (below_step (wb_ HB.out) hb); clear HO_0; clear HO_1; clear HO_2; clear HO281; clear HO284; clear HB; have HO_0 := n0_; have HO_1 := n1_; have HO_2 := n2_; have HO281 := n3_; have HO284 := n4_; have HO288 := n5_; have HB := n6_; clear n0_ n1_ n2_ n3_ n4_ n5_ n6_; clear hb ho58; obtain ⟨Ao59, co59, eo59⟩ := Kd.N_slice HO288.out; subst eo59) | ((with_reducible refine gate_callee (f := 23) rfl ?_); refine goesL_ (some 53) rfl rfl Tryd.func23 (by kernel_rfl) rfl #[.slice Ao59 y286.length co59] rfl wm_ ?_; (with_reducible refine (union_Union.calls _ _ y286 t289 t292 _ ?side1 ?side2 ?side3 A34.out).mono ?_); (case side1 => exact A0_ (Tabs.below hT.out (wb_ HB.out))); (case side2 => exact wc_ (Kd.N_reads' HO288.out).2.2); (case side3 => exact (Kd.N_reads' HO288.out).2.1); rintro e w60 ⟨v290, rfl, ho0, hb⟩; refine ⟨_, rfl, ?_⟩; have n0_ := A0_ (Vb_ (wV_ HO_0.out) hb); have n1_ := A0_ (Vb_ (wV_ HO_1.out) hb); have n2_ := A0_ (Vb_ (wV_ HO_2.out) hb); have n3_ := A0_ (Kd.N_below (wN_ HO281.out) hb); have n4_ := A0_ (Vb_ (wV_ HO284.out) hb); have n5_ := A0_ (Kd.N_below (wN_ HO288.out) hb); have n6_ := A0_ (Kd.V_lower (Kd.V_mono (ok' := fun k_ => ((P0_ k_ ∨ P1_ k_ ∨ P2_ k_) ∨ w.heap.size ≤ k_) ∧ some k_ ≠ (.slice Ao55 y279.length co55 : Value).ownBlock ∧ some k_ ≠ (.slice Ao59 y286.length co59 : Value).ownBlock) ho0 (fun k_ hk_ => ⟨(.inr (Nat.le_trans (below_size (wb_ HB.out)) hk_)), (Kd.fresh' (Kd.N_lt (wN_ HO281.out)) k_ hk_), (Kd.fresh' (Kd.N_lt (wN_ HO288.out)) k_ hk_)⟩)) (below_size (wb_ HB.out))); have n7_ := A0_ (below_step (wb_ HB.out) hb); clear HO_0; clear HO_1; clear HO_2; clear HO281; clear HO284; clear HO288; clear HB; have HO_0 := n0_; have HO_1 := n1_; have HO_2 := n2_; have HO281 := n3_; have HO284 := n4_; have HO288 := n5_; have HO291 := n6_; have HB := n7_; clear n0_ n1_ n2_ n3_ n4_ n5_ n6_ n7_; (try clear hb); (try clear hb2); (try clear hk); (try clear hi); (try clear ho0); obtain ⟨Ao61, co61, eo61⟩ := Kd.V_slice HO291.out; subst eo61) | ((with_reducible refine gate_dst (N := 59) rfl ?_); (try (refine gate_guard (by rfl) ?_; dsimp only)); refine Kd.N_lit (Kd.slice 38 k38) _ 31 ?hg (N' := 59) ?hd (xs := ([t289, l2] : List (List (S38)))) (inner := [.slice Ao61 t289.length co61, .slice A2 l2.length c2]) (ok := (fun k_ => ((P0_ k_ ∨ P1_ k_ ∨ P2_ k_) ∨ w.heap.size ≤ k_) ∧ some k_ ≠ (.slice Ao55 y279.length co55 : Value).ownBlock ∧ some k_ ≠ (.slice Ao59 y286.length co59 : Value).ownBlock)) (okp := (fun k_ => ((P0_ k_ ∨ P1_ k_ ∨ P2_ k_) ∨ w.heap.size ≤ k_) ∧ some k_ ≠ (.slice Ao55 y279.length co55 : Value).ownBlock ∧ some k_ ≠ (.slice Ao59 y286.length co59 : Value).ownBlock)) ?hr ?hp (fun _ hk => hk) ((show ∀ k_, w60.heap.size ≤ k_ → (fun k_ => ((P0_ k_ ∨ P1_ k_ ∨ P2_ k_) ∨ w.heap.size ≤ k_) ∧ some k_ ≠ (.slice Ao55 y279.length co55 : Value).ownBlock ∧ some k_ ≠ (.slice Ao59 y286.length co59 : Value).ownBlock) k_ from fun k_ hk => ⟨(.inr (Nat.le_trans (below_size (wb_ HB.out)) hk)), Kd.fresh' (Kd.N_lt (wN_ HO281.out)) k_ hk, Kd.fresh' (Kd.N_lt (wN_ HO288.out)) k_ hk⟩) _ (Nat.le_refl _)) (Below.refl _ _) (Nat.le_refl _) (by simp) ?_; (case hd => rfl); (case hg => rfl); (case hr => first | (go_simp; done) | (go_simp; rfl)); (case hp => exact (Reps.one (show Kd.FK (Kd.slice 38 k38) _ _ t289 [.slice Ao61 t289.length co61] from (Kd.FK_slice_mk (Kd.V_reads' (Kd.V_mono (ok' := (fun k_ => ((P0_ k_ ∨ P1_ k_ ∨ P2_ k_) ∨ w.heap.size ≤ k_) ∧ some k_ ≠ (.slice Ao55 y279.length co55 : Value).ownBlock ∧ some k_ ≠ (.slice Ao59 y286.length co59 : Value).ownBlock)) (HO291.out) (fun k_ hk => ⟨hk.1, ⟨hk.2.1, hk.2.2⟩⟩))).2.1 (Kd.V_F (Kd.V_mono (ok' := (fun k_ => ((P0_ k_ ∨ P1_ k_ ∨ P2_ k_) ∨ w.heap.size ≤ k_) ∧ some k_ ≠ (.slice Ao55 y279.length co55 : Value).ownBlock ∧ some k_ ≠ (.slice Ao59 y286.length co59 : Value).ownBlock)) (HO291.out) (fun k_ hk => ⟨hk.1, ⟨hk.2.1, hk.2.2⟩⟩))))) (Reps.one (show Kd.FK (Kd.slice 38 k38) _ _ l2 [.slice A2 l2.length c2] from (Kd.FK_slice_mk (Kd.V_reads' (Kd.V_mono (ok' := (fun k_ => ((P0_ k_ ∨ P1_ k_ ∨ P2_ k_) ∨ w.heap.size ≤ k_) ∧ some k_ ≠ (.slice Ao55 y279.length co55 : Value).ownBlock ∧ some k_ ≠ (.slice Ao59 y286.length co59 : Value).ownBlock)) (HO_2.out) (fun k_ hk => ⟨hk.1.1, ⟨hk.1.2, hk.2⟩⟩))).2.1 (Kd.V_F (Kd.V_mono (ok' := (fun k_ => ((P0_ k_ ∨ P1_ k_ ∨ P2_ k_) ∨ w.heap.size ≤ k_) ∧ some k_ ≠ (.slice Ao55 y279.length co55 : Value).ownBlock ∧ some k_ ≠ (.slice Ao59 y286.length co59 : Value).ownBlock)) (HO_2.out) (fun k_ hk => ⟨hk.1.1, ⟨hk.1.2, hk.2⟩⟩))))) (Reps.none _ _)))); intro v294 w62 ho63 hb hg_ hnew_; clear hg_ hnew_; (first | rw [← Ny293.out] at ho63 | (simp only [Int.reduceToNat] at ho63; rw [← Ny293.out] at ho63)); have n0_ := A0_ (Kd.V_elder' (wV_ HO_0.out) (Kd.N_base ho63) hb); have n1_ := A0_ (Kd.V_elder' (wV_ HO_1.out) (Kd.N_base ho63) hb); have n2_ := A0_ (Kd.V_elder' (wV_ HO_2.out) (Kd.N_base ho63) hb); have n3_ := A0_ (Kd.N_elder' (wN_ HO281.out) (Kd.N_base ho63) hb); have n4_ := A0_ (Kd.V_elder' (wV_ HO284.out) (Kd.N_base ho63) hb); have n5_ := A0_ (Kd.N_elder' (wN_ HO288.out) (Kd.N_base ho63) hb); have n6_ := A0_ (Kd.V_elder' (wV_ HO291.out) (Kd.N_base ho63) hb); have n7_ := A0_ (Kd.N_lower ho63 (below_size (wb_ HB.out))); have n8_ := A0_ (below_step (wb_ HB.out) hb); clear HO_0; clear HO_1; clear HO_2; clear HO281; clear HO284; clear HO288; clear HO291; clear HB; have HO_0 := n0_; have HO_1 := n1_; have HO_2 := n2_; have HO281 := n3_; have HO284 := n4_; have HO288 := n5_; have HO291 := n6_; have HO295 := n7_; have HB := n8_; clear n0_ n1_ n2_ n3_ n4_ n5_ n6_ n7_ n8_; clear hb ho63; obtain ⟨Ao64, co64, eo64⟩ := Kd.N_slice HO295.out; subst eo64) | ((with_reducible refine gate_callee (f := 23) rfl ?_); refine goesL_ (some 60) rfl rfl Tryd.func23 (by kernel_rfl) rfl #[.slice Ao64 y293.length co64] rfl wm_ ?_; (with_reducible refine (union_Union.calls _ _ y293 t296 t299 _ ?side1 ?side2 ?side3 A35.out).mono ?_); (case side1 => exact A0_ (Tabs.below hT.out (wb_ HB.out))); (case side2 => exact wc_ (Kd.N_reads' HO295.out).2.2); (case side3 => exact (Kd.N_reads' HO295.out).2.1); rintro e w65 ⟨v297, rfl, ho0, hb⟩; refine ⟨_, rfl, ?_⟩; have n0_ := A0_ (Vb_ (wV_ HO_0.out) hb); have n1_ := A0_ (Vb_ (wV_ HO_1.out) hb); have n2_ := A0_ (Vb_ (wV_ HO_2.out) hb); have n3_ := A0_ (Kd.N_below (wN_ HO281.out) hb); have n4_ := A0_ (Vb_ (wV_ HO284.out) hb); have n5_ := A0_ (Kd.N_below (wN_ HO288.out) hb); have n6_ := A0_ (Vb_ (wV_ HO291.out) hb); have n7_ := A0_ (Kd.N_below (wN_ HO295.out) hb); have n8_ := A0_ (Kd.V_lower (Kd.V_mono (ok' := fun k_ => ((P0_ k_ ∨ P1_ k_ ∨ P2_ k_) ∨ w.heap.size ≤ k_) ∧ some k_ ≠ (.slice Ao55 y279.length co55 : Value).ownBlock ∧ some k_ ≠ (.slice Ao59 y286.length co59 : Value).ownBlock ∧ some k_ ≠ (.slice Ao64 y293.length co64 : Value).ownBlock) ho0 (fun k_ hk_ => ⟨(.inr (Nat.le_trans (below_size (wb_ HB.out)) hk_)), (Kd.fresh' (Kd.N_lt (wN_ HO281.out)) k_ hk_), (Kd.fresh' (Kd.N_lt (wN_ HO288.out)) k_ hk_), (Kd.fresh' (Kd.N_lt (wN_ HO295.out)) k_ hk_)⟩)) (below_size (wb_ HB.out))); have n9_ := A0_ (below_step (wb_ HB.out) hb); clear HO_0; clear HO_1; clear HO_2; clear HO281; clear HO284; clear HO288; clear HO291; clear HO295; clear HB; have HO_0 := n0_; have HO_1 := n1_; have HO_2 := n2_; have HO281 := n3_; have HO284 := n4_; have HO288 := n5_; have HO291 := n6_; have HO295 := n7_; have HO298 := n8_; have HB := n9_; clear n0_ n1_ n2_ n3_ n4_ n5_ n6_ n7_ n8_ n9_; (try clear hb); (try clear hb2); (try clear hk); (try clear hi); (try clear ho0)) | ((with_reducible refine gate_dst (N := 66) rfl ?_); (try (refine gate_guard (by rfl) ?_; dsimp only)); refine Kd.N_lit (Kd.slice 38 k38) _ 31 ?hg (N' := 66) ?hd (xs := ([l1, l2] : List (List (S38)))) (inner := [.slice A1 l1.length c1, .slice A2 l2.length c2]) (ok := (fun k_ => ((P0_ k_ ∨ P1_ k_ ∨ P2_ k_) ∨ w.heap.size ≤ k_) ∧ some k_ ≠ (.slice Ao55 y279.length co55 : Value).ownBlock ∧ some k_ ≠ (.slice Ao59 y286.length co59 : Value).ownBlock ∧ some k_ ≠ (.slice Ao64 y293.length co64 : Value).ownBlock)) (okp := (fun k_ => ((P0_ k_ ∨ P1_ k_ ∨ P2_ k_) ∨ w.heap.size ≤ k_) ∧ some k_ ≠ (.slice Ao55 y279.length co55 : Value).ownBlock ∧ some k_ ≠ (.slice Ao59 y286.length co59 : Value).ownBlock ∧ some k_ ≠ (.slice Ao64 y293.length co64 : Value).ownBlock)) ?hr ?hp (fun _ hk => hk) ((show ∀ k_, w65.heap.size ≤ k_ → (fun k_ => ((P0_ k_ ∨ P1_ k_ ∨ P2_ k_) ∨ w.heap.size ≤ k_) ∧ some k_ ≠ (.slice Ao55 y279.length co55 : Value).ownBlock ∧ some k_ ≠ (.slice Ao59 y286.length co59 : Value).ownBlock ∧ some k_ ≠ (.slice Ao64 y293.length co64 : Value).ownBlock) k_ from fun k_ hk => ⟨(.inr (Nat.le_trans (below_size (wb_ HB.out)) hk)), Kd.fresh' (Kd.N_lt (wN_ HO281.out)) k_ hk, Kd.fresh' (Kd.N_lt (wN_ HO288.out)) k_ hk, Kd.fresh' (Kd.N_lt (wN_ HO295.out)) k_ hk⟩) _ (Nat.le_refl _)) (Below.refl _ _) (Nat.le_refl _) (by simp) ?_; (case hd => rfl); (case hg => rfl); (case hr => first | (go_simp; done) | (go_simp; rfl)); (case hp => exact (Reps.one (show Kd.FK (Kd.slice 38 k38) _ _ l1 [.slice A1 l1.length c1] from (Kd.FK_slice_mk (Kd.V_reads' (Kd.V_mono (ok' := (fun k_ => ((P0_ k_ ∨ P1_ k_ ∨ P2_ k_) ∨ w.heap.size ≤ k_) ∧ some k_ ≠ (.slice Ao55 y279.length co55 : Value).ownBlock ∧ some k_ ≠ (.slice Ao59 y286.length co59 : Value).ownBlock ∧ some k_ ≠ (.slice Ao64 y293.length co64 : Value).ownBlock)) (HO_1.out) (fun k_ hk => ⟨hk.1.1.1, ⟨hk.1.1.2, ⟨hk.1.2, hk.2⟩⟩⟩))).2.1 (Kd.V_F (Kd.V_mono (ok' := (fun k_ => ((P0_ k_ ∨ P1_ k_ ∨ P2_ k_) ∨ w.heap.size ≤ k_) ∧ some k_ ≠ (.slice Ao55 y279.length co55 : Value).ownBlock ∧ some k_ ≠ (.slice Ao59 y286.length co59 : Value).ownBlock ∧ some k_ ≠ (.slice Ao64 y293.length co64 : Value).ownBlock)) (HO_1.out) (fun k_ hk => ⟨hk.1.1.1, ⟨hk.1.1.2, ⟨hk.1.2, hk.2⟩⟩⟩))))) (Reps.one (show Kd.FK (Kd.slice 38 k38) _ _ l2 [.slice A2 l2.length c2] from (Kd.FK_slice_mk (Kd.V_reads' (Kd.V_mono (ok' := (fun k_ => ((P0_ k_ ∨ P1_ k_ ∨ P2_ k_) ∨ w.heap.size ≤ k_) ∧ some k_ ≠ (.slice Ao55 y279.length co55 : Value).ownBlock ∧ some k_ ≠ (.slice Ao59 y286.length co59 : Value).ownBlock ∧ some k_ ≠ (.slice Ao64 y293.length co64 : Value).ownBlock)) (HO_2.out) (fun k_ hk => ⟨hk.1.1.1, ⟨hk.1.1.2, ⟨hk.1.2, hk.2⟩⟩⟩))).2.1 (Kd.V_F (Kd.V_mono (ok' := (fun k_ => ((P0_ k_ ∨ P1_ k_ ∨ P2_ k_) ∨ w.heap.size ≤ k_) ∧ some k_ ≠ (.slice Ao55 y279.length co55 : Value).ownBlock ∧ some k_ ≠ (.slice Ao59 y286.length co59 : Value).ownBlock ∧ some k_ ≠ (.slice Ao64 y293.length co64 : Value).ownBlock)) (HO_2.out) (fun k_ hk => ⟨hk.1.1.1, ⟨hk.1.1.2, ⟨hk.1.2, hk.2⟩⟩⟩))))) (Reps.none _ _)))); intro v301 w66 ho67 hb hg_ hnew_; clear hg_ hnew_; (first | rw [← Ny300.out] at ho67 | (simp only [Int.reduceToNat] at ho67; rw [← Ny300.out] at ho67)); have n0_ := A0_ (Kd.V_elder' (wV_ HO_0.out) (Kd.N_base ho67) hb); have n1_ := A0_ (Kd.V_elder' (wV_ HO_1.out) (Kd.N_base ho67) hb); have n2_ := A0_ (Kd.V_elder' (wV_ HO_2.out) (Kd.N_base ho67) hb); have n3_ := A0_ (Kd.N_elder' (wN_ HO281.out) (Kd.N_base ho67) hb); have n4_ := A0_ (Kd.V_elder' (wV_ HO284.out) (Kd.N_base ho67) hb); have n5_ := A0_ (Kd.N_elder' (wN_ HO288.out) (Kd.N_base ho67) hb); have n6_ := A0_ (Kd.V_elder' (wV_ HO291.out) (Kd.N_base ho67) hb); have n7_ := A0_ (Kd.N_elder' (wN_ HO295.out) (Kd.N_base ho67) hb); have n8_ := A0_ (Kd.V_elder' (wV_ HO298.out) (Kd.N_base ho67) hb); have n9_ := A0_ (Kd.N_lower ho67 (below_size (wb_ HB.out))); have n10_ := A0_ (below_step (wb_ HB.out) hb); clear HO_0; clear HO_1; clear HO_2; clear HO281; clear HO284; clear HO288; clear HO291; clear HO295; clear HO298; clear HB; have HO_0 := n0_; have HO_1 := n1_; have HO_2 := n2_; have HO281 := n3_; have HO284 := n4_; have HO288 := n5_; have HO291 := n6_; have HO295 := n7_; have HO298 := n8_; have HO302 := n9_; have HB := n10_; clear n0_ n1_ n2_ n3_ n4_ n5_ n6_ n7_ n8_ n9_ n10_; clear hb ho67; obtain ⟨Ao68, co68, eo68⟩ := Kd.N_slice HO302.out; subst eo68) | ((with_reducible refine gate_callee (f := 23) rfl ?_); refine goesL_ (some 67) rfl rfl Tryd.func23 (by kernel_rfl) rfl #[.slice Ao68 y300.length co68] rfl wm_ ?_; (with_reducible refine (union_Union.calls _ _ y300 t303 t306 _ ?side1 ?side2 ?side3 A36.out).mono ?_); (case side1 => exact A0_ (Tabs.below hT.out (wb_ HB.out))); (case side2 => exact wc_ (Kd.N_reads' HO302.out).2.2); (case side3 => exact (Kd.N_reads' HO302.out).2.1); rintro e w69 ⟨v304, rfl, ho0, hb⟩; refine ⟨_, rfl, ?_⟩; have n0_ := A0_ (Vb_ (wV_ HO_0.out) hb); have n1_ := A0_ (Vb_ (wV_ HO_1.out) hb); have n2_ := A0_ (Vb_ (wV_ HO_2.out) hb); have n3_ := A0_ (Kd.N_below (wN_ HO281.out) hb); have n4_ := A0_ (Vb_ (wV_ HO284.out) hb); have n5_ := A0_ (Kd.N_below (wN_ HO288.out) hb); have n6_ := A0_ (Vb_ (wV_ HO291.out) hb); have n7_ := A0_ (Kd.N_below (wN_ HO295.out) hb); have n8_ := A0_ (Vb_ (wV_ HO298.out) hb); have n9_ := A0_ (Kd.N_below (wN_ HO302.out) hb); have n10_ := A0_ (Kd.V_lower (Kd.V_mono (ok' := fun k_ => ((P0_ k_ ∨ P1_ k_ ∨ P2_ k_) ∨ w.heap.size ≤ k_) ∧ some k_ ≠ (.slice Ao55 y279.length co55 : Value).ownBlock ∧ some k_ ≠ (.slice Ao59 y286.length co59 : Value).ownBlock ∧ some k_ ≠ (.slice Ao64 y293.length co64 : Value).ownBlock ∧ some k_ ≠ (.slice Ao68 y300.length co68 : Value).ownBlock) ho0 (fun k_ hk_ => ⟨(.inr (Nat.le_trans (below_size (wb_ HB.out)) hk_)), (Kd.fresh' (Kd.N_lt (wN_ HO281.out)) k_ hk_), (Kd.fresh' (Kd.N_lt (wN_ HO288.out)) k_ hk_), (Kd.fresh' (Kd.N_lt (wN_ HO295.out)) k_ hk_), (Kd.fresh' (Kd.N_lt (wN_ HO302.out)) k_ hk_)⟩)) (below_size (wb_ HB.out))); have n11_ := A0_ (below_step (wb_ HB.out) hb); clear HO_0; clear HO_1; clear HO_2; clear HO281; clear HO284; clear HO288; clear HO291; clear HO295; clear HO298; clear HO302; clear HB; have HO_0 := n0_; have HO_1 := n1_; have HO_2 := n2_; have HO281 := n3_; have HO284 := n4_; have HO288 := n5_; have HO291 := n6_; have HO295 := n7_; have HO298 := n8_; have HO302 := n9_; have HO305 := n10_; have HB := n11_; clear n0_ n1_ n2_ n3_ n4_ n5_ n6_ n7_ n8_ n9_ n10_ n11_; (try clear hb); (try clear hb2); (try clear hk); (try clear hi); (try clear ho0); obtain ⟨Ao70, co70, eo70⟩ := Kd.V_slice HO305.out; subst eo70) | ((with_reducible refine gate_dst (N := 73) rfl ?_); (try (refine gate_guard (by rfl) ?_; dsimp only)); refine Kd.N_lit (Kd.slice 38 k38) _ 31 ?hg (N' := 73) ?hd (xs := ([l0, t303] : List (List (S38)))) (inner := [.slice A0 l0.length c0, .slice Ao70 t303.length co70]) (ok := (fun k_ => ((P0_ k_ ∨ P1_ k_ ∨ P2_ k_) ∨ w.heap.size ≤ k_) ∧ some k_ ≠ (.slice Ao55 y279.length co55 : Value).ownBlock ∧ some k_ ≠ (.slice Ao59 y286.length co59 : Value).ownBlock ∧ some k_ ≠ (.slice Ao64 y293.length co64 : Value).ownBlock ∧ some k_ ≠ (.slice Ao68 y300.length co68 : Value).ownBlock)) (okp := (fun k_ => ((P0_ k_ ∨ P1_ k_ ∨ P2_ k_) ∨ w.heap.size ≤ k_) ∧ some k_ ≠ (.slice Ao55 y279.length co55 : Value).ownBlock ∧ some k_ ≠ (.slice Ao59 y286.length co59 : Value).ownBlock ∧ some k_ ≠ (.slice Ao64 y293.length co64 : Value).ownBlock ∧ some k_ ≠ (.slice Ao68 y300.length co68 : Value).ownBlock)) ?hr ?hp (fun _ hk => hk) ((show ∀ k_, w69.heap.size ≤ k_ → (fun k_ => ((P0_ k_ ∨ P1_ k_ ∨ P2_ k_) ∨ w.heap.size ≤ k_) ∧ some k_ ≠ (.slice Ao55 y279.length co55 : Value).ownBlock ∧ some k_ ≠ (.slice Ao59 y286.length co59 : Value).ownBlock ∧ some k_ ≠ (.slice Ao64 y293.length co64 : Value).ownBlock ∧ some k_ ≠ (.slice Ao68 y300.length co68 : Value).ownBlock) k_ from fun k_ hk => ⟨(.inr (Nat.le_trans (below_size (wb_ HB.out)) hk)), Kd.fresh' (Kd.N_lt (wN_ HO281.out)) k_ hk, Kd.fresh' (Kd.N_lt (wN_ HO288.out)) k_ hk, Kd.fresh' (Kd.N_lt (wN_ HO295.out)) k_ hk, Kd.fresh' (Kd.N_lt (wN_ HO302.out)) k_ hk⟩) _ (Nat.le_refl _)) (Below.refl _ _) (Nat.le_refl _) (by simp) ?_; (case hd => rfl); (case hg => rfl); (case hr => first | (go_simp; done) | (go_simp; rfl)); (case hp => exact (Reps.one (show Kd.FK (Kd.slice 38 k38) _ _ l0 [.slice A0 l0.length c0] from (Kd.FK_slice_mk (Kd.V_reads' (Kd.V_mono (ok' := (fun k_ => ((P0_ k_ ∨ P1_ k_ ∨ P2_ k_) ∨ w.heap.size ≤ k_) ∧ some k_ ≠ (.slice Ao55 y279.length co55 : Value).ownBlock ∧ some k_ ≠ (.slice Ao59 y286.length co59 : Value).ownBlock ∧ some k_ ≠ (.slice Ao64 y293.length co64 : Value).ownBlock ∧ some k_ ≠ (.slice Ao68 y300.length co68 : Value).ownBlock)) (HO_0.out) (fun k_ hk => ⟨hk.1.1.1.1, ⟨hk.1.1.1.2, ⟨hk.1.1.2, ⟨hk.1.2, hk.2⟩⟩⟩⟩))).2.1 (Kd.V_F (Kd.V_mono (ok' := (fun k_ => ((P0_ k_ ∨ P1_ k_ ∨ P2_ k_) ∨ w.heap.size ≤ k_) ∧ some k_ ≠ (.slice Ao55 y279.length co55 : Value).ownBlock ∧ some k_ ≠ (.slice Ao59 y286.length co59 : Value).ownBlock ∧ some k_ ≠ (.slice Ao64 y293.length co64 : Value).ownBlock ∧ some k_ ≠ (.slice Ao68 y300.length co68 : Value).ownBlock)) (HO_0.out) (fun k_ hk => ⟨hk.1.1.1.1, ⟨hk.1.1.1.2, ⟨hk.1.1.2, ⟨hk.1.2, hk.2⟩⟩⟩⟩))))) (Reps.one (show Kd.FK (Kd.slice 38 k38) _ _ t303 [.slice Ao70 t303.length co70] from (Kd.FK_slice_mk (Kd.V_reads' (Kd.V_mono (ok' := (fun k_ => ((P0_ k_ ∨ P1_ k_ ∨ P2_ k_) ∨ w.heap.size ≤ k_) ∧ some k_ ≠ (.slice Ao55 y279.length co55 : Value).ownBlock ∧ some k_ ≠ (.slice Ao59 y286.length co59 : Value).ownBlock ∧ some k_ ≠ (.slice Ao64 y293.length co64 : Value).ownBlock ∧ some k_ ≠ (.slice Ao68 y300.length co68 : Value).ownBlock)) (HO305.out) (fun k_ hk => ⟨hk.1, ⟨hk.2.1, ⟨hk.2.2.1, ⟨hk.2.2.2.1, hk.2.2.2.2⟩⟩⟩⟩))).2.1 (Kd.V_F (Kd.V_mono (ok' := (fun k_ => ((P0_ k_ ∨ P1_ k_ ∨ P2_ k_) ∨ w.heap.size ≤ k_) ∧ some k_ ≠ (.slice Ao55 y279.length co55 : Value).ownBlock ∧ some k_ ≠ (.slice Ao59 y286.length co59 : Value).ownBlock ∧ some k_ ≠ (.slice Ao64 y293.length co64 : Value).ownBlock ∧ some k_ ≠ (.slice Ao68 y300.length co68 : Value).ownBlock)) (HO305.out) (fun k_ hk => ⟨hk.1, ⟨hk.2.1, ⟨hk.2.2.1, ⟨hk.2.2.2.1, hk.2.2.2.2⟩⟩⟩⟩))))) (Reps.none _ _)))); intro v308 w71 ho72 hb hg_ hnew_; clear hg_ hnew_; (first | rw [← Ny307.out] at ho72 | (simp only [Int.reduceToNat] at ho72; rw [← Ny307.out] at ho72)); have n0_ := A0_ (Kd.V_elder' (wV_ HO_0.out) (Kd.N_base ho72) hb); have n1_ := A0_ (Kd.V_elder' (wV_ HO_1.out) (Kd.N_base ho72) hb); have n2_ := A0_ (Kd.V_elder' (wV_ HO_2.out) (Kd.N_base ho72) hb); have n3_ := A0_ (Kd.N_elder' (wN_ HO281.out) (Kd.N_base ho72) hb); have n4_ := A0_ (Kd.V_elder' (wV_ HO284.out) (Kd.N_base ho72) hb); have n5_ := A0_ (Kd.N_elder' (wN_ HO288.out) (Kd.N_base ho72) hb); have n6_ := A0_ (Kd.V_elder' (wV_ HO291.out) (Kd.N_base ho72) hb); have n7_ := A0_ (Kd.N_elder' (wN_ HO295.out) (Kd.N_base ho72) hb); have n8_ := A0_ (Kd.V_elder' (wV_ HO298.out) (Kd.N_base ho72) hb); have n9_ := A0_ (Kd.N_elder' (wN_ HO302.out) (Kd.N_base ho72) hb); have n10_ := A0_ (Kd.V_elder' (wV_ HO305.out) (Kd.N_base ho72) hb); have n11_ := A0_ (Kd.N_lower ho72 (below_size (wb_ HB.out))); have n12_ := A0_ (below_step (wb_ HB.out) hb); clear HO_0; clear HO_1; clear HO_2; clear HO281; clear HO284; clear HO288; clear HO291; clear HO295; clear HO298; clear HO302; clear HO305; clear HB; have HO_0 := n0_; have HO_1 := n1_; have HO_2 := n2_; have HO281 := n3_; have HO284 := n4_; have HO288 := n5_; have HO291 := n6_; have HO295 := n7_; have HO298 := n8_; have HO302 := n9_; have HO305 := n10_; have HO309 := n11_; have HB := n12_; clear n0_ n1_ n2_ n3_ n4_ n5_ n6_ n7_ n8_ n9_ n10_ n11_ n12_; clear hb ho72; obtain ⟨Ao73, co73, eo73⟩ := Kd.N_slice HO309.out; subst eo73) | ((with_reducible refine gate_callee (f := 23) rfl ?_); refine goesL_ (some 74) rfl rfl Tryd.func23 (by kernel_rfl) rfl #[.slice Ao73 y307.length co73] rfl wm_ ?_; (with_reducible refine (union_Union.calls _ _ y307 t310 t313 _ ?side1 ?side2 ?side3 A37.out).mono ?_); (case side1 => exact A0_ (Tabs.below hT.out (wb_ HB.out))); (case side2 => exact wc_ (Kd.N_reads' HO309.out).2.2); (case side3 => exact (Kd.N_reads' HO309.out).2.1); rintro e w74 ⟨v311, rfl, ho0, hb⟩; refine ⟨_, rfl, ?_⟩; have n0_ := A0_ (Vb_ (wV_ HO_0.out) hb); have n1_ := A0_ (Vb_ (wV_ HO_1.out) hb); have n2_ := A0_ (Vb_ (wV_ HO_2.out) hb); have n3_ := A0_ (Kd.N_below (wN_ HO281.out) hb); have n4_ := A0_ (Vb_ (wV_ HO284.out) hb); have n5_ := A0_ (Kd.N_below (wN_ HO288.out) hb); have n6_ := A0_ (Vb_ (wV_ HO291.out) hb); have n7_ := A0_ (Kd.N_below (wN_ HO295.out) hb); have n8_ := A0_ (Vb_ (wV_ HO298.out) hb); have n9_ := A0_ (Kd.N_below (wN_ HO302.out) hb); have n10_ := A0_ (Vb_ (wV_ HO305.out) hb); have n11_ := A0_ (Kd.N_below (wN_ HO309.out) hb); have n12_ := A0_ (Kd.V_lower (Kd.V_mono (ok' := fun k_ => ((P0_ k_ ∨ P1_ k_ ∨ P2_ k_) ∨ w.heap.size ≤ k_) ∧ some k_ ≠ (.slice Ao55 y279.length co55 : Value).ownBlock ∧ some k_ ≠ (.slice Ao59 y286.length co59 : Value).ownBlock ∧ some k_ ≠ (.slice Ao64 y293.length co64 : Value).ownBlock ∧ some k_ ≠ (.slice Ao68 y300.length co68 : Value).ownBlock ∧ some k_ ≠ (.slice Ao73 y307.length co73 : Value).ownBlock) ho0 (fun k_ hk_ => ⟨(.inr (Nat.le_trans (below_size (wb_ HB.out)) hk_)), (Kd.fresh' (Kd.N_lt (wN_ HO281.out)) k_ hk_), (Kd.fresh' (Kd.N_lt (wN_ HO288.out)) k_ hk_), (Kd.fresh' (Kd.N_lt (wN_ HO295.out)) k_ hk_), (Kd.fresh' (Kd.N_lt (wN_ HO302.out)) k_ hk_), (Kd.fresh' (Kd.N_lt (wN_ HO309.out)) k_ hk_)⟩)) (below_size (wb_ HB.out))); have n13_ := A0_ (below_step (wb_ HB.out) hb); clear HO_0; clear HO_1; clear HO_2; clear HO281; clear HO284; clear HO288; clear HO291; clear HO295; clear HO298; clear HO302; clear HO305; clear HO309; clear HB; have HO_0 := n0_; have HO_1 := n1_; have HO_2 := n2_; have HO281 := n3_; have HO284 := n4_; have HO288 := n5_; have HO291 := n6_; have HO295 := n7_; have HO298 := n8_; have HO302 := n9_; have HO305 := n10_; have HO309 := n11_; have HO312 := n12_; have HB := n13_; clear n0_ n1_ n2_ n3_ n4_ n5_ n6_ n7_ n8_ n9_ n10_ n11_ n12_ n13_; (try clear hb); (try clear hb2); (try clear hk); (try clear hi); (try clear ho0)) | ((with_reducible refine gate_dst (N := 80) rfl ?_); (try (refine gate_guard (by rfl) ?_; dsimp only)); refine Kd.N_lit (Kd.slice 38 k38) _ 31 ?hg (N' := 80) ?hd (xs := ([l0, l0] : List (List (S38)))) (inner := [.slice A0 l0.length c0, .slice A0 l0.length c0]) (ok := (fun k_ => ((P0_ k_ ∨ P1_ k_ ∨ P2_ k_) ∨ w.heap.size ≤ k_) ∧ some k_ ≠ (.slice Ao55 y279.length co55 : Value).ownBlock ∧ some k_ ≠ (.slice Ao59 y286.length co59 : Value).ownBlock ∧ some k_ ≠ (.slice Ao64 y293.length co64 : Value).ownBlock ∧ some k_ ≠ (.slice Ao68 y300.length co68 : Value).ownBlock ∧ some k_ ≠ (.slice Ao73 y307.length co73 : Value).ownBlock)) (okp := (fun k_ => ((P0_ k_ ∨ P1_ k_ ∨ P2_ k_) ∨ w.heap.size ≤ k_) ∧ some k_ ≠ (.slice Ao55 y279.length co55 : Value).ownBlock ∧ some k_ ≠ (.slice Ao59 y286.length co59 : Value).ownBlock ∧ some k_ ≠ (.slice Ao64 y293.length co64 : Value).ownBlock ∧ some k_ ≠ (.slice Ao68 y300.length co68 : Value).ownBlock ∧ some k_ ≠ (.slice Ao73 y307.length co73 : Value).ownBlock)) ?hr ?hp (fun _ hk => hk) ((show ∀ k_, w74.heap.size ≤ k_ → (fun k_ => ((P0_ k_ ∨ P1_ k_ ∨ P2_ k_) ∨ w.heap.size ≤ k_) ∧ some k_ ≠ (.slice Ao55 y279.length co55 : Value).ownBlock ∧ some k_ ≠ (.slice Ao59 y286.length co59 : Value).ownBlock ∧ some k_ ≠ (.slice Ao64 y293.length co64 : Value).ownBlock ∧ some k_ ≠ (.slice Ao68 y300.length co68 : Value).ownBlock ∧ some k_ ≠ (.slice Ao73 y307.length co73 : Value).ownBlock) k_ from fun k_ hk => ⟨(.inr (Nat.le_trans (below_size (wb_ HB.out)) hk)), Kd.fresh' (Kd.N_lt (wN_ HO281.out)) k_ hk, Kd.fresh' (Kd.N_lt (wN_ HO288.out)) k_ hk, Kd.fresh' (Kd.N_lt (wN_ HO295.out)) k_ hk, Kd.fresh' (Kd.N_lt (wN_ HO302.out)) k_ hk, Kd.fresh' (Kd.N_lt (wN_ HO309.out)) k_ hk⟩) _ (Nat.le_refl _)) (Below.refl _ _) (Nat.le_refl _) (by simp) ?_; (case hd => rfl); (case hg => rfl); (case hr => first | (go_simp; done) | (go_simp; rfl)); (case hp => exact (Reps.one (show Kd.FK (Kd.slice 38 k38) _ _ l0 [.slice A0 l0.length c0] from (Kd.FK_slice_mk (Kd.V_reads' (Kd.V_mono (ok' := (fun k_ => ((P0_ k_ ∨ P1_ k_ ∨ P2_ k_) ∨ w.heap.size ≤ k_) ∧ some k_ ≠ (.slice Ao55 y279.length co55 : Value).ownBlock ∧ some k_ ≠ (.slice Ao59 y286.length co59 : Value).ownBlock ∧ some k_ ≠ (.slice Ao64 y293.length co64 : Value).ownBlock ∧ some k_ ≠ (.slice Ao68 y300.length co68 : Value).ownBlock ∧ some k_ ≠ (.slice Ao73 y307.length co73 : Value).ownBlock)) (HO_0.out) (fun k_ hk => ⟨hk.1.1.1.1.1, ⟨hk.1.1.1.1.2, ⟨hk.1.1.1.2, ⟨hk.1.1.2, ⟨hk.1.2, hk.2⟩⟩⟩⟩⟩))).2.1 (Kd.V_F (Kd.V_mono (ok' := (fun k_ => ((P0_ k_ ∨ P1_ k_ ∨ P2_ k_) ∨ w.heap.size ≤ k_) ∧ some k_ ≠ (.slice Ao55 y279.length co55 : Value).ownBlock ∧ some k_ ≠ (.slice Ao59 y286.length co59 : Value).ownBlock ∧ some k_ ≠ (.slice Ao64 y293.length co64 : Value).ownBlock ∧ some k_ ≠ (.slice Ao68 y300.length co68 : Value).ownBlock ∧ some k_ ≠ (.slice Ao73 y307.length co73 : Value).ownBlock)) (HO_0.out) (fun k_ hk => ⟨hk.1.1.1.1.1, ⟨hk.1.1.1.1.2, ⟨hk.1.1.1.2, ⟨hk.1.1.2, ⟨hk.1.2, hk.2⟩⟩⟩⟩⟩))))) (Reps.one (show Kd.FK (Kd.slice 38 k38) _ _ l0 [.slice A0 l0.length c0] from (Kd.FK_slice_mk (Kd.V_reads' (Kd.V_mono (ok' := (fun k_ => ((P0_ k_ ∨ P1_ k_ ∨ P2_ k_) ∨ w.heap.size ≤ k_) ∧ some k_ ≠ (.slice Ao55 y279.length co55 : Value).ownBlock ∧ some k_ ≠ (.slice Ao59 y286.length co59 : Value).ownBlock ∧ some k_ ≠ (.slice Ao64 y293.length co64 : Value).ownBlock ∧ some k_ ≠ (.slice Ao68 y300.length co68 : Value).ownBlock ∧ some k_ ≠ (.slice Ao73 y307.length co73 : Value).ownBlock)) (HO_0.out) (fun k_ hk => ⟨hk.1.1.1.1.1, ⟨hk.1.1.1.1.2, ⟨hk.1.1.1.2, ⟨hk.1.1.2, ⟨hk.1.2, hk.2⟩⟩⟩⟩⟩))).2.1 (Kd.V_F (Kd.V_mono (ok' := (fun k_ => ((P0_ k_ ∨ P1_ k_ ∨ P2_ k_) ∨ w.heap.size ≤ k_) ∧ some k_ ≠ (.slice Ao55 y279.length co55 : Value).ownBlock ∧ some k_ ≠ (.slice Ao59 y286.length co59 : Value).ownBlock ∧ some k_ ≠ (.slice Ao64 y293.length co64 : Value).ownBlock ∧ some k_ ≠ (.slice Ao68 y300.length co68 : Value).ownBlock ∧ some k_ ≠ (.slice Ao73 y307.length co73 : Value).ownBlock)) (HO_0.out) (fun k_ hk => ⟨hk.1.1.1.1.1, ⟨hk.1.1.1.1.2, ⟨hk.1.1.1.2, ⟨hk.1.1.2, ⟨hk.1.2, hk.2⟩⟩⟩⟩⟩))))) (Reps.none _ _)))); intro v315 w75 ho76 hb hg_ hnew_; clear hg_ hnew_; (first | rw [← Ny314.out] at ho76 | (simp only [Int.reduceToNat] at ho76; rw [← Ny314.out] at ho76)); have n0_ := A0_ (Kd.V_elder' (wV_ HO_0.out) (Kd.N_base ho76) hb); have n1_ := A0_ (Kd.V_elder' (wV_ HO_1.out) (Kd.N_base ho76) hb); have n2_ := A0_ (Kd.V_elder' (wV_ HO_2.out) (Kd.N_base ho76) hb); have n3_ := A0_ (Kd.N_elder' (wN_ HO281.out) (Kd.N_base ho76) hb); have n4_ := A0_ (Kd.V_elder' (wV_ HO284.out) (Kd.N_base ho76) hb); have n5_ := A0_ (Kd.N_elder' (wN_ HO288.out) (Kd.N_base ho76) hb); have n6_ := A0_ (Kd.V_elder' (wV_ HO291.out) (Kd.N_base ho76) hb); have n7_ := A0_ (Kd.N_elder' (wN_ HO295.out) (Kd.N_base ho76) hb); have n8_ := A0_ (Kd.V_elder' (wV_ HO298.out) (Kd.N_base ho76) hb); have n9_ := A0_ (Kd.N_elder' (wN_ HO302.out) (Kd.N_base ho76) hb); have n10_ := A0_ (Kd.V_elder' (wV_ HO305.out) (Kd.N_base ho76) hb); have n11_ := A0_ (Kd.N_elder' (wN_ HO309.out) (Kd.N_base ho76) hb); have n12_ := A0_ (Kd.V_elder' (wV_ HO312.out) (Kd.N_base ho76) hb); have n13_ := A0_ (Kd.N_lower ho76 (below_size (wb_ HB.out))); have n14_ := A0_ (below_step (wb_ HB.out) hb); clear HO_0; clear HO_1; clear HO_2; clear HO281; clear HO284; clear HO288; clear HO291; clear HO295; clear HO298; clear HO302; clear HO305; clear HO309; clear HO312; clear HB; have HO_0 := n0_; have HO_1 := n1_; have HO_2 := n2_; have HO281 := n3_; have HO284 := n4_; have HO288 := n5_; have HO291 := n6_; have HO295 := n7_; have HO298 := n8_; have HO302 := n9_; have HO305 := n10_; have HO309 := n11_; have HO312 := n12_; have HO316 := n13_; have HB := n14_; clear n0_ n1_ n2_ n3_ n4_ n5_ n6_ n7_ n8_ n9_ n10_ n11_ n12_ n13_ n14_; clear hb ho76; obtain ⟨Ao77, co77, eo77⟩ := Kd.N_slice HO316.out; subst eo77) | ((with_reducible refine gate_callee (f := 23) rfl ?_); refine goesL_ (some 81) rfl rfl Tryd.func23 (by kernel_rfl) rfl #[.slice Ao77 y314.length co77] rfl wm_ ?_; (with_reducible refine (union_Union.calls _ _ y314 t317 t320 _ ?side1 ?side2 ?side3 A38.out).mono ?_); (case side1 => exact A0_ (Tabs.below hT.out (wb_ HB.out))); (case side2 => exact wc_ (Kd.N_reads' HO316.out).2.2); (case side3 => exact (Kd.N_reads' HO316.out).2.1); rintro e w78 ⟨v318, rfl, ho0, hb⟩; refine ⟨_, rfl, ?_⟩; have n0_ := A0_ (Vb_ (wV_ HO_0.out) hb); have n1_ := A0_ (Vb_ (wV_ HO_1.out) hb); have n2_ := A0_ (Vb_ (wV_ HO_2.out) hb); have n3_ := A0_ (Kd.N_below (wN_ HO281.out) hb); have n4_ := A0_ (Vb_ (wV_ HO284.out) hb); have n5_ := A0_ (Kd.N_below (wN_ HO288.out) hb); have n6_ := A0_ (Vb_ (wV_ HO291.out) hb); have n7_ := A0_ (Kd.N_below (wN_ HO295.out) hb); have n8_ := A0_ (Vb_ (wV_ HO298.out) hb); have n9_ := A0_ (Kd.N_below (wN_ HO302.out) hb); have n10_ := A0_ (Vb_ (wV_ HO305.out) hb); have n11_ := A0_ (Kd.N_below (wN_ HO309.out) hb); have n12_ := A0_ (Vb_ (wV_ HO312.out) hb); have n13_ := A0_ (Kd.N_below (wN_ HO316.out) hb); have n14_ := A0_ (Kd.V_lower (Kd.V_mono (ok' := fun k_ => ((P0_ k_ ∨ P1_ k_ ∨ P2_ k_) ∨ w.heap.size ≤ k_) ∧ some k_ ≠ (.slice Ao55 y279.length co55 : Value).ownBlock ∧ some k_ ≠ (.slice Ao59 y286.length co59 : Value).ownBlock ∧ some k_ ≠ (.slice Ao64 y293.length co64 : Value).ownBlock ∧ some k_ ≠ (.slice Ao68 y300.length co68 : Value).ownBlock ∧ some k_ ≠ (.slice Ao73 y307.length co73 : Value).ownBlock ∧ some k_ ≠ (.slice Ao77 y314.length co77 : Value).ownBlock) ho0 (fun k_ hk_ => ⟨(.inr (Nat.le_trans (below_size (wb_ HB.out)) hk_)), (Kd.fresh' (Kd.N_lt (wN_ HO281.out)) k_ hk_), (Kd.fresh' (Kd.N_lt (wN_ HO288.out)) k_ hk_), (Kd.fresh' (Kd.N_lt (wN_ HO295.out)) k_ hk_), (Kd.fresh' (Kd.N_lt (wN_ HO302.out)) k_ hk_), (Kd.fresh' (Kd.N_lt (wN_ HO309.out)) k_ hk_), (Kd.fresh' (Kd.N_lt (wN_ HO316.out)) k_ hk_)⟩)) (below_size (wb_ HB.out))); have n15_ := A0_ (below_step (wb_ HB.out) hb); clear HO_0; clear HO_1; clear HO_2; clear HO281; clear HO284; clear HO288; clear HO291; clear HO295; clear HO298; clear HO302; clear HO305; clear HO309; clear HO312; clear HO316; clear HB; have HO_0 := n0_; have HO_1 := n1_; have HO_2 := n2_; have HO281 := n3_; have HO284 := n4_; have HO288 := n5_; have HO291 := n6_; have HO295 := n7_; have HO298 := n8_; have HO302 := n9_; have HO305 := n10_; have HO309 := n11_; have HO312 := n12_; have HO316 := n13_; have HO319 := n14_; have HB := n15_; clear n0_ n1_ n2_ n3_ n4_ n5_ n6_ n7_ n8_ n9_ n10_ n11_ n12_ n13_ n14_ n15_; (try clear hb); (try clear hb2); (try clear hk); (try clear hi); (try clear ho0)) | ((with_reducible refine gate_dst (N := 86) rfl ?_); (try (refine gate_guard (by rfl) ?_; dsimp only)); refine Kd.N_lit (Kd.slice 38 k38) _ 31 ?hg (N' := 86) ?hd (xs := ([[], l0, []] : List (List (S38)))) (inner := [.slice none 0 0, .slice A0 l0.length c0, .slice none 0 0]) (ok := (fun k_ => ((P0_ k_ ∨ P1_ k_ ∨ P2_ k_) ∨ w.heap.size ≤ k_) ∧ some k_ ≠ (.slice Ao55 y279.length co55 : Value).ownBlock ∧ some k_ ≠ (.slice Ao59 y286.length co59 : Value).ownBlock ∧ some k_ ≠ (.slice Ao64 y293.length co64 : Value).ownBlock ∧ some k_ ≠ (.slice Ao68 y300.length co68 : Value).ownBlock ∧ some k_ ≠ (.slice Ao73 y307.length co73 : Value).ownBlock ∧ some k_ ≠ (.slice Ao77 y314.length co77 : Value).ownBlock)) (okp := (fun k_ => ((P0_ k_ ∨ P1_ k_ ∨ P2_ k_) ∨ w.heap.size ≤ k_) ∧ some k_ ≠ (.slice Ao55 y279.length co55 : Value).ownBlock ∧ some k_ ≠ (.slice Ao59 y286.length co59 : Value).ownBlock ∧ some k_ ≠ (.slice Ao64 y293.length co64 : Value).ownBlock ∧ some k_ ≠ (.slice Ao68 y300.length co68 : Value).ownBlock ∧ some k_ ≠ (.slice Ao73 y307.length co73 : Value).ownBlock ∧ some k_ ≠ (.slice Ao77 y314.length co77 : Value).ownBlock)) ?hr ?hp (fun _ hk => hk) ((show ∀ k_, w78.heap.size ≤ k_ → (fun k_ => ((P0_ k_ ∨ P1_ k_ ∨ P2_ k_) ∨ w.heap.size ≤ k_) ∧ some k_ ≠ (.slice Ao55 y279.length co55 : Value).ownBlock ∧ some k_ ≠ (.slice Ao59 y286.length co59 : Value).ownBlock ∧ some k_ ≠ (.slice Ao64 y293.length co64 : Value).ownBlock ∧ some k_ ≠ (.slice Ao68 y300.length co68 : Value).ownBlock ∧ some k_ ≠ (.slice Ao73 y307.length co73 : Value).ownBlock ∧ some k_ ≠ (.slice Ao77 y314.length co77 : Value).ownBlock) k_ from fun k_ hk => ⟨(.inr (Nat.le_trans (below_size (wb_ HB.out)) hk)), Kd.fresh' (Kd.N_lt (wN_ HO281.out)) k_ hk, Kd.fresh' (Kd.N_lt (wN_ HO288.out)) k_ hk, Kd.fresh' (Kd.N_lt (wN_ HO295.out)) k_ hk, Kd.fresh' (Kd.N_lt (wN_ HO302.out)) k_ hk, Kd.fresh' (Kd.N_lt (wN_ HO309.out)) k_ hk, Kd.fresh' (Kd.N_lt (wN_ HO316.out)) k_ hk⟩) _ (Nat.le_refl _)) (Below.refl _ _) (Nat.le_refl _) (by simp) ?_; (case hd => rfl); (case hg => rfl); (case hr => first | (go_simp; done) | (go_simp; rfl)); (case hp => exact (Reps.one (show Kd.FK (Kd.slice 38 k38) _ _ [] [.slice none 0 0] from (Kd.FK_slice_mk (Nat.le_refl _) (Kd.F_nil _ _ _))) (Reps.one (show Kd.FK (Kd.slice 38 k38) _ _ l0 [.slice A0 l0.length c0] from (Kd.FK_slice_mk (Kd.V_reads' (Kd.V_mono (ok' := (fun k_ => ((P0_ k_ ∨ P1_ k_ ∨ P2_ k_) ∨ w.heap.size ≤ k_) ∧ some k_ ≠ (.slice Ao55 y279.length co55 : Value).ownBlock ∧ some k_ ≠ (.slice Ao59 y286.length co59 : Value).ownBlock ∧ some k_ ≠ (.slice Ao64 y293.length co64 : Value).ownBlock ∧ some k_ ≠ (.slice Ao68 y300.length co68 : Value).ownBlock ∧ some k_ ≠ (.slice Ao73 y307.length co73 : Value).ownBlock ∧ some k_ ≠ (.slice Ao77 y314.length co77 : Value).ownBlock)) (HO_0.out) (fun k_ hk => ⟨hk.1.1.1.1.1.1, ⟨hk.1.1.1.1.1.2, ⟨hk.1.1.1.1.2, ⟨hk.1.1.1.2, ⟨hk.1.1.2, ⟨hk.1.2, hk.2⟩⟩⟩⟩⟩⟩))).2.1 (Kd.V_F (Kd.V_mono (ok' := (fun k_ => ((P0_ k_ ∨ P1_ k_ ∨ P2_ k_) ∨ w.heap.size ≤ k_) ∧ some k_ ≠ (.slice Ao55 y279.length co55 : Value).ownBlock ∧ some k_ ≠ (.slice Ao59 y286.length co59 : Value).ownBlock ∧ some k_ ≠ (.slice Ao64 y293.length co64 : Value).ownBlock ∧ some k_ ≠ (.slice Ao68 y300.length co68 : Value).ownBlock ∧ some k_ ≠ (.slice Ao73 y307.length co73 : Value).ownBlock ∧ some k_ ≠ (.slice Ao77 y314.length co77 : Value).ownBlock)) (HO_0.out) (fun k_ hk => ⟨hk.1.1.1.1.1.1, ⟨hk.1.1.1.1.1.2, ⟨hk.1.1.1.1.2, ⟨hk.1.1.1.2, ⟨hk.1.1.2, ⟨hk.1.2, hk.2⟩⟩⟩⟩⟩⟩))))) (Reps.one (show Kd.FK (Kd.slice 38 k38) _ _ [] [.slice none 0 0] from (Kd.FK_slice_mk (Nat.le_refl _) (Kd.F_nil _ _ _))) (Reps.none _ _))))); intro v322 w79 ho80 hb hg_ hnew_; clear hg_ hnew_; (first | rw [← Ny321.out] at ho80 | (simp only [Int.reduceToNat] at ho80; rw [← Ny321.out] at ho80)); have n0_ := A0_ (Kd.V_elder' (wV_ HO_0.out) (Kd.N_base ho80) hb); have n1_ := A0_ (Kd.V_elder' (wV_ HO_1.out) (Kd.N_base ho80) hb); have n2_ := A0_ (Kd.V_elder' (wV_ HO_2.out) (Kd.N_base ho80) hb); have n3_ := A0_ (Kd.N_elder' (wN_ HO281.out) (Kd.N_base ho80) hb); have n4_ := A0_ (Kd.V_elder' (wV_ HO284.out) (Kd.N_base ho80) hb); have n5_ := A0_ (Kd.N_elder' (wN_ HO288.out) (Kd.N_base ho80) hb); have n6_ := A0_ (Kd.V_elder' (wV_ HO291.out) (Kd.N_base ho80) hb); have n7_ := A0_ (Kd.N_elder' (wN_ HO295.out) (Kd.N_base ho80) hb); have n8_ := A0_ (Kd.V_elder' (wV_ HO298.out) (Kd.N_base ho80) hb); have n9_ := A0_ (Kd.N_elder' (wN_ HO302.out) (Kd.N_base ho80) hb); have n10_ := A0_ (Kd.V_elder' (wV_ HO305.out) (Kd.N_base ho80) hb); have n11_ := A0_ (Kd.N_elder' (wN_ HO309.out) (Kd.N_base ho80) hb); have n12_ := A0_ (Kd.V_elder' (wV_ HO312.out) (Kd.N_base ho80) hb); have n13_ := A0_ (Kd.N_elder' (wN_ HO316.out) (Kd.N_base ho80) hb); have n14_ := A0_ (Kd.V_elder' (wV_ HO319.out) (Kd.N_base ho80) hb); have n15_ := A0_ (Kd.N_lower ho80 (below_size (wb_ HB.out))); have n16_ := A0_ (below_step (wb_ HB.out) hb); clear HO_0; clear HO_1; clear HO_2; clear HO281; clear HO284; clear HO288; clear HO291; clear HO295; clear HO298; clear HO302; clear HO305; clear HO309; clear HO312; clear HO316; clear HO319; clear HB; have HO_0 := n0_; have HO_1 := n1_; have HO_2 := n2_; have HO281 := n3_; have HO284 := n4_; have HO288 := n5_; have HO291 := n6_; have HO295 := n7_; have HO298 := n8_; have HO302 := n9_; have HO305 := n10_; have HO309 := n11_; have HO312 := n12_; have HO316 := n13_; have HO319 := n14_; have HO323 := n15_; have HB := n16_; clear n0_ n1_ n2_ n3_ n4_ n5_ n6_ n7_ n8_ n9_ n10_ n11_ n12_ n13_ n14_ n15_ n16_; clear hb ho80; obtain ⟨Ao81, co81, eo81⟩ := Kd.N_slice HO323.out; subst eo81) | ((with_reducible refine gate_callee (f := 23) rfl ?_); refine goesL_ (some 87) rfl rfl Tryd.func23 (by kernel_rfl) rfl #[.slice Ao81 y321.length co81] rfl wm_ ?_; (with_reducible refine (union_Union.calls _ _ y321 t324 t327 _ ?side1 ?side2 ?side3 A39.out).mono ?_); (case side1 => exact A0_ (Tabs.below hT.out (wb_ HB.out))); (case side2 => exact wc_ (Kd.N_reads' HO323.out).2.2); (case side3 => exact (Kd.N_reads' HO323.out).2.1); rintro e w82 ⟨v325, rfl, ho0, hb⟩; refine ⟨_, rfl, ?_⟩; have n0_ := A0_ (Vb_ (wV_ HO_0.out) hb); have n1_ := A0_ (Vb_ (wV_ HO_1.out) hb); have n2_ := A0_ (Vb_ (wV_ HO_2.out) hb); have n3_ := A0_ (Kd.N_below (wN_ HO281.out) hb); have n4_ := A0_ (Vb_ (wV_ HO284.out) hb); have n5_ := A0_ (Kd.N_below (wN_ HO288.out) hb); have n6_ := A0_ (Vb_ (wV_ HO291.out) hb); have n7_ := A0_ (Kd.N_below (wN_ HO295.out) hb); have n8_ := A0_ (Vb_ (wV_ HO298.out) hb); have n9_ := A0_ (Kd.N_below (wN_ HO302.out) hb); have n10_ := A0_ (Vb_ (wV_ HO305.out) hb); have n11_ := A0_ (Kd.N_below (wN_ HO309.out) hb); have n12_ := A0_ (Vb_ (wV_ HO312.out) hb); have n13_ := A0_ (Kd.N_below (wN_ HO316.out) hb); have n14_ := A0_ (Vb_ (wV_ HO319.out) hb); have n15_ := A0_ (Kd.N_below (wN_ HO323.out) hb); have n16_ := A0_ (Kd.V_lower (Kd.V_mono (ok' := fun k_ => ((P0_ k_ ∨ P1_ k_ ∨ P2_ k_) ∨ w.heap.size ≤ k_) ∧ some k_ ≠ (.slice Ao55 y279.length co55 : Value).ownBlock ∧ some k_ ≠ (.slice Ao59 y286.length co59 : Value).ownBlock ∧ some k_ ≠ (.slice Ao64 y293.length co64 : Value).ownBlock ∧ some k_ ≠ (.slice Ao68 y300.length co68 : Value).ownBlock ∧ some k_ ≠ (.slice Ao73 y307.length co73 : Value).ownBlock ∧ some k_ ≠ (.slice Ao77 y314.length co77 : Value).ownBlock ∧ some k_ ≠ (.slice Ao81 y321.length co81 : Value).ownBlock) ho0 (fun k_ hk_ => ⟨(.inr (Nat.le_trans (below_size (wb_ HB.out)) hk_)), (Kd.fresh' (Kd.N_lt (wN_ HO281.out)) k_ hk_), (Kd.fresh' (Kd.N_lt (wN_ HO288.out)) k_ hk_), (Kd.fresh' (Kd.N_lt (wN_ HO295.out)) k_ hk_), (Kd.fresh' (Kd.N_lt (wN_ HO302.out)) k_ hk_), (Kd.fresh' (Kd.N_lt (wN_ HO309.out)) k_ hk_), (Kd.fresh' (Kd.N_lt (wN_ HO316.out)) k_ hk_), (Kd.fresh' (Kd.N_lt (wN_ HO323.out)) k_ hk_)⟩)) (below_size (wb_ HB.out))); have n17_ := A0_ (below_step (wb_ HB.out) hb); clear HO_0; clear HO_1; clear HO_2; clear HO281; clear HO284; clear HO288; clear HO291; clear HO295; clear HO298; clear HO302; clear HO305; clear HO309; clear HO312; clear HO316; clear HO319; clear HO323; clear HB; have HO_0 := n0_; have HO_1 := n1_; have HO_2 := n2_; have HO281 := n3_; have HO284 := n4_; have HO288 := n5_; have HO291 := n6_; have HO295 := n7_; have HO298 := n8_; have HO302 := n9_; have HO305 := n10_; have HO309 := n11_; have HO312 := n12_; have HO316 := n13_; have HO319 := n14_; have HO323 := n15_; have HO326 := n16_; have HB := n17_; clear n0_ n1_ n2_ n3_ n4_ n5_ n6_ n7_ n8_ n9_ n10_ n11_ n12_ n13_ n14_ n15_ n16_ n17_; (try clear hb); (try clear hb2); (try clear hk); (try clear hi); (try clear ho0)) | ((with_reducible refine gate_callee (f := 23) rfl ?_); refine goesL_ (some 91) rfl rfl Tryd.func23 (by kernel_rfl) rfl #[.slice none 0 0] rfl wm_ ?_; (refine (union_Union.calls _ _ ([] : List (List (S38))) t328 t331 _ ?side1 ?side2 ?side3 A40.out).mono ?_); (case side1 => exact A0_ (Tabs.below hT.out (wb_ HB.out))); (case side2 => exact Kd.C_nil _ _); (case side3 => exact Nat.le_refl _); rintro e w83 ⟨v329, rfl, ho0, hb⟩; refine ⟨_, rfl, ?_⟩; have n0_ := A0_ (Vb_ (wV_ HO_0.out) hb); have n1_ := A0_ (Vb_ (wV_ HO_1.out) hb); have n2_ := A0_ (Vb_ (wV_ HO_2.out) hb); have n3_ := A0_ (Kd.N_below (wN_ HO281.out) hb); have n4_ := A0_ (Vb_ (wV_ HO284.out) hb); have n5_ := A0_ (Kd.N_below (wN_ HO288.out) hb); have n6_ := A0_ (Vb_ (wV_ HO291.out) hb); have n7_ := A0_ (Kd.N_below (wN_ HO295.out) hb); have n8_ := A0_ (Vb_ (wV_ HO298.out) hb); have n9_ := A0_ (Kd.N_below (wN_ HO302.out) hb); have n10_ := A0_ (Vb_ (wV_ HO305.out) hb); have n11_ := A0_ (Kd.N_below (wN_ HO309.out) hb); have n12_ := A0_ (Vb_ (wV_ HO312.out) hb); have n13_ := A0_ (Kd.N_below (wN_ HO316.out) hb); have n14_ := A0_ (Vb_ (wV_ HO319.out) hb); have n15_ := A0_ (Kd.N_below (wN_ HO323.out) hb); have n16_ := A0_ (Vb_ (wV_ HO326.out) hb); have n17_ := A0_ (Kd.V_lower (Kd.V_mono (ok' := fun k_ => ((P0_ k_ ∨ P1_ k_ ∨ P2_ k_) ∨ w.heap.size ≤ k_) ∧ some k_ ≠ (.slice Ao55 y279.length co55 : Value).ownBlock ∧ some k_ ≠ (.slice Ao59 y286.length co59 : Value).ownBlock ∧ some k_ ≠ (.slice Ao64 y293.length co64 : Value).ownBlock ∧ some k_ ≠ (.slice Ao68 y300.length co68 : Value).ownBlock ∧ some k_ ≠ (.slice Ao73 y307.length co73 : Value).ownBlock ∧ some k_ ≠ (.slice Ao77 y314.length co77 : Value).ownBlock ∧ some k_ ≠ (.slice Ao81 y321.length co81 : Value).ownBlock) ho0 (fun k_ hk_ => ⟨(.inr (Nat.le_trans (below_size (wb_ HB.out)) hk_)), (Kd.fresh' (Kd.N_lt (wN_ HO281.out)) k_ hk_), (Kd.fresh' (Kd.N_lt (wN_ HO288.out)) k_ hk_), (Kd.fresh' (Kd.N_lt (wN_ HO295.out)) k_ hk_), (Kd.fresh' (Kd.N_lt (wN_ HO302.out)) k_ hk_), (Kd.fresh' (Kd.N_lt (wN_ HO309.out)) k_ hk_), (Kd.fresh' (Kd.N_lt (wN_ HO316.out)) k_ hk_), (Kd.fresh' (Kd.N_lt (wN_ HO323.out)) k_ hk_)⟩)) (below_size (wb_ HB.out))); have n18_ := A0_ (below_step (wb_ HB.out) hb); clear HO_0; clear HO_1; clear HO_2; clear HO281; clear HO284; clear HO288; clear HO291; clear HO295; clear HO298; clear HO302; clear HO305; clear HO309; clear HO312; clear HO316; clear HO319; clear HO323; clear HO326; clear HB; have HO_0 := n0_; have HO_1 := n1_; have HO_2 := n2_; have HO281 := n3_; have HO284 := n4_; have HO288 := n5_; have HO291 := n6_; have HO295 := n7_; have HO298 := n8_; have HO302 := n9_; have HO305 := n10_; have HO309 := n11_; have HO312 := n12_; have HO316 := n13_; have HO319 := n14_; have HO323 := n15_; have HO326 := n16_; have HO330 := n17_; have HB := n18_; clear n0_ n1_ n2_ n3_ n4_ n5_ n6_ n7_ n8_ n9_ n10_ n11_ n12_ n13_ n14_ n15_ n16_ n17_ n18_; (try clear hb); (try clear hb2); (try clear hk); (try clear hi); (try clear ho0)) | ((with_reducible refine gate_callee (f := 22) rfl ?_); refine goesL_ (some 94) rfl rfl Tryd.func22 (by kernel_rfl) rfl #[] rfl wm_ ?_; (with_reducible refine (bindlelaw19_answers.calls  true _ ?side1 A41.out).mono ?_); (case side1 => exact A0_ (Tabs.below hT.out (wb_ HB.out))); rintro e w84 ⟨rfl, hb⟩; refine ⟨_, rfl, ?_⟩; have n0_ := A0_ (Vb_ (wV_ HO_0.out) hb); have n1_ := A0_ (Vb_ (wV_ HO_1.out) hb); have n2_ := A0_ (Vb_ (wV_ HO_2.out) hb); have n3_ := A0_ (Kd.N_below (wN_ HO281.out) hb); have n4_ := A0_ (Vb_ (wV_ HO284.out) hb); have n5_ := A0_ (Kd.N_below (wN_ HO288.out) hb); have n6_ := A0_ (Vb_ (wV_ HO291.out) hb); have n7_ := A0_ (Kd.N_below (wN_ HO295.out) hb); have n8_ := A0_ (Vb_ (wV_ HO298.out) hb); have n9_ := A0_ (Kd.N_below (wN_ HO302.out) hb); have n10_ := A0_ (Vb_ (wV_ HO305.out) hb); have n11_ := A0_ (Kd.N_below (wN_ HO309.out) hb); have n12_ := A0_ (Vb_ (wV_ HO312.out) hb); have n13_ := A0_ (Kd.N_below (wN_ HO316.out) hb); have n14_ := A0_ (Vb_ (wV_ HO319.out) hb); have n15_ := A0_ (Kd.N_below (wN_ HO323.out) hb); have n16_ := A0_ (Vb_ (wV_ HO326.out) hb); have n17_ := A0_ (Vb_ (wV_ HO330.out) hb); have n18_ := A0_ (below_step (wb_ HB.out) hb); clear HO_0; clear HO_1; clear HO_2; clear HO281; clear HO284; clear HO288; clear HO291; clear HO295; clear HO298; clear HO302; clear HO305; clear HO309; clear HO312; clear HO316; clear HO319; clear HO323; clear HO326; clear HO330; clear HB; have HO_0 := n0_; have HO_1 := n1_; have HO_2 := n2_; have HO281 := n3_; have HO284 := n4_; have HO288 := n5_; have HO291 := n6_; have HO295 := n7_; have HO298 := n8_; have HO302 := n9_; have HO305 := n10_; have HO309 := n11_; have HO312 := n12_; have HO316 := n13_; have HO319 := n14_; have HO323 := n15_; have HO326 := n16_; have HO330 := n17_; have HB := n18_; clear n0_ n1_ n2_ n3_ n4_ n5_ n6_ n7_ n8_ n9_ n10_ n11_ n12_ n13_ n14_ n15_ n16_ n17_ n18_; (try clear hb); (try clear hb2); (try clear hk); (try clear hi); obtain ⟨Ao85, co85, eo85⟩ := Kd.V_slice HO284.out; subst eo85; obtain ⟨Ao86, co86, eo86⟩ := Kd.V_slice HO298.out; subst eo86) | (go_at_call 25; (with_reducible refine (bindleref08_SameTree.calls kj3 _ _ t282 _ _ t296 true _ ?side1 ?side2 ?side3 ?side4 A43.out).mono ?_); (case side1 => exact wc_ (Kd.V_reads' HO284.out).2.2); (case side2 => exact (Kd.V_reads' HO284.out).2.1); (case side3 => exact wc_ (Kd.V_reads' HO298.out).2.2); (case side4 => exact (Kd.V_reads' HO298.out).2.1); rintro e w87 ⟨rfl, hb⟩; have n0_ := A0_ (Vb_ (wV_ HO_0.out) hb); have n1_ := A0_ (Vb_ (wV_ HO_1.out) hb); have n2_ := A0_ (Vb_ (wV_ HO_2.out) hb); have n3_ := A0_ (Kd.N_below (wN_ HO281.out) hb); have n4_ := A0_ (Vb_ (wV_ HO284.out) hb); have n5_ := A0_ (Kd.N_below (wN_ HO288.out) hb); have n6_ := A0_ (Vb_ (wV_ HO291.out) hb); have n7_ := A0_ (Kd.N_below (wN_ HO295.out) hb); have n8_ := A0_ (Vb_ (wV_ HO298.out) hb); have n9_ := A0_ (Kd.N_below (wN_ HO302.out) hb); have n10_ := A0_ (Vb_ (wV_ HO305.out) hb); have n11_ := A0_ (Kd.N_below (wN_ HO309.out) hb); have n12_ := A0_ (Vb_ (wV_ HO312.out) hb); have n13_ := A0_ (Kd.N_below (wN_ HO316.out) hb); have n14_ := A0_ (Vb_ (wV_ HO319.out) hb); have n15_ := A0_ (Kd.N_below (wN_ HO323.out) hb); have n16_ := A0_ (Vb_ (wV_ HO326.out) hb); have n17_ := A0_ (Vb_ (wV_ HO330.out) hb); have n18_ := A0_ (below_step (wb_ HB.out) hb); clear HO_0; clear HO_1; clear HO_2; clear HO281; clear HO284; clear HO288; clear HO291; clear HO295; clear HO298; clear HO302; clear HO305; clear HO309; clear HO312; clear HO316; clear HO319; clear HO323; clear HO326; clear HO330; clear HB; have HO_0 := n0_; have HO_1 := n1_; have HO_2 := n2_; have HO281 := n3_; have HO284 := n4_; have HO288 := n5_; have HO291 := n6_; have HO295 := n7_; have HO298 := n8_; have HO302 := n9_; have HO305 := n10_; have HO309 := n11_; have HO312 := n12_; have HO316 := n13_; have HO319 := n14_; have HO323 := n15_; have HO326 := n16_; have HO330 := n17_; have HB := n18_; clear n0_ n1_ n2_ n3_ n4_ n5_ n6_ n7_ n8_ n9_ n10_ n11_ n12_ n13_ n14_ n15_ n16_ n17_ n18_; (try clear hb); (try clear hb2); (try clear hk); (try clear hi); obtain ⟨Ao88, co88, eo88⟩ := Kd.V_slice HO312.out; subst eo88) | (go_at_call 25; (with_reducible refine (bindleref08_SameTree.calls kj3 _ _ t282 _ _ t310 true _ ?side1 ?side2 ?side3 ?side4 A45.out).mono ?_); (case side1 => exact wc_ (Kd.V_reads' HO284.out).2.2); (case side2 => exact (Kd.V_reads' HO284.out).2.1); (case side3 => exact wc_ (Kd.V_reads' HO312.out).2.2); (case side4 => exact (Kd.V_reads' HO312.out).2.1); rintro e w89 ⟨rfl, hb⟩; have n0_ := A0_ (Vb_ (wV_ HO_0.out) hb); have n1_ := A0_ (Vb_ (wV_ HO_1.out) hb); have n2_ := A0_ (Vb_ (wV_ HO_2.out) hb); have n3_ := A0_ (Kd.N_below (wN_ HO281.out) hb); have n4_ := A0_ (Vb_ (wV_ HO284.out) hb); have n5_ := A0_ (Kd.N_below (wN_ HO288.out) hb); have n6_ := A0_ (Vb_ (wV_ HO291.out) hb); have n7_ := A0_ (Kd.N_below (wN_ HO295.out) hb); have n8_ := A0_ (Vb_ (wV_ HO298.out) hb); have n9_ := A0_ (Kd.N_below (wN_ HO302.out) hb); have n10_ := A0_ (Vb_ (wV_ HO305.out) hb); have n11_ := A0_ (Kd.N_below (wN_ HO309.out) hb); have n12_ := A0_ (Vb_ (wV_ HO312.out) hb); have n13_ := A0_ (Kd.N_below (wN_ HO316.out) hb); have n14_ := A0_ (Vb_ (wV_ HO319.out) hb); have n15_ := A0_ (Kd.N_below (wN_ HO323.out) hb); have n16_ := A0_ (Vb_ (wV_ HO326.out) hb); have n17_ := A0_ (Vb_ (wV_ HO330.out) hb); have n18_ := A0_ (below_step (wb_ HB.out) hb); clear HO_0; clear HO_1; clear HO_2; clear HO281; clear HO284; clear HO288; clear HO291; clear HO295; clear HO298; clear HO302; clear HO305; clear HO309; clear HO312; clear HO316; clear HO319; clear HO323; clear HO326; clear HO330; clear HB; have HO_0 := n0_; have HO_1 := n1_; have HO_2 := n2_; have HO281 := n3_; have HO284 := n4_; have HO288 := n5_; have HO291 := n6_; have HO295 := n7_; have HO298 := n8_; have HO302 := n9_; have HO305 := n10_; have HO309 := n11_; have HO312 := n12_; have HO316 := n13_; have HO319 := n14_; have HO323 := n15_; have HO326 := n16_; have HO330 := n17_; have HB := n18_; clear n0_ n1_ n2_ n3_ n4_ n5_ n6_ n7_ n8_ n9_ n10_ n11_ n12_ n13_ n14_ n15_ n16_ n17_ n18_; (try clear hb); (try clear hb2); (try clear hk); (try clear hi); obtain ⟨Ao90, co90, eo90⟩ := Kd.V_slice HO319.out; subst eo90) | (go_at_call 25; (with_reducible refine (bindleref08_SameTree.calls kj3 _ _ t317 _ _ l0 true _ ?side1 ?side2 ?side3 ?side4 A47.out).mono ?_); (case side1 => exact wc_ (Kd.V_reads' HO319.out).2.2); (case side2 => exact (Kd.V_reads' HO319.out).2.1); (case side3 => exact wc_ (Kd.V_reads' HO_0.out).2.2); (case side4 => exact (Kd.V_reads' HO_0.out).2.1); rintro e w91 ⟨rfl, hb⟩; have n0_ := A0_ (Vb_ (wV_ HO_0.out) hb); have n1_ := A0_ (Vb_ (wV_ HO_1.out) hb); have n2_ := A0_ (Vb_ (wV_ HO_2.out) hb); have n3_ := A0_ (Kd.N_below (wN_ HO281.out) hb); have n4_ := A0_ (Vb_ (wV_ HO284.out) hb); have n5_ := A0_ (Kd.N_below (wN_ HO288.out) hb); have n6_ := A0_ (Vb_ (wV_ HO291.out) hb); have n7_ := A0_ (Kd.N_below (wN_ HO295.out) hb); have n8_ := A0_ (Vb_ (wV_ HO298.out) hb); have n9_ := A0_ (Kd.N_below (wN_ HO302.out) hb); have n10_ := A0_ (Vb_ (wV_ HO305.out) hb); have n11_ := A0_ (Kd.N_below (wN_ HO309.out) hb); have n12_ := A0_ (Vb_ (wV_ HO312.out) hb); have n13_ := A0_ (Kd.N_below (wN_ HO316.out) hb); have n14_ := A0_ (Vb_ (wV_ HO319.out) hb); have n15_ := A0_ (Kd.N_below (wN_ HO323.out) hb); have n16_ := A0_ (Vb_ (wV_ HO326.out) hb); have n17_ := A0_ (Vb_ (wV_ HO330.out) hb); have n18_ := A0_ (below_step (wb_ HB.out) hb); clear HO_0; clear HO_1; clear HO_2; clear HO281; clear HO284; clear HO288; clear HO291; clear HO295; clear HO298; clear HO302; clear HO305; clear HO309; clear HO312; clear HO316; clear HO319; clear HO323; clear HO326; clear HO330; clear HB; have HO_0 := n0_; have HO_1 := n1_; have HO_2 := n2_; have HO281 := n3_; have HO284 := n4_; have HO288 := n5_; have HO291 := n6_; have HO295 := n7_; have HO298 := n8_; have HO302 := n9_; have HO305 := n10_; have HO309 := n11_; have HO312 := n12_; have HO316 := n13_; have HO319 := n14_; have HO323 := n15_; have HO326 := n16_; have HO330 := n17_; have HB := n18_; clear n0_ n1_ n2_ n3_ n4_ n5_ n6_ n7_ n8_ n9_ n10_ n11_ n12_ n13_ n14_ n15_ n16_ n17_ n18_; (try clear hb); (try clear hb2); (try clear hk); (try clear hi); obtain ⟨Ao92, co92, eo92⟩ := Kd.V_slice HO326.out; subst eo92) | (go_at_call 25; (with_reducible refine (bindleref08_SameTree.calls kj3 _ _ t324 _ _ l0 true _ ?side1 ?side2 ?side3 ?side4 A50.out).mono ?_); (case side1 => exact wc_ (Kd.V_reads' HO326.out).2.2); (case side2 => exact (Kd.V_reads' HO326.out).2.1); (case side3 => exact wc_ (Kd.V_reads' HO_0.out).2.2); (case side4 => exact (Kd.V_reads' HO_0.out).2.1); rintro e w93 ⟨rfl, hb⟩; have n0_ := A0_ (Vb_ (wV_ HO_0.out) hb); have n1_ := A0_ (Vb_ (wV_ HO_1.out) hb); have n2_ := A0_ (Vb_ (wV_ HO_2.out) hb); have n3_ := A0_ (Kd.N_below (wN_ HO281.out) hb); have n4_ := A0_ (Vb_ (wV_ HO284.out) hb); have n5_ := A0_ (Kd.N_below (wN_ HO288.out) hb); have n6_ := A0_ (Vb_ (wV_ HO291.out) hb); have n7_ := A0_ (Kd.N_below (wN_ HO295.out) hb); have n8_ := A0_ (Vb_ (wV_ HO298.out) hb); have n9_ := A0_ (Kd.N_below (wN_ HO302.out) hb); have n10_ := A0_ (Vb_ (wV_ HO305.out) hb); have n11_ := A0_ (Kd.N_below (wN_ HO309.out) hb); have n12_ := A0_ (Vb_ (wV_ HO312.out) hb); have n13_ := A0_ (Kd.N_below (wN_ HO316.out) hb); have n14_ := A0_ (Vb_ (wV_ HO319.out) hb); have n15_ := A0_ (Kd.N_below (wN_ HO323.out) hb); have n16_ := A0_ (Vb_ (wV_ HO326.out) hb); have n17_ := A0_ (Vb_ (wV_ HO330.out) hb); have n18_ := A0_ (below_step (wb_ HB.out) hb); clear HO_0; clear HO_1; clear HO_2; clear HO281; clear HO284; clear HO288; clear HO291; clear HO295; clear HO298; clear HO302; clear HO305; clear HO309; clear HO312; clear HO316; clear HO319; clear HO323; clear HO326; clear HO330; clear HB; have HO_0 := n0_; have HO_1 := n1_; have HO_2 := n2_; have HO281 := n3_; have HO284 := n4_; have HO288 := n5_; have HO291 := n6_; have HO295 := n7_; have HO298 := n8_; have HO302 := n9_; have HO305 := n10_; have HO309 := n11_; have HO312 := n12_; have HO316 := n13_; have HO319 := n14_; have HO323 := n15_; have HO326 := n16_; have HO330 := n17_; have HB := n18_; clear n0_ n1_ n2_ n3_ n4_ n5_ n6_ n7_ n8_ n9_ n10_ n11_ n12_ n13_ n14_ n15_ n16_ n17_ n18_; (try clear hb); (try clear hb2); (try clear hk); (try clear hi); obtain ⟨Ao94, co94, eo94⟩ := Kd.V_slice HO330.out; subst eo94))
    go_ret
    exact ⟨we_, wb_ HB.out⟩
   rw [if_neg c52] at H
   have c52b0 : (t331 == 0) = false := beq_eq_false_iff_ne.mpr c52
   have c52b1 : (t331 != 0) = true := bne_iff_ne.mpr c52
   exact absurd ((Option.some.inj H).trans hTRUE_.out) (by decide)
end Go.Proofs.YtfmphccoeinhcaaDoor.Print

namespace Go.Proofs.YtfmphccoeinhcaaDoor
open Go.RowKit Go.Proofs.YtfmphccoeinhcaaDoor.Print Go.Proofs.YtfmphccoeinhcaaDoorW.PrintWords
set_option linter.unusedVariables false
theorem piles_small (ls : List (List Node)) (k : Nat) (hk : ∀ t ∈ ls, t.length ≤ k) (h : ls.length * k ≤ 4096) : (pilesFrom 0 [] ls).length ≤ 4096 := by
 have := pilesFrom_len ls k hk 0 []
 have e : ([] : PL).length = 0 := rfl
 omega
theorem groups_ans (a b c : List Node) : Ev (fun k => bindlelaw19_UnionGroups.j0 k a b c true) true :=
 Ev.step (f := fun _ => some true) (fun k => by rw [bindlelaw19_UnionGroups.j0, if_pos rfl, bindlelaw19_answers.val]; rfl) (Ev.now _)
theorem union_three {a b c : List Node} (ga : goodTree a = true) (gb : goodTree b = true) (gc : goodTree c = true) (la : a.length ≤ 1000) (lb : b.length ≤ 1000) (lc : c.length ≤ 1000) : (unionF [a, b, c]).2 = 0 ∧ FromT (unionF [a, b, c]).1 (joinS (joinS (srcT a) (srcT b)) (srcT c)) := by
 obtain ⟨h1, h2⟩ := union_from (ls := [a, b, c]) (mem3 (P := fun t => goodTree t = true) ga gb gc) (piles_small _ 1000 (mem3 (P := fun t => t.length ≤ 1000) la lb lc) (by simp))
 exact ⟨by rw [h1], fromT_of h2 (srcU_three a b c)⟩
theorem groups_main {a b c : List Node} (za : TreeZ a) (zb : TreeZ b) (zc : TreeZ c) (la : a.length ≤ 60) (lb : b.length ≤ 60) (lc : c.length ≤ 60) (ga : goodTree a = true) (gb : goodTree b = true) (gc : goodTree c = true) : Ev (fun k => bindlelaw19_UnionGroups.j0 k a b c false) true := by
 have hall := (union_three ga gb gc (by omega) (by omega) (by omega)).2
 have hx1 := (union_two ga gb (by omega)).2
 have lx1 : (unionF [a, b]).1.length ≤ 120 := by have := union_len [a, b] 60 (mem2 (P := fun t => t.length ≤ 60) la lb); simpa using this
 have hx := (union_two hx1.good gc (by omega)).2
 have hy1 := (union_two gb gc (by omega)).2
 have ly1 : (unionF [b, c]).1.length ≤ 120 := by have := union_len [b, c] 60 (mem2 (P := fun t => t.length ≤ 60) lb lc); simpa using this
 have hy := (union_two ga hy1.good (by omega)).2
 have hs := (union_two ga ga (by omega)).2
 obtain ⟨hn0, hn⟩ := union_three nil_good ga nil_good (by simp) (by omega) (by simp)
 have s1 : sameB (unionF [a, b, c]).1 (unionF [(unionF [a, b]).1, c]).1 = true := fromT_same hall hx (join_congr (fromT_src hx1).symm (srcSelf _))
 have s2 : sameB (unionF [a, b, c]).1 (unionF [a, (unionF [b, c]).1]).1 = true := fromT_same hall hy ((join_assoc _ _ _).trans (join_congr (srcSelf _) (fromT_src hy1).symm))
 have s3 : sameB (unionF [a, a]).1 a = true := fromT_same hs (fromT_self ga) (join_self _).symm
 have hno : ∀ p, srcT [] p = none := fun p => rfl
 have s4 : sameB (unionF [[], a, []]).1 a = true := fromT_same hn (fromT_self ga) ((join_none_left hno).trans (join_none_right hno)).symm
 have e5 : unionF [] = ([], 0) := by rfl
 have zx1 := union_z (mem2 za zb)
 have zy1 := union_z (mem2 zb zc)
 have zall := union_z (mem3 za zb zc)
 have zs := union_z (mem2 za za)
 have zn := union_z (mem3 nil_z za nil_z)
 refine Ev.step (f := fun k => (bindleref08_SameTree.f k (unionF [a, b, c]).1 (unionF [(unionF [a, b]).1, c]).1).bind fun t => _) (fun k => by rw [bindlelaw19_UnionGroups.j0, if_neg (by decide), uunion_f (by simp) (mem3 za zb zc), Option.bind_some, uunion_f (by simp) (mem2 za zb), Option.bind_some, uunion_f (by simp) (mem2 zx1 zc), Option.bind_some, uunion_f (by simp) (mem2 zb zc), Option.bind_some, uunion_f (by simp) (mem2 za zy1), Option.bind_some, uunion_f (by simp) (mem2 za za), Option.bind_some, uunion_f (by simp) (mem3 nil_z za nil_z), Option.bind_some, uunion_f (ls := []) (by simp) (fun t ht => by cases ht), Option.bind_some, bindlelaw19_answers.val, Option.bind_some, if_pos rfl]) ?_
 refine Ev.bind (usame_ev s1 zall) ?_
 refine Ev.congr (fun k => by rw [if_pos rfl]) ?_
 refine Ev.bind (usame_ev s2 zall) ?_
 refine Ev.congr (fun k => by rw [if_pos rfl]) ?_
 refine Ev.bind (usame_ev s3 zs) ?_
 refine Ev.congr (fun k => by rw [if_pos rfl, if_pos hn0]) ?_
 refine Ev.bind (usame_ev s4 zn) ?_
 refine Ev.congr (f := fun _ => some true) (fun k => ?_) (Ev.now true)
 rw [if_pos rfl, e5, if_pos rfl]
 rfl
theorem UnionGroups_true (a b c : List Node) (ha : ∀ x ∈ a, NodeZ x) (hb : ∀ x ∈ b, NodeZ x) (hc : ∀ x ∈ c, NodeZ x) : Ev (fun k => bindlelaw19_UnionGroups.f k a b c) true := by
 have hzs : ∀ t ∈ [a, b, c], ∀ x ∈ t, NodeZ x := mem3 (P := fun t => ∀ x ∈ t, NodeZ x) ha hb hc
 obtain ⟨r, h1, h2⟩ := light19_eq [a, b, c] hzs
 unfold bindlelaw19_UnionGroups.f
 refine Ev.bind h1 ?_
 cases r with
 | false => exact Ev.congr (fun k => by rw [if_neg (by decide)]) (groups_ans a b c)
 | true =>
  have hz := uokl_z (h2 rfl).1 hzs
  have za := hz a (by simp)
  have zb := hz b (by simp)
  have zc := hz c (by simp)
  refine Ev.congr (fun k => by rw [if_pos rfl, urgood_f za.1, Option.bind_some]) ?_
  cases ga : goodTree a with
  | false => exact Ev.congr (fun k => by rw [if_neg (by decide)]) (groups_ans a b c)
  | true =>
   refine Ev.congr (fun k => by rw [if_pos rfl, urgood_f zb.1, Option.bind_some]) ?_
   cases gb : goodTree b with
   | false => exact Ev.congr (fun k => by rw [if_neg (by decide)]) (groups_ans a b c)
   | true =>
    refine Ev.congr (fun k => by rw [if_pos rfl, urgood_f zc.1, Option.bind_some]) ?_
    cases gc : goodTree c with
    | false => exact groups_ans a b c
    | true => exact groups_main za.1 zb.1 zc.1 za.2 zb.2 zc.2 ga gb gc
end Go.Proofs.YtfmphccoeinhcaaDoor

namespace Go.Proofs.YtfmphccoeinhcaaDoor
open Go.RowKit Go.Lib Go.Proofs.YtfmphccoeinhcaaDoorW.PrintWords
theorem laidOut : laidOutB Tryd.prog = true := by kernel_rfl
end Go.Proofs.YtfmphccoeinhcaaDoor

namespace Go.Proofs.YtfmphccoeinhcaaDoor
open Go.ChangeShapes Go.WideShapes Go.RowKit Go.Proofs.YtfmphccoeinhcaaDoorW.PrintWords
structure Opens {α : Type} (P : Program) (d : Kd α) (t : TypeId) (B : α → Prop) : Prop where
 sz : P.cellsOf t = d.sz
 get : ∀ {H : Type} {enc : TypeId × Value → H} {W : World} {fuel : Nat} {cs : List Value} {x : DataW H × List MemPlace},
  DataW.trod enc P W 0 (fun _ => true) true fuel t cs = some x → (∀ n ∈ x.1.weights P t, n ≤ reachBytes) → ∃ a, d.K W a cs ∧ B a
theorem Opens.int {P : Program} {t : TypeId} {k : IntKind} (ht : P.underlying t = some (.int k)) (hc : P.cellsOf t = 1) : Opens P (Kd.int k) t (fun n => (Lit.int k n).wf = true) :=
 ⟨hc, fun h _ => by
  obtain ⟨n, rfl, rfl, hw⟩ := DataW.trod_int ht h
  exact ⟨n, rfl, hw⟩⟩
theorem Opens.bool {P : Program} {t : TypeId} (ht : P.underlying t = some .bool) (hc : P.cellsOf t = 1) : Opens P Kd.bool t (fun _ => True) :=
 ⟨hc, fun h _ => by
  obtain ⟨n, rfl, rfl⟩ := DataW.trod_bool ht h
  exact ⟨n, rfl, trivial⟩⟩
theorem Opens.string {P : Program} {t : TypeId} (ht : P.underlying t = some .string) (hc : P.cellsOf t = 1) : Opens P Kd.string t (fun s => s.size ≤ 140737488351232) :=
 ⟨hc, fun h hw => by
  obtain ⟨s, rfl, rfl, _⟩ := DataW.trod_string ht h
  refine ⟨s, rfl, ?_⟩
  have := hw s.data.toList.length (by simp [DataW.weights])
  have e : s.data.toList.length = s.size := by simp
  rw [e] at this
  exact this⟩
theorem each_list {α : Type} {Q : Nat → α → Prop} : ∀ n : Nat, (∀ i, i < n → ∃ x, Q i x) → ∃ xs : List α, xs.length = n ∧ ∀ i x, xs[i]? = some x → Q i x := by
 intro n
 induction n with
 | zero => exact fun _ => ⟨[], rfl, fun i x h => by simp at h⟩
 | succ n ih =>
  intro h
  obtain ⟨xs, hl, hx⟩ := ih (fun i hi => h i (by omega))
  obtain ⟨y, hy⟩ := h n (by omega)
  refine ⟨xs ++ [y], by simp [hl], fun i x hi => ?_⟩
  rcases Nat.lt_or_ge i n with h1 | h1
  ·rw [List.getElem?_append_left (by omega)] at hi
   exact hx i x hi
  ·rw [List.getElem?_append_right (by omega)] at hi
   have h0 : i - xs.length = 0 := by
    have := (List.getElem?_eq_some_iff.1 hi).1
    simp at this
    omega
   rw [h0] at hi
   simp at hi
   subst hi
   obtain rfl : i = n := by omega
   exact hy
theorem weights_all {H : Type} {P : Program} {e : TypeId} : ∀ {l : List (DataW H)} {y : DataW H}, y ∈ l → ∀ n ∈ y.weights P e, n ∈ DataW.weightsAll P e l
 | z :: r, y, hy, n, hn => by
  simp only [DataW.weightsAll, List.mem_append]
  rcases List.mem_cons.1 hy with rfl | hy
  ·exact .inl hn
  ·exact .inr (weights_all hy n hn)
theorem add_add (a : Addr) (x y : Nat) : (a.add x).add y = a.add (x + y) := by
 unfold Addr.add
 split
 ·rename_i h
  subst h
  simp
 ·rename_i h
  split
  ·rename_i h2
   subst h2
   simp [h]
  ·rw [if_neg (by omega)]
   simp [Nat.add_assoc]
theorem Opens.slice {α : Type} {P : Program} {d : Kd α} {B : α → Prop} {t e : TypeId} (ht : P.underlying t = some (.slice e)) (hc : P.cellsOf t = 1) (h : Opens P d e B) :
  Opens P (Kd.slice e d) t (fun xs => xs.length * P.bytesOf e ≤ 140737488351232 ∧ ∀ x ∈ xs, B x) :=
 ⟨hc, fun {H enc W fuel cs x} hf hw => by
  rcases DataW.trod_slice ht hf with ⟨rfl, rfl⟩ | ⟨a, len, cap, elems, rest, n, _, rfl, rfl, hb, hl, hm, hlen, hel, hsp, hns⟩
  ·exact ⟨[], ⟨none, 0, rfl, Nat.le_refl _, Kd.C_nil d W⟩, by simp, fun x hx => by cases hx⟩
  ·simp only [DataW.weights, ht] at hw
   have each : ∀ i, i < len → ∃ z : α, B z ∧ ∃ c, c.length = d.sz ∧ d.K W z c ∧ ∀ j u, c[j]? = some u → W.cell? (a.add (i * d.sz + j)) = some u := by
    intro i hi
    have h1 := hel i hi
    have hi' : i < elems.length := by omega
    rw [List.getElem?_eq_getElem hi', Option.bind_eq_some_iff] at h1
    obtain ⟨c, hcs, hy⟩ := h1
    obtain ⟨-, h2, h3⟩ := World.cells?_some hcs
    obtain ⟨z, hz, hB⟩ := h.get hy (fun n hn => hw n (by
     simp only [List.mem_cons, List.mem_append]
     exact .inr (.inl (weights_all (List.mem_map.2 ⟨_, List.getElem_mem hi', rfl⟩) n hn))))
    refine ⟨z, hB, c, by rw [h2, h.sz], hz, fun j u hj => ?_⟩
    have hj' : j < P.cellsOf e := by
     have := (List.getElem?_eq_some_iff.1 hj).1
     omega
    have h4 := h3 j hj'
    rw [add_add, h.sz] at h4
    rw [h4, hj]
   obtain ⟨xs, hxl, hxs⟩ := each_list len each
   subst hxl
   have hz := hw _ (List.mem_cons_self ..)
   simp only [List.length_map] at hz
   have h5 : xs.length * P.bytesOf e ≤ (elems.length + rest.length) * P.bytesOf e := Nat.mul_le_mul_right _ (by omega)
   have h6 : reachBytes = 140737488351232 := rfl
   refine ⟨xs, ⟨some a, cap, rfl, hl, rfl, ?_, fun _ => ⟨a, rfl, fun j p hj => (hxs j p hj).2⟩⟩, by omega, fun x hx => ?_⟩
   ·have : maxLen = 9223372036854775807 := rfl
    omega
   ·obtain ⟨i, hi⟩ := List.getElem?_of_mem hx
    exact (hxs i x hi).1⟩
structure OpensF {α : Type} (P : Program) (d : Kd α) (fs : List Field) (o : Nat) (B : α → Prop) : Prop where
 get : ∀ {H : Type} {enc : TypeId × Value → H} {W : World} {n : Nat} {cs : List Value} {xs : List (DataW H × List MemPlace)}, xs.length = fs.length →
  (∀ (i : Nat) (f : Field), fs[i]? = some f → DataW.trod enc P W 0 (fun _ => true) true n f.type ((cs.drop f.offset).take (P.cellsOf f.type)) = xs[i]?) →
  (∀ m ∈ DataW.weightsEach P (fs.map (·.type)) (xs.map (·.1)), m ≤ reachBytes) → ∃ a, d.K W a ((cs.drop o).take d.sz) ∧ B a
theorem OpensF.one {α : Type} {P : Program} {d : Kd α} {B : α → Prop} {f : Field} {o : Nat} (ho : f.offset = o) (h : Opens P d f.type B) : OpensF P d [f] o B := by
 refine ⟨fun {H enc W n cs xs} hl hx hw => ?_⟩
 match xs, hl with
 | [x], _ =>
  have h0 := hx 0 f rfl
  rw [h.sz, ho] at h0
  simp only [List.getElem?_cons_zero] at h0
  exact h.get h0 (fun m hm => hw m (by simp only [List.map_cons, List.map_nil, DataW.weightsEach, List.mem_append]; exact .inl hm))
theorem OpensF.cons {α β : Type} {P : Program} {d : Kd α} {d' : Kd β} {B : α → Prop} {B' : β → Prop} {f : Field} {fs : List Field} {o : Nat} (ho : f.offset = o) (h : Opens P d f.type B) (h' : OpensF P d' fs (o + d.sz) B') :
  OpensF P (Kd.pair d d') (f :: fs) o (fun x => B x.1 ∧ B' x.2) := by
 refine ⟨fun {H enc W n cs xs} hl hx hw => ?_⟩
 match xs, hl with
 | x :: xs, hl =>
  have h0 := hx 0 f rfl
  rw [h.sz, ho] at h0
  simp only [List.getElem?_cons_zero] at h0
  obtain ⟨a, ha, hB⟩ := h.get h0 (fun m hm => hw m (by simp only [List.map_cons, DataW.weightsEach, List.mem_append]; exact .inl hm))
  obtain ⟨b, hb, hB'⟩ := h'.get (enc := enc) (W := W) (n := n) (cs := cs) (xs := xs) (by simpa using hl) (fun i g hg => by have := hx (i + 1) g (by simpa using hg); simpa using this)
   (fun m hm => hw m (by simp only [List.map_cons, DataW.weightsEach, List.mem_append]; exact .inr hm))
  refine ⟨(a, b), ⟨_, _, ?_, ha, hb⟩, hB, hB'⟩
  show (cs.drop o).take (d.sz + d'.sz) = _
  rw [List.take_add, List.drop_drop]
theorem Opens.struct {α β : Type} {P : Program} {d : Kd α} {B : α → Prop} {t : TypeId} {fs : Array Field} (ht : P.underlying t = some (.struct fs)) (hc : P.cellsOf t = d.sz) (h : OpensF P d fs.toList 0 B) (f : β → α) (g : α → β) (hg : ∀ a, f (g a) = a) :
  Opens P (Kd.iso d f) t (fun x => B (f x)) :=
 ⟨hc, fun {H enc W fuel cs x} hf hw => by
  obtain ⟨xs, n, _, rfl, hl, hlen, hx⟩ := DataW.trod_struct ht hf
  simp only [DataW.weights, ht] at hw
  obtain ⟨a, ha, hB⟩ := h.get (enc := enc) (W := W) (n := n) (cs := cs) (xs := xs) (by simpa using hlen) (fun i g hg => hx i g (by simpa using hg)) hw
  refine ⟨g a, ?_, by rw [hg]; exact hB⟩
  show d.K W (f (g a)) cs
  rw [hg]
  rw [List.drop_zero, List.take_of_length_le (by omega)] at ha
  exact ha⟩
theorem Opens.imp {α : Type} {P : Program} {d : Kd α} {t : TypeId} {B B' : α → Prop} (h : Opens P d t B) (hB : ∀ a, B a → B' a) : Opens P d t B' :=
 ⟨h.sz, fun hf hw => by obtain ⟨a, ha, hb⟩ := h.get hf hw; exact ⟨a, ha, hB a hb⟩⟩
theorem Opens.param {α : Type} {P : Program} {d : Kd α} {t : TypeId} {B : α → Prop} (h : Opens P d t B) {H : Type} {enc : TypeId × Value → H} {W : World} {v : Value} {x : DataW H} {p : List MemPlace} {ts : List TypeId} {ds : List (DataW H)} {j : Nat}
  (hsz : (DataW.weightsEach P ts ds).all (· ≤ reachBytes) = true) (hj : ts[j]? = some t) (hd : ds[j]? = some x) (ht : DataW.Trod enc P W 0 (fun _ => true) true t v x p) : ∃ a, d.K W a v.cells.toList ∧ B a := by
 obtain ⟨fuel, hf⟩ := ht
 exact h.get hf (fun n hn => by simpa using List.all_eq_true.1 hsz _ (DataW.weights_mem_each hj hd n hn))
theorem Opens.row {α : Type} {P : Program} {d : Kd α} {t e : TypeId} {B : List α → Prop} (h : Opens P (Kd.slice e d) t B) {H : Type} {enc : TypeId × Value → H} {W : World} {A : Option Addr} {n c : Nat} {x : DataW H} {p : List MemPlace} {ts : List TypeId} {ds : List (DataW H)} {j : Nat}
  (hsz : (DataW.weightsEach P ts ds).all (· ≤ reachBytes) = true) (hj : ts[j]? = some t) (hd : ds[j]? = some x) (ht : DataW.Trod enc P W 0 (fun _ => true) true t (.slice A n c) x p) :
  ∃ xs : List α, xs.length = n ∧ d.C W A n xs ∧ n ≤ c ∧ B xs := by
 obtain ⟨xs, ⟨A', c', he, hl, hC⟩, hB⟩ := h.param hsz hj hd ht
 simp [Value.cells] at he
 obtain ⟨rfl, rfl, rfl⟩ := he
 exact ⟨xs, rfl, hC, hl, hB⟩
end Go.Proofs.YtfmphccoeinhcaaDoor

namespace Go.Proofs.YtfmphccoeinhcaaDoor
open Go.RowKit Go.Proofs.YtfmphccoeinhcaaDoor.Print Go.Proofs.YtfmphccoeinhcaaDoorW.PrintWords
theorem o_str : Opens Tryd.prog Kd.string 9 (fun s => s.size ≤ 140737488351232) := Opens.string Tryd.underlying9 (by kernel_rfl)
theorem o_u8 : Opens Tryd.prog (Kd.int .u8) 5 (fun n => (Lit.int .u8 n).wf = true) := Opens.int Tryd.underlying5 (by kernel_rfl)
theorem o_int : Opens Tryd.prog (Kd.int .i64) 3 (fun n => (Lit.int .i64 n).wf = true) := Opens.int Tryd.underlying3 (by kernel_rfl)
theorem o_bytes : Opens Tryd.prog (Kd.slice 5 (Kd.int .u8)) 25 (fun xs => xs.length ≤ 140737488351232) :=
 (Opens.slice Tryd.underlying25 (by kernel_rfl) o_u8).imp (fun xs h => by
  have hb : Tryd.prog.bytesOf 5 = 1 := by kernel_rfl
  have h1 := h.1
  rw [hb] at h1
  omega)
theorem o_meta : Opens Tryd.prog k24 24 (fun _ => True) := by
 have h := Opens.struct Tryd.underlying24 (by kernel_rfl) (OpensF.cons rfl o_int (OpensF.cons rfl o_int (OpensF.cons rfl o_int (OpensF.one rfl o_int)))) (fun x : S24 => (x.f0, x.f1, x.f2, x.f3)) (fun p => ⟨p.1, p.2.1, p.2.2.1, p.2.2.2⟩) (fun _ => rfl)
 exact Opens.imp h (fun _ _ => trivial)
theorem o_node : Opens Tryd.prog k38 38 NodeZ := by
 have h := Opens.struct Tryd.underlying38 (by kernel_rfl) (OpensF.cons rfl o_str (OpensF.cons rfl o_str (OpensF.cons rfl o_str (OpensF.cons rfl o_u8 (OpensF.cons rfl o_meta (OpensF.one rfl o_bytes)))))) (fun x : S38 => (x.f0, x.f1, x.f2, x.f3, x.f4, x.f5)) (fun p => ⟨p.1, p.2.1, p.2.2.1, p.2.2.2.1, p.2.2.2.2.1, p.2.2.2.2.2⟩) (fun _ => rfl)
 exact Opens.imp h (fun _ hx => ⟨hx.1, hx.2.1, hx.2.2.1, hx.2.2.2.2.2⟩)
theorem o_nodes : Opens Tryd.prog (Kd.slice 38 k38) 31 (fun xs => (∀ x ∈ xs, NodeZ x) ∧ xs.length ≤ 140737488351232) :=
 (Opens.slice Tryd.underlying31 (by kernel_rfl) o_node).imp (fun xs h => ⟨h.2, by
  have hb : Tryd.prog.bytesOf 38 = 112 := by kernel_rfl
  have h1 := h.1
  rw [hb] at h1
  omega⟩)
end Go.Proofs.YtfmphccoeinhcaaDoor
