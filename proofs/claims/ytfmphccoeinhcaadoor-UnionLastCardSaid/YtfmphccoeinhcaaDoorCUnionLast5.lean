/-
  Part of the proof that UnionLast answers true: texts put together (wip/bundle.py).
-/
import Derived.Test.YtfmphccoeinhcaaDoorCUnionLast4
namespace Go.Proofs.YtfmphccoeinhcaaDoor.Print
open Go.RowKit Go.Proofs.YtfmphccoeinhcaaDoorW.PrintWords Go.Proofs.YtfmphccoeinhcaaDoorW.PrintLast Go.Proofs.YtfmphccoeinhcaaDoorW.PrintMore
attribute [local go_sem] max2_int min2_int max_two min_two max_three min_three max_four min_four   -- for this text's walks alone
set_option linter.unusedVariables false
set_option linter.unusedSimpArgs false
attribute [local go_sem high] eqA24
def bindleref08_Equal.f (a0_0 : ByteArray) (a0_1 : ByteArray) (a0_2 : ByteArray) (a0_3 : Int) (a0_4 : Int) (a0_5 : Int) (a0_6 : Int) (a0_7 : Int) (l0_8 : List Int) (a1_0 : ByteArray) (a1_1 : ByteArray) (a1_2 : ByteArray) (a1_3 : Int) (a1_4 : Int) (a1_5 : Int) (a1_6 : Int) (a1_7 : Int) (l1_8 : List Int) : Option (Bool) := if a0_0.toList = a1_0.toList then (if a0_3 = a1_3 then (if (a0_4 == a1_4 && (a0_5 == a1_5 && (a0_6 == a1_6 && (a0_7 == a1_7)))) = true then (if a0_1.toList = a1_1.toList then (some ((strOfNums l0_8).toList == (strOfNums l1_8).toList)) else (some false)) else (some false)) else (some false)) else (some false)
set_option maxHeartbeats 8000000 in
set_option maxRecDepth 100000 in
theorem bindleref08_Equal.calls (a0_0 : ByteArray) (a0_1 : ByteArray) (a0_2 : ByteArray) (a0_3 : Int) (a0_4 : Int) (a0_5 : Int) (a0_6 : Int) (a0_7 : Int) (A0_8 : Option Addr) (c0_8 : Nat) (l0_8 : List Int) (a1_0 : ByteArray) (a1_1 : ByteArray) (a1_2 : ByteArray) (a1_3 : Int) (a1_4 : Int) (a1_5 : Int) (a1_6 : Int) (a1_7 : Int) (A1_8 : Option Addr) (c1_8 : Nat) (l1_8 : List Int) (r : Bool) (w : World) (hr0_8 : Kd.C (Kd.int .u8) w A0_8 l0_8.length l0_8) (hc0_8 : l0_8.length ≤ c0_8) (hr1_8 : Kd.C (Kd.int .u8) w A1_8 l1_8.length l1_8) (hc1_8 : l1_8.length ≤ c1_8) (h : bindleref08_Equal.f a0_0 a0_1 a0_2 a0_3 a0_4 a0_5 a0_6 a0_7 l0_8 a1_0 a1_1 a1_2 a1_3 a1_4 a1_5 a1_6 a1_7 l1_8 = some r) :
  Calls Tryd.prog 20 #[.agg #[.string a0_0, .string a0_1, .string a0_2, .int .u8 a0_3, .int .i64 a0_4, .int .i64 a0_5, .int .i64 a0_6, .int .i64 a0_7, .slice A0_8 l0_8.length c0_8], .agg #[.string a1_0, .string a1_1, .string a1_2, .int .u8 a1_3, .int .i64 a1_4, .int .i64 a1_5, .int .i64 a1_6, .int .i64 a1_7, .slice A1_8 l1_8.length c1_8]] w fun e w' => e = .returned (.bool r) ∧ Below w.heap.size w w' := by
 have hu38 := Tryd.underlying38
 have hu24 := Tryd.underlying24
 have HR0_8 := A0_ hr0_8
 have HC0_8 := A0_ hc0_8
 clear hr0_8 hc0_8
 have HR1_8 := A0_ hr1_8
 have HC1_8 := A0_ hc1_8
 clear hr1_8 hc1_8
 have HB := A0_ (Below.refl w.heap.size w)
 have H : (if a0_0.toList = a1_0.toList then (if a0_3 = a1_3 then (if (a0_4 == a1_4 && (a0_5 == a1_5 && (a0_6 == a1_6 && (a0_7 == a1_7)))) = true then (if a0_1.toList = a1_1.toList then (some ((strOfNums l0_8).toList == (strOfNums l1_8).toList)) else (some false)) else (some false)) else (some false)) else (some false)) = some r := h
 clear h
 by_cases c3 : a0_0.toList = a1_0.toList
 rotate_left
 ·rw [if_neg c3] at H
  have c3b0 : (a0_0.toList == a1_0.toList) = false := beq_eq_false_iff_ne.mpr c3
  have c3b1 : (a0_0.toList != a1_0.toList) = true := bne_iff_ne.mpr c3
  obtain rfl := Option.some.inj H
  go_enter Tryd.func20, Tryd.ntmps20
  go_wp2_with (first | ((with_reducible refine gate_dst (N := 2) rfl ?_); refine box_event ?hg (N := 2) ?hd (cs := #[.string a0_0, .string a0_1, .string a0_2, .int .u8 a0_3, .int .i64 a0_4, .int .i64 a0_5, .int .i64 a0_6, .int .i64 a0_7, .slice A0_8 l0_8.length c0_8]) (t := 38) ?hr ?_; (case hd => rfl); (case hg => rfl); (case hr => first | (go_simp; done) | (go_simp; rfl)); intro gb118 hg w29 hbox hb; have n0_ := A0_ (below_step (wb_ HB.out) hb); have n1_ := A0_ (hbox); have n2_ := A0_ ((by rw [hg]; exact (below_size (wb_ HB.out)) : w.heap.size ≤ gb118)); have n3_ := A0_ ((by rw [hg]; exact (below_size (wb_ HB.out)) : w.heap.size ≤ gb118)); clear HB; have HB := n0_; have BK118 := n1_; have GW118 := n2_; have GE118 := n3_; clear n0_ n1_ n2_ n3_; clear hb hbox hg) | ((with_reducible refine gate_dst (N := 3) rfl ?_); refine box_event ?hg (N := 3) ?hd (cs := #[.string a1_0, .string a1_1, .string a1_2, .int .u8 a1_3, .int .i64 a1_4, .int .i64 a1_5, .int .i64 a1_6, .int .i64 a1_7, .slice A1_8 l1_8.length c1_8]) (t := 38) ?hr ?_; (case hd => rfl); (case hg => rfl); (case hr => first | (go_simp; done) | (go_simp; rfl)); intro gb119 hg w30 hbox hb; have n0_ := A0_ (blk_below (g := gb118) (o := .cells #[.string a0_0, .string a0_1, .string a0_2, .int .u8 a0_3, .int .i64 a0_4, .int .i64 a0_5, .int .i64 a0_6, .int .i64 a0_7, .slice A0_8 l0_8.length c0_8] 38 (0, 0)) (wB_ BK118.out) hb); have n1_ := A0_ (below_step (wb1_ HB.out GE118.out) hb); have n2_ := A0_ (hbox); have n3_ := A0_ ((by rw [hg]; exact (below_size (wb1_ HB.out GE118.out)) : w.heap.size ≤ gb119)); have n4_ := A0_ ((by rw [hg]; exact (below_size (wb1_ HB.out GE118.out)) : w.heap.size ≤ gb119)); have n5_ := A0_ ((by rw [hg]; exact Nat.ne_of_lt (blk_lt (g := gb118) (o := .cells #[.string a0_0, .string a0_1, .string a0_2, .int .u8 a0_3, .int .i64 a0_4, .int .i64 a0_5, .int .i64 a0_6, .int .i64 a0_7, .slice A0_8 l0_8.length c0_8] 38 (0, 0)) (wB_ BK118.out)) : gb118 ≠ gb119)); have n6_ := A0_ ((by rw [hg]; exact Nat.ne_of_gt (blk_lt (g := gb118) (o := .cells #[.string a0_0, .string a0_1, .string a0_2, .int .u8 a0_3, .int .i64 a0_4, .int .i64 a0_5, .int .i64 a0_6, .int .i64 a0_7, .slice A0_8 l0_8.length c0_8] 38 (0, 0)) (wB_ BK118.out)) : gb119 ≠ gb118)); clear BK118; clear HB; have BK118 := n0_; have HB := n1_; have BK119 := n2_; have GW119 := n3_; have GE119 := n4_; have NB118_119 := n5_; have NB119_118 := n6_; clear n0_ n1_ n2_ n3_ n4_ n5_ n6_; clear hb hbox hg; have hnb31 := NB118_119.out; have hnc31 := NB119_118.out; have hcz32_0 : w30.cell? ⟨gb118, 0, none⟩ = some (.string a0_0) := (bc_ BK118.out 0).trans rfl; have hcz32_1 : w30.cell? ⟨gb118, 1, none⟩ = some (.string a0_1) := (bc_ BK118.out 1).trans rfl; have hcz32_2 : w30.cell? ⟨gb118, 2, none⟩ = some (.string a0_2) := (bc_ BK118.out 2).trans rfl; have hcz32_3 : w30.cell? ⟨gb118, 3, none⟩ = some (.int .u8 a0_3) := (bc_ BK118.out 3).trans rfl; have hcz32_4 : w30.cell? ⟨gb118, 4, none⟩ = some (.int .i64 a0_4) := (bc_ BK118.out 4).trans rfl; have hcz32_5 : w30.cell? ⟨gb118, 5, none⟩ = some (.int .i64 a0_5) := (bc_ BK118.out 5).trans rfl; have hcz32_6 : w30.cell? ⟨gb118, 6, none⟩ = some (.int .i64 a0_6) := (bc_ BK118.out 6).trans rfl; have hcz32_7 : w30.cell? ⟨gb118, 7, none⟩ = some (.int .i64 a0_7) := (bc_ BK118.out 7).trans rfl; have hcz32_8 : w30.cell? ⟨gb118, 8, none⟩ = some (.slice A0_8 l0_8.length c0_8) := (bc_ BK118.out 8).trans rfl; have hfz32_0 := bf_ BK118.out 0; have hfz32_1 := bf_ BK118.out 1; have hfz32_2 := bf_ BK118.out 2; have hfz32_3 := bf_ BK118.out 3; have hfz32_4 := bf_ BK118.out 4; have hfz32_5 := bf_ BK118.out 5; have hfz32_6 := bf_ BK118.out 6; have hfz32_7 := bf_ BK118.out 7; have hfz32_8 := bf_ BK118.out 8; have hcz33_0 : w30.cell? ⟨gb119, 0, none⟩ = some (.string a1_0) := (bc_ BK119.out 0).trans rfl; have hcz33_1 : w30.cell? ⟨gb119, 1, none⟩ = some (.string a1_1) := (bc_ BK119.out 1).trans rfl; have hcz33_2 : w30.cell? ⟨gb119, 2, none⟩ = some (.string a1_2) := (bc_ BK119.out 2).trans rfl; have hcz33_3 : w30.cell? ⟨gb119, 3, none⟩ = some (.int .u8 a1_3) := (bc_ BK119.out 3).trans rfl; have hcz33_4 : w30.cell? ⟨gb119, 4, none⟩ = some (.int .i64 a1_4) := (bc_ BK119.out 4).trans rfl; have hcz33_5 : w30.cell? ⟨gb119, 5, none⟩ = some (.int .i64 a1_5) := (bc_ BK119.out 5).trans rfl; have hcz33_6 : w30.cell? ⟨gb119, 6, none⟩ = some (.int .i64 a1_6) := (bc_ BK119.out 6).trans rfl; have hcz33_7 : w30.cell? ⟨gb119, 7, none⟩ = some (.int .i64 a1_7) := (bc_ BK119.out 7).trans rfl; have hcz33_8 : w30.cell? ⟨gb119, 8, none⟩ = some (.slice A1_8 l1_8.length c1_8) := (bc_ BK119.out 8).trans rfl; have hfz33_0 := bf_ BK119.out 0; have hfz33_1 := bf_ BK119.out 1; have hfz33_2 := bf_ BK119.out 2; have hfz33_3 := bf_ BK119.out 3; have hfz33_4 := bf_ BK119.out 4; have hfz33_5 := bf_ BK119.out 5; have hfz33_6 := bf_ BK119.out 6; have hfz33_7 := bf_ BK119.out 7; have hfz33_8 := bf_ BK119.out 8))
  go_ret
  exact ⟨we_, wb2_ HB.out GE118.out GE119.out⟩
 rw [if_pos c3] at H
 have c3b0 : (a0_0.toList == a1_0.toList) = true := beq_iff_eq.mpr c3
 have c3b1 : (a0_0.toList != a1_0.toList) = false := bne_eq_false_iff_eq.mpr c3
 clear c3
 by_cases c4 : a0_3 = a1_3
 rotate_left
 ·rw [if_neg c4] at H
  have c4b0 : (a0_3 == a1_3) = false := beq_eq_false_iff_ne.mpr c4
  have c4b1 : (a0_3 != a1_3) = true := bne_iff_ne.mpr c4
  obtain rfl := Option.some.inj H
  go_enter Tryd.func20, Tryd.ntmps20
  go_wp2_with (first | ((with_reducible refine gate_dst (N := 2) rfl ?_); refine box_event ?hg (N := 2) ?hd (cs := #[.string a0_0, .string a0_1, .string a0_2, .int .u8 a0_3, .int .i64 a0_4, .int .i64 a0_5, .int .i64 a0_6, .int .i64 a0_7, .slice A0_8 l0_8.length c0_8]) (t := 38) ?hr ?_; (case hd => rfl); (case hg => rfl); (case hr => first | (go_simp; done) | (go_simp; rfl)); intro gb118 hg w24 hbox hb; have n0_ := A0_ (below_step (wb_ HB.out) hb); have n1_ := A0_ (hbox); have n2_ := A0_ ((by rw [hg]; exact (below_size (wb_ HB.out)) : w.heap.size ≤ gb118)); have n3_ := A0_ ((by rw [hg]; exact (below_size (wb_ HB.out)) : w.heap.size ≤ gb118)); clear HB; have HB := n0_; have BK118 := n1_; have GW118 := n2_; have GE118 := n3_; clear n0_ n1_ n2_ n3_; clear hb hbox hg) | ((with_reducible refine gate_dst (N := 3) rfl ?_); refine box_event ?hg (N := 3) ?hd (cs := #[.string a1_0, .string a1_1, .string a1_2, .int .u8 a1_3, .int .i64 a1_4, .int .i64 a1_5, .int .i64 a1_6, .int .i64 a1_7, .slice A1_8 l1_8.length c1_8]) (t := 38) ?hr ?_; (case hd => rfl); (case hg => rfl); (case hr => first | (go_simp; done) | (go_simp; rfl)); intro gb119 hg w25 hbox hb; have n0_ := A0_ (blk_below (g := gb118) (o := .cells #[.string a0_0, .string a0_1, .string a0_2, .int .u8 a0_3, .int .i64 a0_4, .int .i64 a0_5, .int .i64 a0_6, .int .i64 a0_7, .slice A0_8 l0_8.length c0_8] 38 (0, 0)) (wB_ BK118.out) hb); have n1_ := A0_ (below_step (wb1_ HB.out GE118.out) hb); have n2_ := A0_ (hbox); have n3_ := A0_ ((by rw [hg]; exact (below_size (wb1_ HB.out GE118.out)) : w.heap.size ≤ gb119)); have n4_ := A0_ ((by rw [hg]; exact (below_size (wb1_ HB.out GE118.out)) : w.heap.size ≤ gb119)); have n5_ := A0_ ((by rw [hg]; exact Nat.ne_of_lt (blk_lt (g := gb118) (o := .cells #[.string a0_0, .string a0_1, .string a0_2, .int .u8 a0_3, .int .i64 a0_4, .int .i64 a0_5, .int .i64 a0_6, .int .i64 a0_7, .slice A0_8 l0_8.length c0_8] 38 (0, 0)) (wB_ BK118.out)) : gb118 ≠ gb119)); have n6_ := A0_ ((by rw [hg]; exact Nat.ne_of_gt (blk_lt (g := gb118) (o := .cells #[.string a0_0, .string a0_1, .string a0_2, .int .u8 a0_3, .int .i64 a0_4, .int .i64 a0_5, .int .i64 a0_6, .int .i64 a0_7, .slice A0_8 l0_8.length c0_8] 38 (0, 0)) (wB_ BK118.out)) : gb119 ≠ gb118)); clear BK118; clear HB; have BK118 := n0_; have HB := n1_; have BK119 := n2_; have GW119 := n3_; have GE119 := n4_; have NB118_119 := n5_; have NB119_118 := n6_; clear n0_ n1_ n2_ n3_ n4_ n5_ n6_; clear hb hbox hg; have hnb26 := NB118_119.out; have hnc26 := NB119_118.out; have hcz27_0 : w25.cell? ⟨gb118, 0, none⟩ = some (.string a0_0) := (bc_ BK118.out 0).trans rfl; have hcz27_1 : w25.cell? ⟨gb118, 1, none⟩ = some (.string a0_1) := (bc_ BK118.out 1).trans rfl; have hcz27_2 : w25.cell? ⟨gb118, 2, none⟩ = some (.string a0_2) := (bc_ BK118.out 2).trans rfl; have hcz27_3 : w25.cell? ⟨gb118, 3, none⟩ = some (.int .u8 a0_3) := (bc_ BK118.out 3).trans rfl; have hcz27_4 : w25.cell? ⟨gb118, 4, none⟩ = some (.int .i64 a0_4) := (bc_ BK118.out 4).trans rfl; have hcz27_5 : w25.cell? ⟨gb118, 5, none⟩ = some (.int .i64 a0_5) := (bc_ BK118.out 5).trans rfl; have hcz27_6 : w25.cell? ⟨gb118, 6, none⟩ = some (.int .i64 a0_6) := (bc_ BK118.out 6).trans rfl; have hcz27_7 : w25.cell? ⟨gb118, 7, none⟩ = some (.int .i64 a0_7) := (bc_ BK118.out 7).trans rfl; have hcz27_8 : w25.cell? ⟨gb118, 8, none⟩ = some (.slice A0_8 l0_8.length c0_8) := (bc_ BK118.out 8).trans rfl; have hfz27_0 := bf_ BK118.out 0; have hfz27_1 := bf_ BK118.out 1; have hfz27_2 := bf_ BK118.out 2; have hfz27_3 := bf_ BK118.out 3; have hfz27_4 := bf_ BK118.out 4; have hfz27_5 := bf_ BK118.out 5; have hfz27_6 := bf_ BK118.out 6; have hfz27_7 := bf_ BK118.out 7; have hfz27_8 := bf_ BK118.out 8; have hcz28_0 : w25.cell? ⟨gb119, 0, none⟩ = some (.string a1_0) := (bc_ BK119.out 0).trans rfl; have hcz28_1 : w25.cell? ⟨gb119, 1, none⟩ = some (.string a1_1) := (bc_ BK119.out 1).trans rfl; have hcz28_2 : w25.cell? ⟨gb119, 2, none⟩ = some (.string a1_2) := (bc_ BK119.out 2).trans rfl; have hcz28_3 : w25.cell? ⟨gb119, 3, none⟩ = some (.int .u8 a1_3) := (bc_ BK119.out 3).trans rfl; have hcz28_4 : w25.cell? ⟨gb119, 4, none⟩ = some (.int .i64 a1_4) := (bc_ BK119.out 4).trans rfl; have hcz28_5 : w25.cell? ⟨gb119, 5, none⟩ = some (.int .i64 a1_5) := (bc_ BK119.out 5).trans rfl; have hcz28_6 : w25.cell? ⟨gb119, 6, none⟩ = some (.int .i64 a1_6) := (bc_ BK119.out 6).trans rfl; have hcz28_7 : w25.cell? ⟨gb119, 7, none⟩ = some (.int .i64 a1_7) := (bc_ BK119.out 7).trans rfl; have hcz28_8 : w25.cell? ⟨gb119, 8, none⟩ = some (.slice A1_8 l1_8.length c1_8) := (bc_ BK119.out 8).trans rfl; have hfz28_0 := bf_ BK119.out 0; have hfz28_1 := bf_ BK119.out 1; have hfz28_2 := bf_ BK119.out 2; have hfz28_3 := bf_ BK119.out 3; have hfz28_4 := bf_ BK119.out 4; have hfz28_5 := bf_ BK119.out 5; have hfz28_6 := bf_ BK119.out 6; have hfz28_7 := bf_ BK119.out 7; have hfz28_8 := bf_ BK119.out 8))
  go_ret
  exact ⟨we_, wb2_ HB.out GE118.out GE119.out⟩
 rw [if_pos c4] at H
 have c4b0 : (a0_3 == a1_3) = true := beq_iff_eq.mpr c4
 have c4b1 : (a0_3 != a1_3) = false := bne_eq_false_iff_eq.mpr c4
 clear c4
 by_cases c5 : (a0_4 == a1_4 && (a0_5 == a1_5 && (a0_6 == a1_6 && (a0_7 == a1_7)))) = true
 rotate_left
 ·rw [if_neg c5] at H
  have c5b0 : (a0_4 == a1_4 && (a0_5 == a1_5 && (a0_6 == a1_6 && (a0_7 == a1_7)))) = false := by simpa using c5
  (try (have c5b1 : decide (a0_4 = a1_4 && (a0_5 == a1_5 && (a0_6 == a1_6 && (a0_7 == a1_7)))) = false := by simpa using c5))
  (try (have c5b2 : (a0_4 == a1_4 && (a0_5 == a1_5 && (a0_6 == a1_6 && (a0_7 == a1_7)))) = false := by simpa using c5))
  (try (have c5b3 : ¬ (a0_4 = a1_4 && (a0_5 == a1_5 && (a0_6 == a1_6 && (a0_7 == a1_7)))) := by simpa using c5))
  clear c5
  obtain rfl := Option.some.inj H
  go_enter Tryd.func20, Tryd.ntmps20
  go_wp2_with (first | ((with_reducible refine gate_dst (N := 2) rfl ?_); refine box_event ?hg (N := 2) ?hd (cs := #[.string a0_0, .string a0_1, .string a0_2, .int .u8 a0_3, .int .i64 a0_4, .int .i64 a0_5, .int .i64 a0_6, .int .i64 a0_7, .slice A0_8 l0_8.length c0_8]) (t := 38) ?hr ?_; (case hd => rfl); (case hg => rfl); (case hr => first | (go_simp; done) | (go_simp; rfl)); intro gb118 hg w19 hbox hb; have n0_ := A0_ (below_step (wb_ HB.out) hb); have n1_ := A0_ (hbox); have n2_ := A0_ ((by rw [hg]; exact (below_size (wb_ HB.out)) : w.heap.size ≤ gb118)); have n3_ := A0_ ((by rw [hg]; exact (below_size (wb_ HB.out)) : w.heap.size ≤ gb118)); clear HB; have HB := n0_; have BK118 := n1_; have GW118 := n2_; have GE118 := n3_; clear n0_ n1_ n2_ n3_; clear hb hbox hg) | ((with_reducible refine gate_dst (N := 3) rfl ?_); refine box_event ?hg (N := 3) ?hd (cs := #[.string a1_0, .string a1_1, .string a1_2, .int .u8 a1_3, .int .i64 a1_4, .int .i64 a1_5, .int .i64 a1_6, .int .i64 a1_7, .slice A1_8 l1_8.length c1_8]) (t := 38) ?hr ?_; (case hd => rfl); (case hg => rfl); (case hr => first | (go_simp; done) | (go_simp; rfl)); intro gb119 hg w20 hbox hb; have n0_ := A0_ (blk_below (g := gb118) (o := .cells #[.string a0_0, .string a0_1, .string a0_2, .int .u8 a0_3, .int .i64 a0_4, .int .i64 a0_5, .int .i64 a0_6, .int .i64 a0_7, .slice A0_8 l0_8.length c0_8] 38 (0, 0)) (wB_ BK118.out) hb); have n1_ := A0_ (below_step (wb1_ HB.out GE118.out) hb); have n2_ := A0_ (hbox); have n3_ := A0_ ((by rw [hg]; exact (below_size (wb1_ HB.out GE118.out)) : w.heap.size ≤ gb119)); have n4_ := A0_ ((by rw [hg]; exact (below_size (wb1_ HB.out GE118.out)) : w.heap.size ≤ gb119)); have n5_ := A0_ ((by rw [hg]; exact Nat.ne_of_lt (blk_lt (g := gb118) (o := .cells #[.string a0_0, .string a0_1, .string a0_2, .int .u8 a0_3, .int .i64 a0_4, .int .i64 a0_5, .int .i64 a0_6, .int .i64 a0_7, .slice A0_8 l0_8.length c0_8] 38 (0, 0)) (wB_ BK118.out)) : gb118 ≠ gb119)); have n6_ := A0_ ((by rw [hg]; exact Nat.ne_of_gt (blk_lt (g := gb118) (o := .cells #[.string a0_0, .string a0_1, .string a0_2, .int .u8 a0_3, .int .i64 a0_4, .int .i64 a0_5, .int .i64 a0_6, .int .i64 a0_7, .slice A0_8 l0_8.length c0_8] 38 (0, 0)) (wB_ BK118.out)) : gb119 ≠ gb118)); clear BK118; clear HB; have BK118 := n0_; have HB := n1_; have BK119 := n2_; have GW119 := n3_; have GE119 := n4_; have NB118_119 := n5_; have NB119_118 := n6_; clear n0_ n1_ n2_ n3_ n4_ n5_ n6_; clear hb hbox hg; have hnb21 := NB118_119.out; have hnc21 := NB119_118.out; have hcz22_0 : w20.cell? ⟨gb118, 0, none⟩ = some (.string a0_0) := (bc_ BK118.out 0).trans rfl; have hcz22_1 : w20.cell? ⟨gb118, 1, none⟩ = some (.string a0_1) := (bc_ BK118.out 1).trans rfl; have hcz22_2 : w20.cell? ⟨gb118, 2, none⟩ = some (.string a0_2) := (bc_ BK118.out 2).trans rfl; have hcz22_3 : w20.cell? ⟨gb118, 3, none⟩ = some (.int .u8 a0_3) := (bc_ BK118.out 3).trans rfl; have hcz22_4 : w20.cell? ⟨gb118, 4, none⟩ = some (.int .i64 a0_4) := (bc_ BK118.out 4).trans rfl; have hcz22_5 : w20.cell? ⟨gb118, 5, none⟩ = some (.int .i64 a0_5) := (bc_ BK118.out 5).trans rfl; have hcz22_6 : w20.cell? ⟨gb118, 6, none⟩ = some (.int .i64 a0_6) := (bc_ BK118.out 6).trans rfl; have hcz22_7 : w20.cell? ⟨gb118, 7, none⟩ = some (.int .i64 a0_7) := (bc_ BK118.out 7).trans rfl; have hcz22_8 : w20.cell? ⟨gb118, 8, none⟩ = some (.slice A0_8 l0_8.length c0_8) := (bc_ BK118.out 8).trans rfl; have hfz22_0 := bf_ BK118.out 0; have hfz22_1 := bf_ BK118.out 1; have hfz22_2 := bf_ BK118.out 2; have hfz22_3 := bf_ BK118.out 3; have hfz22_4 := bf_ BK118.out 4; have hfz22_5 := bf_ BK118.out 5; have hfz22_6 := bf_ BK118.out 6; have hfz22_7 := bf_ BK118.out 7; have hfz22_8 := bf_ BK118.out 8; have hcz23_0 : w20.cell? ⟨gb119, 0, none⟩ = some (.string a1_0) := (bc_ BK119.out 0).trans rfl; have hcz23_1 : w20.cell? ⟨gb119, 1, none⟩ = some (.string a1_1) := (bc_ BK119.out 1).trans rfl; have hcz23_2 : w20.cell? ⟨gb119, 2, none⟩ = some (.string a1_2) := (bc_ BK119.out 2).trans rfl; have hcz23_3 : w20.cell? ⟨gb119, 3, none⟩ = some (.int .u8 a1_3) := (bc_ BK119.out 3).trans rfl; have hcz23_4 : w20.cell? ⟨gb119, 4, none⟩ = some (.int .i64 a1_4) := (bc_ BK119.out 4).trans rfl; have hcz23_5 : w20.cell? ⟨gb119, 5, none⟩ = some (.int .i64 a1_5) := (bc_ BK119.out 5).trans rfl; have hcz23_6 : w20.cell? ⟨gb119, 6, none⟩ = some (.int .i64 a1_6) := (bc_ BK119.out 6).trans rfl; have hcz23_7 : w20.cell? ⟨gb119, 7, none⟩ = some (.int .i64 a1_7) := (bc_ BK119.out 7).trans rfl; have hcz23_8 : w20.cell? ⟨gb119, 8, none⟩ = some (.slice A1_8 l1_8.length c1_8) := (bc_ BK119.out 8).trans rfl; have hfz23_0 := bf_ BK119.out 0; have hfz23_1 := bf_ BK119.out 1; have hfz23_2 := bf_ BK119.out 2; have hfz23_3 := bf_ BK119.out 3; have hfz23_4 := bf_ BK119.out 4; have hfz23_5 := bf_ BK119.out 5; have hfz23_6 := bf_ BK119.out 6; have hfz23_7 := bf_ BK119.out 7; have hfz23_8 := bf_ BK119.out 8))
  go_ret
  exact ⟨we_, wb2_ HB.out GE118.out GE119.out⟩
 rw [if_pos c5] at H
 have c5b0 : (a0_4 == a1_4 && (a0_5 == a1_5 && (a0_6 == a1_6 && (a0_7 == a1_7)))) = true := c5
 (try (have c5b1 : decide (a0_4 = a1_4 && (a0_5 == a1_5 && (a0_6 == a1_6 && (a0_7 == a1_7)))) = true := by simpa using c5))
 (try (have c5b2 : (a0_4 == a1_4 && (a0_5 == a1_5 && (a0_6 == a1_6 && (a0_7 == a1_7)))) = true := by simpa using c5))
 clear c5
 by_cases c6 : a0_1.toList = a1_1.toList
 rotate_left
 ·rw [if_neg c6] at H
  have c6b0 : (a0_1.toList == a1_1.toList) = false := beq_eq_false_iff_ne.mpr c6
  have c6b1 : (a0_1.toList != a1_1.toList) = true := bne_iff_ne.mpr c6
  obtain rfl := Option.some.inj H
  go_enter Tryd.func20, Tryd.ntmps20
  go_wp2_with (first | ((with_reducible refine gate_dst (N := 2) rfl ?_); refine box_event ?hg (N := 2) ?hd (cs := #[.string a0_0, .string a0_1, .string a0_2, .int .u8 a0_3, .int .i64 a0_4, .int .i64 a0_5, .int .i64 a0_6, .int .i64 a0_7, .slice A0_8 l0_8.length c0_8]) (t := 38) ?hr ?_; (case hd => rfl); (case hg => rfl); (case hr => first | (go_simp; done) | (go_simp; rfl)); intro gb118 hg w14 hbox hb; have n0_ := A0_ (below_step (wb_ HB.out) hb); have n1_ := A0_ (hbox); have n2_ := A0_ ((by rw [hg]; exact (below_size (wb_ HB.out)) : w.heap.size ≤ gb118)); have n3_ := A0_ ((by rw [hg]; exact (below_size (wb_ HB.out)) : w.heap.size ≤ gb118)); clear HB; have HB := n0_; have BK118 := n1_; have GW118 := n2_; have GE118 := n3_; clear n0_ n1_ n2_ n3_; clear hb hbox hg) | ((with_reducible refine gate_dst (N := 3) rfl ?_); refine box_event ?hg (N := 3) ?hd (cs := #[.string a1_0, .string a1_1, .string a1_2, .int .u8 a1_3, .int .i64 a1_4, .int .i64 a1_5, .int .i64 a1_6, .int .i64 a1_7, .slice A1_8 l1_8.length c1_8]) (t := 38) ?hr ?_; (case hd => rfl); (case hg => rfl); (case hr => first | (go_simp; done) | (go_simp; rfl)); intro gb119 hg w15 hbox hb; have n0_ := A0_ (blk_below (g := gb118) (o := .cells #[.string a0_0, .string a0_1, .string a0_2, .int .u8 a0_3, .int .i64 a0_4, .int .i64 a0_5, .int .i64 a0_6, .int .i64 a0_7, .slice A0_8 l0_8.length c0_8] 38 (0, 0)) (wB_ BK118.out) hb); have n1_ := A0_ (below_step (wb1_ HB.out GE118.out) hb); have n2_ := A0_ (hbox); have n3_ := A0_ ((by rw [hg]; exact (below_size (wb1_ HB.out GE118.out)) : w.heap.size ≤ gb119)); have n4_ := A0_ ((by rw [hg]; exact (below_size (wb1_ HB.out GE118.out)) : w.heap.size ≤ gb119)); have n5_ := A0_ ((by rw [hg]; exact Nat.ne_of_lt (blk_lt (g := gb118) (o := .cells #[.string a0_0, .string a0_1, .string a0_2, .int .u8 a0_3, .int .i64 a0_4, .int .i64 a0_5, .int .i64 a0_6, .int .i64 a0_7, .slice A0_8 l0_8.length c0_8] 38 (0, 0)) (wB_ BK118.out)) : gb118 ≠ gb119)); have n6_ := A0_ ((by rw [hg]; exact Nat.ne_of_gt (blk_lt (g := gb118) (o := .cells #[.string a0_0, .string a0_1, .string a0_2, .int .u8 a0_3, .int .i64 a0_4, .int .i64 a0_5, .int .i64 a0_6, .int .i64 a0_7, .slice A0_8 l0_8.length c0_8] 38 (0, 0)) (wB_ BK118.out)) : gb119 ≠ gb118)); clear BK118; clear HB; have BK118 := n0_; have HB := n1_; have BK119 := n2_; have GW119 := n3_; have GE119 := n4_; have NB118_119 := n5_; have NB119_118 := n6_; clear n0_ n1_ n2_ n3_ n4_ n5_ n6_; clear hb hbox hg; have hnb16 := NB118_119.out; have hnc16 := NB119_118.out; have hcz17_0 : w15.cell? ⟨gb118, 0, none⟩ = some (.string a0_0) := (bc_ BK118.out 0).trans rfl; have hcz17_1 : w15.cell? ⟨gb118, 1, none⟩ = some (.string a0_1) := (bc_ BK118.out 1).trans rfl; have hcz17_2 : w15.cell? ⟨gb118, 2, none⟩ = some (.string a0_2) := (bc_ BK118.out 2).trans rfl; have hcz17_3 : w15.cell? ⟨gb118, 3, none⟩ = some (.int .u8 a0_3) := (bc_ BK118.out 3).trans rfl; have hcz17_4 : w15.cell? ⟨gb118, 4, none⟩ = some (.int .i64 a0_4) := (bc_ BK118.out 4).trans rfl; have hcz17_5 : w15.cell? ⟨gb118, 5, none⟩ = some (.int .i64 a0_5) := (bc_ BK118.out 5).trans rfl; have hcz17_6 : w15.cell? ⟨gb118, 6, none⟩ = some (.int .i64 a0_6) := (bc_ BK118.out 6).trans rfl; have hcz17_7 : w15.cell? ⟨gb118, 7, none⟩ = some (.int .i64 a0_7) := (bc_ BK118.out 7).trans rfl; have hcz17_8 : w15.cell? ⟨gb118, 8, none⟩ = some (.slice A0_8 l0_8.length c0_8) := (bc_ BK118.out 8).trans rfl; have hfz17_0 := bf_ BK118.out 0; have hfz17_1 := bf_ BK118.out 1; have hfz17_2 := bf_ BK118.out 2; have hfz17_3 := bf_ BK118.out 3; have hfz17_4 := bf_ BK118.out 4; have hfz17_5 := bf_ BK118.out 5; have hfz17_6 := bf_ BK118.out 6; have hfz17_7 := bf_ BK118.out 7; have hfz17_8 := bf_ BK118.out 8; have hcz18_0 : w15.cell? ⟨gb119, 0, none⟩ = some (.string a1_0) := (bc_ BK119.out 0).trans rfl; have hcz18_1 : w15.cell? ⟨gb119, 1, none⟩ = some (.string a1_1) := (bc_ BK119.out 1).trans rfl; have hcz18_2 : w15.cell? ⟨gb119, 2, none⟩ = some (.string a1_2) := (bc_ BK119.out 2).trans rfl; have hcz18_3 : w15.cell? ⟨gb119, 3, none⟩ = some (.int .u8 a1_3) := (bc_ BK119.out 3).trans rfl; have hcz18_4 : w15.cell? ⟨gb119, 4, none⟩ = some (.int .i64 a1_4) := (bc_ BK119.out 4).trans rfl; have hcz18_5 : w15.cell? ⟨gb119, 5, none⟩ = some (.int .i64 a1_5) := (bc_ BK119.out 5).trans rfl; have hcz18_6 : w15.cell? ⟨gb119, 6, none⟩ = some (.int .i64 a1_6) := (bc_ BK119.out 6).trans rfl; have hcz18_7 : w15.cell? ⟨gb119, 7, none⟩ = some (.int .i64 a1_7) := (bc_ BK119.out 7).trans rfl; have hcz18_8 : w15.cell? ⟨gb119, 8, none⟩ = some (.slice A1_8 l1_8.length c1_8) := (bc_ BK119.out 8).trans rfl; have hfz18_0 := bf_ BK119.out 0; have hfz18_1 := bf_ BK119.out 1; have hfz18_2 := bf_ BK119.out 2; have hfz18_3 := bf_ BK119.out 3; have hfz18_4 := bf_ BK119.out 4; have hfz18_5 := bf_ BK119.out 5; have hfz18_6 := bf_ BK119.out 6; have hfz18_7 := bf_ BK119.out 7; have hfz18_8 := bf_ BK119.out 8))
  go_ret
  exact ⟨we_, wb2_ HB.out GE118.out GE119.out⟩
 rw [if_pos c6] at H
 have c6b0 : (a0_1.toList == a1_1.toList) = true := beq_iff_eq.mpr c6
 have c6b1 : (a0_1.toList != a1_1.toList) = false := bne_eq_false_iff_eq.mpr c6
 clear c6
 obtain rfl := Option.some.inj H
 go_enter Tryd.func20, Tryd.ntmps20
 go_wp2_with (first | ((with_reducible refine gate_dst (N := 2) rfl ?_); refine box_event ?hg (N := 2) ?hd (cs := #[.string a0_0, .string a0_1, .string a0_2, .int .u8 a0_3, .int .i64 a0_4, .int .i64 a0_5, .int .i64 a0_6, .int .i64 a0_7, .slice A0_8 l0_8.length c0_8]) (t := 38) ?hr ?_; (case hd => rfl); (case hg => rfl); (case hr => first | (go_simp; done) | (go_simp; rfl)); intro gb118 hg w7 hbox hb; have n0_ := A0_ (below_step (wb_ HB.out) hb); have n1_ := A0_ (hbox); have n2_ := A0_ ((by rw [hg]; exact (below_size (wb_ HB.out)) : w.heap.size ≤ gb118)); have n3_ := A0_ ((by rw [hg]; exact (below_size (wb_ HB.out)) : w.heap.size ≤ gb118)); clear HB; have HB := n0_; have BK118 := n1_; have GW118 := n2_; have GE118 := n3_; clear n0_ n1_ n2_ n3_; clear hb hbox hg) | ((with_reducible refine gate_dst (N := 3) rfl ?_); refine box_event ?hg (N := 3) ?hd (cs := #[.string a1_0, .string a1_1, .string a1_2, .int .u8 a1_3, .int .i64 a1_4, .int .i64 a1_5, .int .i64 a1_6, .int .i64 a1_7, .slice A1_8 l1_8.length c1_8]) (t := 38) ?hr ?_; (case hd => rfl); (case hg => rfl); (case hr => first | (go_simp; done) | (go_simp; rfl)); intro gb119 hg w8 hbox hb; have n0_ := A0_ (blk_below (g := gb118) (o := .cells #[.string a0_0, .string a0_1, .string a0_2, .int .u8 a0_3, .int .i64 a0_4, .int .i64 a0_5, .int .i64 a0_6, .int .i64 a0_7, .slice A0_8 l0_8.length c0_8] 38 (0, 0)) (wB_ BK118.out) hb); have n1_ := A0_ (below_step (wb1_ HB.out GE118.out) hb); have n2_ := A0_ (hbox); have n3_ := A0_ ((by rw [hg]; exact (below_size (wb1_ HB.out GE118.out)) : w.heap.size ≤ gb119)); have n4_ := A0_ ((by rw [hg]; exact (below_size (wb1_ HB.out GE118.out)) : w.heap.size ≤ gb119)); have n5_ := A0_ ((by rw [hg]; exact Nat.ne_of_lt (blk_lt (g := gb118) (o := .cells #[.string a0_0, .string a0_1, .string a0_2, .int .u8 a0_3, .int .i64 a0_4, .int .i64 a0_5, .int .i64 a0_6, .int .i64 a0_7, .slice A0_8 l0_8.length c0_8] 38 (0, 0)) (wB_ BK118.out)) : gb118 ≠ gb119)); have n6_ := A0_ ((by rw [hg]; exact Nat.ne_of_gt (blk_lt (g := gb118) (o := .cells #[.string a0_0, .string a0_1, .string a0_2, .int .u8 a0_3, .int .i64 a0_4, .int .i64 a0_5, .int .i64 a0_6, .int .i64 a0_7, .slice A0_8 l0_8.length c0_8] 38 (0, 0)) (wB_ BK118.out)) : gb119 ≠ gb118)); clear BK118; clear HB; have BK118 := n0_; have HB := n1_; have BK119 := n2_; have GW119 := n3_; have GE119 := n4_; have NB118_119 := n5_; have NB119_118 := n6_; clear n0_ n1_ n2_ n3_ n4_ n5_ n6_; clear hb hbox hg; have hnb9 := NB118_119.out; have hnc9 := NB119_118.out; have hcz10_0 : w8.cell? ⟨gb118, 0, none⟩ = some (.string a0_0) := (bc_ BK118.out 0).trans rfl; have hcz10_1 : w8.cell? ⟨gb118, 1, none⟩ = some (.string a0_1) := (bc_ BK118.out 1).trans rfl; have hcz10_2 : w8.cell? ⟨gb118, 2, none⟩ = some (.string a0_2) := (bc_ BK118.out 2).trans rfl; have hcz10_3 : w8.cell? ⟨gb118, 3, none⟩ = some (.int .u8 a0_3) := (bc_ BK118.out 3).trans rfl; have hcz10_4 : w8.cell? ⟨gb118, 4, none⟩ = some (.int .i64 a0_4) := (bc_ BK118.out 4).trans rfl; have hcz10_5 : w8.cell? ⟨gb118, 5, none⟩ = some (.int .i64 a0_5) := (bc_ BK118.out 5).trans rfl; have hcz10_6 : w8.cell? ⟨gb118, 6, none⟩ = some (.int .i64 a0_6) := (bc_ BK118.out 6).trans rfl; have hcz10_7 : w8.cell? ⟨gb118, 7, none⟩ = some (.int .i64 a0_7) := (bc_ BK118.out 7).trans rfl; have hcz10_8 : w8.cell? ⟨gb118, 8, none⟩ = some (.slice A0_8 l0_8.length c0_8) := (bc_ BK118.out 8).trans rfl; have hfz10_0 := bf_ BK118.out 0; have hfz10_1 := bf_ BK118.out 1; have hfz10_2 := bf_ BK118.out 2; have hfz10_3 := bf_ BK118.out 3; have hfz10_4 := bf_ BK118.out 4; have hfz10_5 := bf_ BK118.out 5; have hfz10_6 := bf_ BK118.out 6; have hfz10_7 := bf_ BK118.out 7; have hfz10_8 := bf_ BK118.out 8; have hcz11_0 : w8.cell? ⟨gb119, 0, none⟩ = some (.string a1_0) := (bc_ BK119.out 0).trans rfl; have hcz11_1 : w8.cell? ⟨gb119, 1, none⟩ = some (.string a1_1) := (bc_ BK119.out 1).trans rfl; have hcz11_2 : w8.cell? ⟨gb119, 2, none⟩ = some (.string a1_2) := (bc_ BK119.out 2).trans rfl; have hcz11_3 : w8.cell? ⟨gb119, 3, none⟩ = some (.int .u8 a1_3) := (bc_ BK119.out 3).trans rfl; have hcz11_4 : w8.cell? ⟨gb119, 4, none⟩ = some (.int .i64 a1_4) := (bc_ BK119.out 4).trans rfl; have hcz11_5 : w8.cell? ⟨gb119, 5, none⟩ = some (.int .i64 a1_5) := (bc_ BK119.out 5).trans rfl; have hcz11_6 : w8.cell? ⟨gb119, 6, none⟩ = some (.int .i64 a1_6) := (bc_ BK119.out 6).trans rfl; have hcz11_7 : w8.cell? ⟨gb119, 7, none⟩ = some (.int .i64 a1_7) := (bc_ BK119.out 7).trans rfl; have hcz11_8 : w8.cell? ⟨gb119, 8, none⟩ = some (.slice A1_8 l1_8.length c1_8) := (bc_ BK119.out 8).trans rfl; have hfz11_0 := bf_ BK119.out 0; have hfz11_1 := bf_ BK119.out 1; have hfz11_2 := bf_ BK119.out 2; have hfz11_3 := bf_ BK119.out 3; have hfz11_4 := bf_ BK119.out 4; have hfz11_5 := bf_ BK119.out 5; have hfz11_6 := bf_ BK119.out 6; have hfz11_7 := bf_ BK119.out 7; have hfz11_8 := bf_ BK119.out 8; have hcv12 := Kd.C_string (P := Tryd.prog) (A := A0_8) (c := c0_8) Tryd.underlying25 Tryd.underlying5 Tryd.underlying9 (Kd.C_below HR0_8.out HB.out); have hcv13 := Kd.C_string (P := Tryd.prog) (A := A1_8) (c := c1_8) Tryd.underlying25 Tryd.underlying5 Tryd.underlying9 (Kd.C_below HR1_8.out HB.out)))
 go_ret
 exact ⟨we_, wb2_ HB.out GE118.out GE119.out⟩
end Go.Proofs.YtfmphccoeinhcaaDoor.Print

namespace Go.Proofs.YtfmphccoeinhcaaDoor.Print
open Go.RowKit Go.Proofs.YtfmphccoeinhcaaDoorW.PrintWords Go.Proofs.YtfmphccoeinhcaaDoorW.PrintLast Go.Proofs.YtfmphccoeinhcaaDoorW.PrintMore
attribute [local go_sem] max2_int min2_int max_two min_two max_three min_three max_four min_four   -- for this text's walks alone
set_option linter.unusedVariables false
set_option linter.unusedSimpArgs false
end Go.Proofs.YtfmphccoeinhcaaDoor.Print

namespace Go.Proofs.YtfmphccoeinhcaaDoor
open Go.RowKit Go.Proofs.YtfmphccoeinhcaaDoor.Print Go.Proofs.YtfmphccoeinhcaaDoorW.PrintWords
set_option linter.unusedVariables false
theorem requal_f (a b : Node) : bindleref08_Equal.f a.f0 a.f1 a.f2 a.f3 a.f4.f0 a.f4.f1 a.f4.f2 a.f4.f3 a.f5 b.f0 b.f1 b.f2 b.f3 b.f4.f0 b.f4.f1 b.f4.f2 b.f4.f3 b.f5 = some (equalB a b) := by
 unfold bindleref08_Equal.f
 exact equal_chain a b rfl
end Go.Proofs.YtfmphccoeinhcaaDoor

namespace Go.Proofs.YtfmphccoeinhcaaDoor.Print
open Go.RowKit Go.Proofs.YtfmphccoeinhcaaDoorW.PrintWords Go.Proofs.YtfmphccoeinhcaaDoorW.PrintLast Go.Proofs.YtfmphccoeinhcaaDoorW.PrintMore
attribute [local go_sem] max2_int min2_int max_two min_two max_three min_three max_four min_four   -- for this text's walks alone
set_option linter.unusedVariables false
set_option linter.unusedSimpArgs false
def bindlelaw19_answers.f  : Option (Bool) := (union_Union.f (([(([(⟨(⟨#[97]⟩ : ByteArray), (⟨#[]⟩ : ByteArray), (⟨#[97]⟩ : ByteArray), 48, (⟨0, 0, 0, 0⟩ : S24), ([] : List Int)⟩ : S38), (⟨(⟨#[98]⟩ : ByteArray), (⟨#[]⟩ : ByteArray), (⟨#[97]⟩ : ByteArray), 48, (⟨0, 0, 0, 0⟩ : S24), ([] : List Int)⟩ : S38)] : List (S38))), (([(⟨(⟨#[97]⟩ : ByteArray), (⟨#[]⟩ : ByteArray), (⟨#[]⟩ : ByteArray), 53, (⟨0, 0, 0, 0⟩ : S24), ([] : List Int)⟩ : S38)] : List (S38)))] : List (List (S38))))).bind fun bt202 => ((union_Union.f (([(([(⟨(⟨#[]⟩ : ByteArray), (⟨#[]⟩ : ByteArray), (⟨#[]⟩ : ByteArray), 0, (⟨0, 0, 0, 0⟩ : S24), ([] : List Int)⟩ : S38)] : List (S38)))] : List (List (S38))))).bind fun bt212 => (if bt202.2 = 0 then (if (bt202.1.length : Int) = 2 then (if 0 < (bt202.1.length : Int) then (if ((rd_T38 bt202.1 0).f3) = 53 then (if 1 < (bt202.1.length : Int) then (if ((rd_T38 bt202.1 1).f2).toList = ([98] : List UInt8) then (some (bt212.2 == 1)) else (some false)) else (none)) else (some false)) else (none)) else (some false)) else (some false)))
theorem bindlelaw19_answers.val : bindlelaw19_answers.f = some true := by kernel_rfl
set_option maxHeartbeats 8000000 in
set_option maxRecDepth 100000 in
theorem bindlelaw19_answers.calls  (r : Bool) (w : World) (hT : Aside0 (Tabs w)) (h : bindlelaw19_answers.f  = some r) :
  Calls Tryd.prog 22 #[] w fun e w' => e = .returned (.bool r) ∧ Below w.heap.size w w' := by
 have hr_ : r = true := Option.some.inj (h.symm.trans bindlelaw19_answers.val)
 have hu38 := Tryd.underlying38
 have HB := A0_ (Below.refl w.heap.size w)
 have H : ((union_Union.f (([(([(⟨(⟨#[97]⟩ : ByteArray), (⟨#[]⟩ : ByteArray), (⟨#[97]⟩ : ByteArray), 48, (⟨0, 0, 0, 0⟩ : S24), ([] : List Int)⟩ : S38), (⟨(⟨#[98]⟩ : ByteArray), (⟨#[]⟩ : ByteArray), (⟨#[97]⟩ : ByteArray), 48, (⟨0, 0, 0, 0⟩ : S24), ([] : List Int)⟩ : S38)] : List (S38))), (([(⟨(⟨#[97]⟩ : ByteArray), (⟨#[]⟩ : ByteArray), (⟨#[]⟩ : ByteArray), 53, (⟨0, 0, 0, 0⟩ : S24), ([] : List Int)⟩ : S38)] : List (S38)))] : List (List (S38))))).bind fun bt202 => ((union_Union.f (([(([(⟨(⟨#[]⟩ : ByteArray), (⟨#[]⟩ : ByteArray), (⟨#[]⟩ : ByteArray), 0, (⟨0, 0, 0, 0⟩ : S24), ([] : List Int)⟩ : S38)] : List (S38)))] : List (List (S38))))).bind fun bt212 => (if bt202.2 = 0 then (if (bt202.1.length : Int) = 2 then (if 0 < (bt202.1.length : Int) then (if ((rd_T38 bt202.1 0).f3) = 53 then (if 1 < (bt202.1.length : Int) then (if ((rd_T38 bt202.1 1).f2).toList = ([98] : List UInt8) then (some (bt212.2 == 1)) else (some false)) else (none)) else (some false)) else (none)) else (some false)) else (some false)))) = some r := h
 clear h
 obtain ⟨y193, hy193⟩ : ∃ y_ : List (S38), y_ = (([(⟨(⟨#[97]⟩ : ByteArray), (⟨#[]⟩ : ByteArray), (⟨#[97]⟩ : ByteArray), 48, (⟨0, 0, 0, 0⟩ : S24), ([] : List Int)⟩ : S38), (⟨(⟨#[98]⟩ : ByteArray), (⟨#[]⟩ : ByteArray), (⟨#[97]⟩ : ByteArray), 48, (⟨0, 0, 0, 0⟩ : S24), ([] : List Int)⟩ : S38)] : List (S38))) := ⟨_, rfl⟩
 replace H : ((union_Union.f (([y193, (([(⟨(⟨#[97]⟩ : ByteArray), (⟨#[]⟩ : ByteArray), (⟨#[]⟩ : ByteArray), 53, (⟨0, 0, 0, 0⟩ : S24), ([] : List Int)⟩ : S38)] : List (S38)))] : List (List (S38))))).bind fun bt202 => ((union_Union.f (([(([(⟨(⟨#[]⟩ : ByteArray), (⟨#[]⟩ : ByteArray), (⟨#[]⟩ : ByteArray), 0, (⟨0, 0, 0, 0⟩ : S24), ([] : List Int)⟩ : S38)] : List (S38)))] : List (List (S38))))).bind fun bt212 => (if bt202.2 = 0 then (if (bt202.1.length : Int) = 2 then (if 0 < (bt202.1.length : Int) then (if ((rd_T38 bt202.1 0).f3) = 53 then (if 1 < (bt202.1.length : Int) then (if ((rd_T38 bt202.1 1).f2).toList = ([98] : List UInt8) then (some (bt212.2 == 1)) else (some false)) else (none)) else (some false)) else (none)) else (some false)) else (some false)))) = some r := by first | (rw [hy193]; with_reducible exact H) | (have H2_ := (Option.bind_some _ _).symm.trans H; rw [hy193]; with_reducible exact H2_) | (have H2_ := (Option.bind_some _ _).symm.trans H; with_reducible exact H2_) | with_reducible exact H | (rw [hy193]; exact H) | exact H
 have Ny193 := A0_ hy193
 clear hy193
 obtain ⟨y196, hy196⟩ : ∃ y_ : List (S38), y_ = (([(⟨(⟨#[97]⟩ : ByteArray), (⟨#[]⟩ : ByteArray), (⟨#[]⟩ : ByteArray), 53, (⟨0, 0, 0, 0⟩ : S24), ([] : List Int)⟩ : S38)] : List (S38))) := ⟨_, rfl⟩
 replace H : ((union_Union.f (([y193, y196] : List (List (S38))))).bind fun bt202 => ((union_Union.f (([(([(⟨(⟨#[]⟩ : ByteArray), (⟨#[]⟩ : ByteArray), (⟨#[]⟩ : ByteArray), 0, (⟨0, 0, 0, 0⟩ : S24), ([] : List Int)⟩ : S38)] : List (S38)))] : List (List (S38))))).bind fun bt212 => (if bt202.2 = 0 then (if (bt202.1.length : Int) = 2 then (if 0 < (bt202.1.length : Int) then (if ((rd_T38 bt202.1 0).f3) = 53 then (if 1 < (bt202.1.length : Int) then (if ((rd_T38 bt202.1 1).f2).toList = ([98] : List UInt8) then (some (bt212.2 == 1)) else (some false)) else (none)) else (some false)) else (none)) else (some false)) else (some false)))) = some r := by first | (rw [hy196]; with_reducible exact H) | (have H2_ := (Option.bind_some _ _).symm.trans H; rw [hy196]; with_reducible exact H2_) | (have H2_ := (Option.bind_some _ _).symm.trans H; with_reducible exact H2_) | with_reducible exact H | (rw [hy196]; exact H) | exact H
 have Ny196 := A0_ hy196
 clear hy196
 obtain ⟨y199, hy199⟩ : ∃ y_ : List (List (S38)), y_ = (([y193, y196] : List (List (S38)))) := ⟨_, rfl⟩
 replace H : ((union_Union.f y199).bind fun bt202 => ((union_Union.f (([(([(⟨(⟨#[]⟩ : ByteArray), (⟨#[]⟩ : ByteArray), (⟨#[]⟩ : ByteArray), 0, (⟨0, 0, 0, 0⟩ : S24), ([] : List Int)⟩ : S38)] : List (S38)))] : List (List (S38))))).bind fun bt212 => (if bt202.2 = 0 then (if (bt202.1.length : Int) = 2 then (if 0 < (bt202.1.length : Int) then (if ((rd_T38 bt202.1 0).f3) = 53 then (if 1 < (bt202.1.length : Int) then (if ((rd_T38 bt202.1 1).f2).toList = ([98] : List UInt8) then (some (bt212.2 == 1)) else (some false)) else (none)) else (some false)) else (none)) else (some false)) else (some false)))) = some r := by first | (rw [hy199]; with_reducible exact H) | (have H2_ := (Option.bind_some _ _).symm.trans H; rw [hy199]; with_reducible exact H2_) | (have H2_ := (Option.bind_some _ _).symm.trans H; with_reducible exact H2_) | with_reducible exact H | (rw [hy199]; exact H) | exact H
 have Ny199 := A0_ hy199
 clear hy199
 replace H := Option.bind_eq_some_iff.mp H
 obtain ⟨⟨t202, t205⟩, A10, H⟩ := H
 replace H : ((union_Union.f (([(([(⟨(⟨#[]⟩ : ByteArray), (⟨#[]⟩ : ByteArray), (⟨#[]⟩ : ByteArray), 0, (⟨0, 0, 0, 0⟩ : S24), ([] : List Int)⟩ : S38)] : List (S38)))] : List (List (S38))))).bind fun bt212 => (if t205 = 0 then (if (t202.length : Int) = 2 then (if 0 < (t202.length : Int) then (if ((rd_T38 t202 0).f3) = 53 then (if 1 < (t202.length : Int) then (if ((rd_T38 t202 1).f2).toList = ([98] : List UInt8) then (some (bt212.2 == 1)) else (some false)) else (none)) else (some false)) else (none)) else (some false)) else (some false))) = some r := H
 have A1 := A0_ A10
 clear A10
 obtain ⟨y206, hy206⟩ : ∃ y_ : List (S38), y_ = (([(⟨(⟨#[]⟩ : ByteArray), (⟨#[]⟩ : ByteArray), (⟨#[]⟩ : ByteArray), 0, (⟨0, 0, 0, 0⟩ : S24), ([] : List Int)⟩ : S38)] : List (S38))) := ⟨_, rfl⟩
 replace H : ((union_Union.f (([y206] : List (List (S38))))).bind fun bt212 => (if t205 = 0 then (if (t202.length : Int) = 2 then (if 0 < (t202.length : Int) then (if ((rd_T38 t202 0).f3) = 53 then (if 1 < (t202.length : Int) then (if ((rd_T38 t202 1).f2).toList = ([98] : List UInt8) then (some (bt212.2 == 1)) else (some false)) else (none)) else (some false)) else (none)) else (some false)) else (some false))) = some r := by first | (rw [hy206]; with_reducible exact H) | (have H2_ := (Option.bind_some _ _).symm.trans H; rw [hy206]; with_reducible exact H2_) | (have H2_ := (Option.bind_some _ _).symm.trans H; with_reducible exact H2_) | with_reducible exact H | (rw [hy206]; exact H) | exact H
 have Ny206 := A0_ hy206
 clear hy206
 obtain ⟨y209, hy209⟩ : ∃ y_ : List (List (S38)), y_ = (([y206] : List (List (S38)))) := ⟨_, rfl⟩
 replace H : ((union_Union.f y209).bind fun bt212 => (if t205 = 0 then (if (t202.length : Int) = 2 then (if 0 < (t202.length : Int) then (if ((rd_T38 t202 0).f3) = 53 then (if 1 < (t202.length : Int) then (if ((rd_T38 t202 1).f2).toList = ([98] : List UInt8) then (some (bt212.2 == 1)) else (some false)) else (none)) else (some false)) else (none)) else (some false)) else (some false))) = some r := by first | (rw [hy209]; with_reducible exact H) | (have H2_ := (Option.bind_some _ _).symm.trans H; rw [hy209]; with_reducible exact H2_) | (have H2_ := (Option.bind_some _ _).symm.trans H; with_reducible exact H2_) | with_reducible exact H | (rw [hy209]; exact H) | exact H
 have Ny209 := A0_ hy209
 clear hy209
 replace H := Option.bind_eq_some_iff.mp H
 obtain ⟨⟨t212, t215⟩, A20, H⟩ := H
 replace H : (if t205 = 0 then (if (t202.length : Int) = 2 then (if 0 < (t202.length : Int) then (if ((rd_T38 t202 0).f3) = 53 then (if 1 < (t202.length : Int) then (if ((rd_T38 t202 1).f2).toList = ([98] : List UInt8) then (some (t215 == 1)) else (some false)) else (none)) else (some false)) else (none)) else (some false)) else (some false)) = some r := H
 have A2 := A0_ A20
 clear A20
 by_cases c3 : t205 = 0
 rotate_left
 ·rw [if_neg c3] at H
  have c3b0 : (t205 == 0) = false := beq_eq_false_iff_ne.mpr c3
  have c3b1 : (t205 != 0) = true := bne_iff_ne.mpr c3
  exact absurd ((Option.some.inj H).trans hr_) (by decide)
 rw [if_pos c3] at H
 have c3b0 : (t205 == 0) = true := beq_iff_eq.mpr c3
 have c3b1 : (t205 != 0) = false := bne_eq_false_iff_eq.mpr c3
 clear c3
 by_cases c4 : (t202.length : Int) = 2
 rotate_left
 ·rw [if_neg c4] at H
  have c4b0 : ((t202.length : Int) == 2) = false := beq_eq_false_iff_ne.mpr c4
  have c4b1 : ((t202.length : Int) != 2) = true := bne_iff_ne.mpr c4
  exact absurd ((Option.some.inj H).trans hr_) (by decide)
 rw [if_pos c4] at H
 have c4b0 : ((t202.length : Int) == 2) = true := beq_iff_eq.mpr c4
 have c4b1 : ((t202.length : Int) != 2) = false := bne_eq_false_iff_eq.mpr c4
 clear c4
 by_cases c5 : 0 < (t202.length : Int)
 rotate_left
 ·rw [if_neg c5] at H
  exact absurd H (by simp)
 rw [if_pos c5] at H
 have c5b0 : decide (0 < (t202.length : Int)) = true := decide_eq_true c5
 have c5b1 : decide (0 < t202.length) = true := decide_eq_true (by omega)
 clear c5
 by_cases c6 : ((rd_T38 t202 0).f3) = 53
 rotate_left
 ·rw [if_neg c6] at H
  have c6b0 : (((rd_T38 t202 0).f3) == 53) = false := beq_eq_false_iff_ne.mpr c6
  have c6b1 : (((rd_T38 t202 0).f3) != 53) = true := bne_iff_ne.mpr c6
  exact absurd ((Option.some.inj H).trans hr_) (by decide)
 rw [if_pos c6] at H
 have c6b0 : (((rd_T38 t202 0).f3) == 53) = true := beq_iff_eq.mpr c6
 have c6b1 : (((rd_T38 t202 0).f3) != 53) = false := bne_eq_false_iff_eq.mpr c6
 clear c6
 by_cases c7 : 1 < (t202.length : Int)
 rotate_left
 ·rw [if_neg c7] at H
  exact absurd H (by simp)
 rw [if_pos c7] at H
 have c7b0 : decide (1 < (t202.length : Int)) = true := decide_eq_true c7
 have c7b1 : decide (1 < t202.length) = true := decide_eq_true (by omega)
 clear c7
 by_cases c8 : ((rd_T38 t202 1).f2).toList = ([98] : List UInt8)
 rotate_left
 ·rw [if_neg c8] at H
  have c8b0 : (((rd_T38 t202 1).f2).toList == ([98] : List UInt8)) = false := beq_eq_false_iff_ne.mpr c8
  have c8b1 : (((rd_T38 t202 1).f2).toList != ([98] : List UInt8)) = true := bne_iff_ne.mpr c8
  exact absurd ((Option.some.inj H).trans hr_) (by decide)
 rw [if_pos c8] at H
 have c8b0 : (((rd_T38 t202 1).f2).toList == ([98] : List UInt8)) = true := beq_iff_eq.mpr c8
 have c8b1 : (((rd_T38 t202 1).f2).toList != ([98] : List UInt8)) = false := bne_eq_false_iff_eq.mpr c8
 clear c8
 clear hr_
 obtain rfl := Option.some.inj H
 go_enter Tryd.func22, Tryd.ntmps22
 go_wp2_with (first | ((with_reducible refine gate_dst (N := 8) rfl ?_); (try (refine gate_guard (by rfl) ?_; dsimp only)); refine Kd.N_lit k38 _ 38 ?hg (N' := 8) ?hd (xs := ([(⟨(⟨#[97]⟩ : ByteArray), (⟨#[]⟩ : ByteArray), (⟨#[97]⟩ : ByteArray), 48, (⟨0, 0, 0, 0⟩ : S24), ([] : List Int)⟩ : S38), (⟨(⟨#[98]⟩ : ByteArray), (⟨#[]⟩ : ByteArray), (⟨#[97]⟩ : ByteArray), 48, (⟨0, 0, 0, 0⟩ : S24), ([] : List Int)⟩ : S38)] : List (S38))) (inner := [.string (⟨#[97]⟩ : ByteArray), .string (⟨#[]⟩ : ByteArray), .string (⟨#[97]⟩ : ByteArray), .int .u8 48, .int .i64 0, .int .i64 0, .int .i64 0, .int .i64 0, .slice none 0 0, .string (⟨#[98]⟩ : ByteArray), .string (⟨#[]⟩ : ByteArray), .string (⟨#[97]⟩ : ByteArray), .int .u8 48, .int .i64 0, .int .i64 0, .int .i64 0, .int .i64 0, .slice none 0 0]) (ok := (fun _ => True)) (okp := (fun _ => True)) ?hr ?hp (fun _ hk => hk) ((show ∀ k_, w.heap.size ≤ k_ → (fun _ => True) k_ from fun k_ hk => trivial) _ (Nat.le_refl _)) (Below.refl _ _) (Nat.le_refl _) (by simp) ?_; (case hd => rfl); (case hg => rfl); (case hr => first | (go_simp; done) | (go_simp; rfl)); (case hp => exact (Reps.c9 (show Kd.FK k38 _ _ (⟨(⟨#[97]⟩ : ByteArray), (⟨#[]⟩ : ByteArray), (⟨#[97]⟩ : ByteArray), 48, (⟨0, 0, 0, 0⟩ : S24), ([] : List Int)⟩ : S38) [.string (⟨#[97]⟩ : ByteArray), .string (⟨#[]⟩ : ByteArray), .string (⟨#[97]⟩ : ByteArray), .int .u8 48, .int .i64 0, .int .i64 0, .int .i64 0, .int .i64 0, .slice none 0 0] from (k38_mkF _ _ (⟨(⟨#[97]⟩ : ByteArray), (⟨#[]⟩ : ByteArray), (⟨#[97]⟩ : ByteArray), 48, (⟨0, 0, 0, 0⟩ : S24), ([] : List Int)⟩ : S38) (Nat.le_refl _) (Kd.F_nil _ _ _))) (Reps.c9 (show Kd.FK k38 _ _ (⟨(⟨#[98]⟩ : ByteArray), (⟨#[]⟩ : ByteArray), (⟨#[97]⟩ : ByteArray), 48, (⟨0, 0, 0, 0⟩ : S24), ([] : List Int)⟩ : S38) [.string (⟨#[98]⟩ : ByteArray), .string (⟨#[]⟩ : ByteArray), .string (⟨#[97]⟩ : ByteArray), .int .u8 48, .int .i64 0, .int .i64 0, .int .i64 0, .int .i64 0, .slice none 0 0] from (k38_mkF _ _ (⟨(⟨#[98]⟩ : ByteArray), (⟨#[]⟩ : ByteArray), (⟨#[97]⟩ : ByteArray), 48, (⟨0, 0, 0, 0⟩ : S24), ([] : List Int)⟩ : S38) (Nat.le_refl _) (Kd.F_nil _ _ _))) (Reps.none _ _)))); intro v194 w9 ho10 hb hg_ hnew_; clear hg_ hnew_; (first | rw [← Ny193.out] at ho10 | (simp only [Int.reduceToNat] at ho10; rw [← Ny193.out] at ho10)); have n0_ := A0_ (Kd.N_lower ho10 (below_size (wb_ HB.out))); have n1_ := A0_ (below_step (wb_ HB.out) hb); clear HB; have HO195 := n0_; have HB := n1_; clear n0_ n1_; clear hb ho10) | ((with_reducible refine gate_dst (N := 12) rfl ?_); (try (refine gate_guard (by rfl) ?_; dsimp only)); refine Kd.N_lit k38 _ 38 ?hg (N' := 12) ?hd (xs := ([(⟨(⟨#[97]⟩ : ByteArray), (⟨#[]⟩ : ByteArray), (⟨#[]⟩ : ByteArray), 53, (⟨0, 0, 0, 0⟩ : S24), ([] : List Int)⟩ : S38)] : List (S38))) (inner := [.string (⟨#[97]⟩ : ByteArray), .string (⟨#[]⟩ : ByteArray), .string (⟨#[]⟩ : ByteArray), .int .u8 53, .int .i64 0, .int .i64 0, .int .i64 0, .int .i64 0, .slice none 0 0]) (ok := (fun k_ => some k_ ≠ (v194 : Value).ownBlock)) (okp := (fun k_ => some k_ ≠ (v194 : Value).ownBlock)) ?hr ?hp (fun _ hk => hk) ((show ∀ k_, w9.heap.size ≤ k_ → (fun k_ => some k_ ≠ (v194 : Value).ownBlock) k_ from fun k_ hk => Kd.fresh' (Kd.N_lt (wN_ HO195.out)) k_ hk) _ (Nat.le_refl _)) (Below.refl _ _) (Nat.le_refl _) (by simp) ?_; (case hd => rfl); (case hg => rfl); (case hr => first | (go_simp; done) | (go_simp; rfl)); (case hp => exact (Reps.c9 (show Kd.FK k38 _ _ (⟨(⟨#[97]⟩ : ByteArray), (⟨#[]⟩ : ByteArray), (⟨#[]⟩ : ByteArray), 53, (⟨0, 0, 0, 0⟩ : S24), ([] : List Int)⟩ : S38) [.string (⟨#[97]⟩ : ByteArray), .string (⟨#[]⟩ : ByteArray), .string (⟨#[]⟩ : ByteArray), .int .u8 53, .int .i64 0, .int .i64 0, .int .i64 0, .int .i64 0, .slice none 0 0] from (k38_mkF _ _ (⟨(⟨#[97]⟩ : ByteArray), (⟨#[]⟩ : ByteArray), (⟨#[]⟩ : ByteArray), 53, (⟨0, 0, 0, 0⟩ : S24), ([] : List Int)⟩ : S38) (Nat.le_refl _) (Kd.F_nil _ _ _))) (Reps.none _ _))); intro v197 w11 ho12 hb hg_ hnew_; clear hg_ hnew_; (first | rw [← Ny196.out] at ho12 | (simp only [Int.reduceToNat] at ho12; rw [← Ny196.out] at ho12)); have n0_ := A0_ (Kd.N_elder' (wN_ HO195.out) (Kd.N_base ho12) hb); have n1_ := A0_ (Kd.N_lower ho12 (below_size (wb_ HB.out))); have n2_ := A0_ (below_step (wb_ HB.out) hb); clear HO195; clear HB; have HO195 := n0_; have HO198 := n1_; have HB := n2_; clear n0_ n1_ n2_; clear hb ho12; obtain ⟨Ao13, co13, eo13⟩ := Kd.N_slice HO195.out; subst eo13; obtain ⟨Ao14, co14, eo14⟩ := Kd.N_slice HO198.out; subst eo14) | ((with_reducible refine gate_dst (N := 13) rfl ?_); (try (refine gate_guard (by rfl) ?_; dsimp only)); refine Kd.N_lit (Kd.slice 38 k38) _ 31 ?hg (N' := 13) ?hd (xs := ([y193, y196] : List (List (S38)))) (inner := [.slice Ao13 y193.length co13, .slice Ao14 y196.length co14]) (ok := (fun _ => True)) (okp := (fun _ => True)) ?hr ?hp (fun _ hk => hk) ((show ∀ k_, w11.heap.size ≤ k_ → (fun _ => True) k_ from fun k_ hk => trivial) _ (Nat.le_refl _)) (Below.refl _ _) (Nat.le_refl _) (by simp) ?_; (case hd => rfl); (case hg => rfl); (case hr => first | (go_simp; done) | (go_simp; rfl)); (case hp => exact (Reps.one (show Kd.FK (Kd.slice 38 k38) _ _ y193 [.slice Ao13 y193.length co13] from (Kd.FK_slice_mk (Kd.N_reads' (Kd.N_mono (ok' := (fun _ => True)) (HO195.out) (fun k_ hk => trivial))).2.1 (Kd.N_F (Kd.N_mono (ok' := (fun _ => True)) (HO195.out) (fun k_ hk => trivial))))) (Reps.one (show Kd.FK (Kd.slice 38 k38) _ _ y196 [.slice Ao14 y196.length co14] from (Kd.FK_slice_mk (Kd.N_reads' (Kd.N_mono (ok' := (fun _ => True)) (HO198.out) (fun k_ hk => trivial))).2.1 (Kd.N_F (Kd.N_mono (ok' := (fun _ => True)) (HO198.out) (fun k_ hk => trivial))))) (Reps.none _ _)))); intro v200 w15 ho16 hb hg_ hnew_; clear hg_ hnew_; (first | rw [← Ny199.out] at ho16 | (simp only [Int.reduceToNat] at ho16; rw [← Ny199.out] at ho16)); have n0_ := A0_ (Kd.N_lower ho16 (below_size (wb_ HB.out))); have n1_ := A0_ (below_step (wb_ HB.out) hb); clear HB; clear HO195; clear HO198; have HO201 := n0_; have HB := n1_; clear n0_ n1_; clear hb ho16; obtain ⟨Ao17, co17, eo17⟩ := Kd.N_slice HO201.out; subst eo17) | ((with_reducible refine gate_callee (f := 23) rfl ?_); refine goesL_ (some 14) rfl rfl Tryd.func23 (by kernel_rfl) rfl #[.slice Ao17 y199.length co17] rfl wm_ ?_; (with_reducible refine (union_Union.calls _ _ y199 t202 t205 _ ?side1 ?side2 ?side3 A1.out).mono ?_); (case side1 => exact A0_ (Tabs.below hT.out (wb_ HB.out))); (case side2 => exact wc_ (Kd.N_reads' HO201.out).2.2); (case side3 => exact (Kd.N_reads' HO201.out).2.1); rintro e w18 ⟨v203, rfl, ho0, hb⟩; refine ⟨_, rfl, ?_⟩; have n0_ := A0_ (Kd.N_below (wN_ HO201.out) hb); have n1_ := A0_ (Kd.V_lower (Kd.V_mono (ok' := fun k_ => some k_ ≠ (.slice Ao17 y199.length co17 : Value).ownBlock) ho0 (fun k_ hk_ => (Kd.fresh' (Kd.N_lt (wN_ HO201.out)) k_ hk_))) (below_size (wb_ HB.out))); have n2_ := A0_ (below_step (wb_ HB.out) hb); clear HO201; clear HB; have HO201 := n0_; have HO204 := n1_; have HB := n2_; clear n0_ n1_ n2_; (try clear hb); (try clear hb2); (try clear hk); (try clear hi); (try clear ho0)) | ((with_reducible refine gate_dst (N := 19) rfl ?_); (try (refine gate_guard (by rfl) ?_; dsimp only)); refine Kd.N_lit k38 _ 38 ?hg (N' := 19) ?hd (xs := ([(⟨(⟨#[]⟩ : ByteArray), (⟨#[]⟩ : ByteArray), (⟨#[]⟩ : ByteArray), 0, (⟨0, 0, 0, 0⟩ : S24), ([] : List Int)⟩ : S38)] : List (S38))) (inner := [.string (⟨#[]⟩ : ByteArray), .string (⟨#[]⟩ : ByteArray), .string (⟨#[]⟩ : ByteArray), .int .u8 0, .int .i64 0, .int .i64 0, .int .i64 0, .int .i64 0, .slice none 0 0]) (ok := (fun k_ => some k_ ≠ (.slice Ao17 y199.length co17 : Value).ownBlock)) (okp := (fun k_ => some k_ ≠ (.slice Ao17 y199.length co17 : Value).ownBlock)) ?hr ?hp (fun _ hk => hk) ((show ∀ k_, w18.heap.size ≤ k_ → (fun k_ => some k_ ≠ (.slice Ao17 y199.length co17 : Value).ownBlock) k_ from fun k_ hk => Kd.fresh' (Kd.N_lt (wN_ HO201.out)) k_ hk) _ (Nat.le_refl _)) (Below.refl _ _) (Nat.le_refl _) (by simp) ?_; (case hd => rfl); (case hg => rfl); (case hr => first | (go_simp; done) | (go_simp; rfl)); (case hp => exact (Reps.c9 (show Kd.FK k38 _ _ (⟨(⟨#[]⟩ : ByteArray), (⟨#[]⟩ : ByteArray), (⟨#[]⟩ : ByteArray), 0, (⟨0, 0, 0, 0⟩ : S24), ([] : List Int)⟩ : S38) [.string (⟨#[]⟩ : ByteArray), .string (⟨#[]⟩ : ByteArray), .string (⟨#[]⟩ : ByteArray), .int .u8 0, .int .i64 0, .int .i64 0, .int .i64 0, .int .i64 0, .slice none 0 0] from (k38_mkF _ _ (⟨(⟨#[]⟩ : ByteArray), (⟨#[]⟩ : ByteArray), (⟨#[]⟩ : ByteArray), 0, (⟨0, 0, 0, 0⟩ : S24), ([] : List Int)⟩ : S38) (Nat.le_refl _) (Kd.F_nil _ _ _))) (Reps.none _ _))); intro v207 w19 ho20 hb hg_ hnew_; clear hg_ hnew_; (first | rw [← Ny206.out] at ho20 | (simp only [Int.reduceToNat] at ho20; rw [← Ny206.out] at ho20)); have n0_ := A0_ (Kd.N_elder' (wN_ HO201.out) (Kd.N_base ho20) hb); have n1_ := A0_ (Kd.V_elder' (wV_ HO204.out) (Kd.N_base ho20) hb); have n2_ := A0_ (Kd.N_lower ho20 (below_size (wb_ HB.out))); have n3_ := A0_ (below_step (wb_ HB.out) hb); clear HO201; clear HO204; clear HB; have HO201 := n0_; have HO204 := n1_; have HO208 := n2_; have HB := n3_; clear n0_ n1_ n2_ n3_; clear hb ho20; obtain ⟨Ao21, co21, eo21⟩ := Kd.N_slice HO208.out; subst eo21) | ((with_reducible refine gate_dst (N := 20) rfl ?_); (try (refine gate_guard (by rfl) ?_; dsimp only)); refine Kd.N_lit (Kd.slice 38 k38) _ 31 ?hg (N' := 20) ?hd (xs := ([y206] : List (List (S38)))) (inner := [.slice Ao21 y206.length co21]) (ok := (fun k_ => some k_ ≠ (.slice Ao17 y199.length co17 : Value).ownBlock)) (okp := (fun k_ => some k_ ≠ (.slice Ao17 y199.length co17 : Value).ownBlock)) ?hr ?hp (fun _ hk => hk) ((show ∀ k_, w19.heap.size ≤ k_ → (fun k_ => some k_ ≠ (.slice Ao17 y199.length co17 : Value).ownBlock) k_ from fun k_ hk => Kd.fresh' (Kd.N_lt (wN_ HO201.out)) k_ hk) _ (Nat.le_refl _)) (Below.refl _ _) (Nat.le_refl _) (by simp) ?_; (case hd => rfl); (case hg => rfl); (case hr => first | (go_simp; done) | (go_simp; rfl)); (case hp => exact (Reps.one (show Kd.FK (Kd.slice 38 k38) _ _ y206 [.slice Ao21 y206.length co21] from (Kd.FK_slice_mk (Kd.N_reads' (Kd.N_mono (ok' := (fun k_ => some k_ ≠ (.slice Ao17 y199.length co17 : Value).ownBlock)) (HO208.out) (fun k_ hk => hk))).2.1 (Kd.N_F (Kd.N_mono (ok' := (fun k_ => some k_ ≠ (.slice Ao17 y199.length co17 : Value).ownBlock)) (HO208.out) (fun k_ hk => hk))))) (Reps.none _ _))); intro v210 w22 ho23 hb hg_ hnew_; clear hg_ hnew_; (first | rw [← Ny209.out] at ho23 | (simp only [Int.reduceToNat] at ho23; rw [← Ny209.out] at ho23)); have n0_ := A0_ (Kd.N_elder' (wN_ HO201.out) (Kd.N_base ho23) hb); have n1_ := A0_ (Kd.V_elder' (wV_ HO204.out) (Kd.N_base ho23) hb); have n2_ := A0_ (Kd.N_lower ho23 (below_size (wb_ HB.out))); have n3_ := A0_ (below_step (wb_ HB.out) hb); clear HO201; clear HO204; clear HB; clear HO208; have HO201 := n0_; have HO204 := n1_; have HO211 := n2_; have HB := n3_; clear n0_ n1_ n2_ n3_; clear hb ho23; obtain ⟨Ao24, co24, eo24⟩ := Kd.N_slice HO211.out; subst eo24) | ((with_reducible refine gate_callee (f := 23) rfl ?_); refine goesL_ (some 21) rfl rfl Tryd.func23 (by kernel_rfl) rfl #[.slice Ao24 y209.length co24] rfl wm_ ?_; (with_reducible refine (union_Union.calls _ _ y209 t212 t215 _ ?side1 ?side2 ?side3 A2.out).mono ?_); (case side1 => exact A0_ (Tabs.below hT.out (wb_ HB.out))); (case side2 => exact wc_ (Kd.N_reads' HO211.out).2.2); (case side3 => exact (Kd.N_reads' HO211.out).2.1); rintro e w25 ⟨v213, rfl, ho0, hb⟩; refine ⟨_, rfl, ?_⟩; have n0_ := A0_ (Kd.N_below (wN_ HO201.out) hb); have n1_ := A0_ (Vb_ (wV_ HO204.out) hb); have n2_ := A0_ (Kd.N_below (wN_ HO211.out) hb); have n3_ := A0_ (Kd.V_lower (Kd.V_mono (ok' := fun k_ => some k_ ≠ (.slice Ao17 y199.length co17 : Value).ownBlock ∧ some k_ ≠ (.slice Ao24 y209.length co24 : Value).ownBlock) ho0 (fun k_ hk_ => ⟨(Kd.fresh' (Kd.N_lt (wN_ HO201.out)) k_ hk_), (Kd.fresh' (Kd.N_lt (wN_ HO211.out)) k_ hk_)⟩)) (below_size (wb_ HB.out))); have n4_ := A0_ (below_step (wb_ HB.out) hb); clear HO201; clear HO204; clear HO211; clear HB; have HO201 := n0_; have HO204 := n1_; have HO211 := n2_; have HO214 := n3_; have HB := n4_; clear n0_ n1_ n2_ n3_ n4_; (try clear hb); (try clear hb2); (try clear hk); (try clear hi); (try clear ho0); obtain ⟨Ao26, co26, eo26⟩ := Kd.V_slice HO204.out; subst eo26; have p216 : 0 ≤ (0 : Int) := (by omega); have q216 : 0 < (t202.length : Int) := wd_; obtain ⟨ad216, A216_8, c216_8, e216, hx216_0, hx216_1, hx216_2, hx216_3, hx216_4, hx216_5, hx216_6, hx216_7, hx216_8, hl216_8, hi216_8⟩ := at_T38 (Kd.V_reads' HO204.out).2.2 0 p216 q216; cases e216; obtain ⟨ce216, hce216, hMe216, hcc216⟩ := Kd.V_get HO204.out z38 0 p216 (by first | exact q216 | exact wd_ | (have e_ := (Kd.V_reads' HO204.out).1; omega)); obtain ⟨ua216_8, uc216_8, rfl, ul216_8, ge216_8⟩ := k38_openF hMe216; have hv216_8 := hcc216 8 _ rfl; rw [add_field _ _ 8 (by omega)] at hv216_8; replace hv216_8 := Option.some.inj (hv216_8.symm.trans hx216_8); injection hv216_8 with hva_ hvn_ hvc_; rw [hva_] at ge216_8; rw [hvc_] at ul216_8; have HL216_8 := A0_ (show Kd.V (Kd.int .u8) 5 _ w.heap.size _ _ ((rd_T38 t202 0).f5) from Kd.V_mk ul216_8 ge216_8); clear hva_ hvn_ hvc_ ge216_8 ul216_8; clear hcc216 hce216; have qi216 : (0 < t202.length) = True := eq_true (by omega); (try rw [show ((0 : Int)).toNat = 0 from rfl] at hx216_0); (try rw [show 0 * 9 = 0 from rfl] at hx216_0); (try rw [Addr.add_zero'] at hx216_0); (try rw [show ((0 : Int)).toNat = 0 from rfl] at hx216_1); (try rw [show 0 * 9 = 0 from rfl] at hx216_1); (try rw [Addr.add_zero'] at hx216_1); (try rw [show ((0 : Int)).toNat = 0 from rfl] at hx216_2); (try rw [show 0 * 9 = 0 from rfl] at hx216_2); (try rw [Addr.add_zero'] at hx216_2); (try rw [show ((0 : Int)).toNat = 0 from rfl] at hx216_3); (try rw [show 0 * 9 = 0 from rfl] at hx216_3); (try rw [Addr.add_zero'] at hx216_3); (try rw [show ((0 : Int)).toNat = 0 from rfl] at hx216_4); (try rw [show 0 * 9 = 0 from rfl] at hx216_4); (try rw [Addr.add_zero'] at hx216_4); (try rw [show ((0 : Int)).toNat = 0 from rfl] at hx216_5); (try rw [show 0 * 9 = 0 from rfl] at hx216_5); (try rw [Addr.add_zero'] at hx216_5); (try rw [show ((0 : Int)).toNat = 0 from rfl] at hx216_6); (try rw [show 0 * 9 = 0 from rfl] at hx216_6); (try rw [Addr.add_zero'] at hx216_6); (try rw [show ((0 : Int)).toNat = 0 from rfl] at hx216_7); (try rw [show 0 * 9 = 0 from rfl] at hx216_7); (try rw [Addr.add_zero'] at hx216_7); (try rw [show ((0 : Int)).toNat = 0 from rfl] at hx216_8); (try rw [show 0 * 9 = 0 from rfl] at hx216_8); (try rw [Addr.add_zero'] at hx216_8); have HR216_8 := A0_ hi216_8; have HC216_8 := A0_ hl216_8; clear hi216_8 hl216_8; replace p216 := eq_true p216; replace q216 := eq_true q216; have p217 : 0 ≤ (1 : Int) := (by omega); have q217 : 1 < (t202.length : Int) := wd_; obtain ⟨ad217, A217_8, c217_8, e217, hx217_0, hx217_1, hx217_2, hx217_3, hx217_4, hx217_5, hx217_6, hx217_7, hx217_8, hl217_8, hi217_8⟩ := at_T38 (Kd.V_reads' HO204.out).2.2 1 p217 q217; obtain rfl : ad216 = ad217 := (by injection e217); obtain ⟨ce217, hce217, hMe217, hcc217⟩ := Kd.V_get HO204.out z38 1 p217 (by first | exact q217 | exact wd_ | (have e_ := (Kd.V_reads' HO204.out).1; omega)); obtain ⟨ua217_8, uc217_8, rfl, ul217_8, ge217_8⟩ := k38_openF hMe217; have hv217_8 := hcc217 8 _ rfl; rw [add_field _ _ 8 (by omega)] at hv217_8; replace hv217_8 := Option.some.inj (hv217_8.symm.trans hx217_8); injection hv217_8 with hva_ hvn_ hvc_; rw [hva_] at ge217_8; rw [hvc_] at ul217_8; have HL217_8 := A0_ (show Kd.V (Kd.int .u8) 5 _ w.heap.size _ _ ((rd_T38 t202 1).f5) from Kd.V_mk ul217_8 ge217_8); clear hva_ hvn_ hvc_ ge217_8 ul217_8; clear hcc217 hce217; (try simp only [one_n, Nat.reduceMul, Nat.reduceEqDiff, Go.Addr.add, ↓reduceIte] at hx217_0); (try simp only [one_n, Nat.reduceMul, Nat.reduceEqDiff, Go.Addr.add, ↓reduceIte] at hx217_1); (try simp only [one_n, Nat.reduceMul, Nat.reduceEqDiff, Go.Addr.add, ↓reduceIte] at hx217_2); (try simp only [one_n, Nat.reduceMul, Nat.reduceEqDiff, Go.Addr.add, ↓reduceIte] at hx217_3); (try simp only [one_n, Nat.reduceMul, Nat.reduceEqDiff, Go.Addr.add, ↓reduceIte] at hx217_4); (try simp only [one_n, Nat.reduceMul, Nat.reduceEqDiff, Go.Addr.add, ↓reduceIte] at hx217_5); (try simp only [one_n, Nat.reduceMul, Nat.reduceEqDiff, Go.Addr.add, ↓reduceIte] at hx217_6); (try simp only [one_n, Nat.reduceMul, Nat.reduceEqDiff, Go.Addr.add, ↓reduceIte] at hx217_7); (try simp only [one_n, Nat.reduceMul, Nat.reduceEqDiff, Go.Addr.add, ↓reduceIte] at hx217_8); have qi217 : (1 < t202.length) = True := eq_true (by omega); (try rw [show ((1 : Int)).toNat = 1 from rfl] at hx217_0); (try rw [show 1 * 9 = 9 from rfl] at hx217_0); (try rw [show ((1 : Int)).toNat = 1 from rfl] at hx217_1); (try rw [show 1 * 9 = 9 from rfl] at hx217_1); (try rw [show ((1 : Int)).toNat = 1 from rfl] at hx217_2); (try rw [show 1 * 9 = 9 from rfl] at hx217_2); (try rw [show ((1 : Int)).toNat = 1 from rfl] at hx217_3); (try rw [show 1 * 9 = 9 from rfl] at hx217_3); (try rw [show ((1 : Int)).toNat = 1 from rfl] at hx217_4); (try rw [show 1 * 9 = 9 from rfl] at hx217_4); (try rw [show ((1 : Int)).toNat = 1 from rfl] at hx217_5); (try rw [show 1 * 9 = 9 from rfl] at hx217_5); (try rw [show ((1 : Int)).toNat = 1 from rfl] at hx217_6); (try rw [show 1 * 9 = 9 from rfl] at hx217_6); (try rw [show ((1 : Int)).toNat = 1 from rfl] at hx217_7); (try rw [show 1 * 9 = 9 from rfl] at hx217_7); (try rw [show ((1 : Int)).toNat = 1 from rfl] at hx217_8); (try rw [show 1 * 9 = 9 from rfl] at hx217_8); have HR217_8 := A0_ hi217_8; have HC217_8 := A0_ hl217_8; clear hi217_8 hl217_8; replace p217 := eq_true p217; replace q217 := eq_true q217))
 go_ret
 exact ⟨we_, wb_ HB.out⟩
end Go.Proofs.YtfmphccoeinhcaaDoor.Print

namespace Go.Proofs.YtfmphccoeinhcaaDoor.Print
open Go.RowKit Go.Proofs.YtfmphccoeinhcaaDoorW.PrintWords Go.Proofs.YtfmphccoeinhcaaDoorW.PrintLast Go.Proofs.YtfmphccoeinhcaaDoorW.PrintMore
attribute [local go_sem] max2_int min2_int max_two min_two max_three min_three max_four min_four   -- for this text's walks alone
set_option linter.unusedVariables false
set_option linter.unusedSimpArgs false
abbrev q6_0 : Array Bool := #[false, false, false, false, false, false, false, false, false, false, false]
abbrev q6_1 : Array Bool := #[true, false, false, false, false, false, false, false, false, false, false]
abbrev q6_2 : Array Bool := #[true, true, false, false, false, false, false, false, false, false, false]
abbrev q6_3 : Array Bool := #[true, true, true, false, false, false, false, false, false, false, false]
abbrev q6_4 : Array Bool := #[true, true, true, true, false, false, false, false, false, false, false]
abbrev q6_5 : Array Bool := #[true, true, true, true, true, false, false, false, false, false, false]
abbrev q6_6 : Array Bool := #[true, true, true, true, true, true, false, false, false, false, false]
abbrev q6_7 : Array Bool := #[true, true, true, true, true, true, true, false, false, false, false]
abbrev q6_8 : Array Bool := #[true, true, true, true, true, true, true, true, false, false, false]
abbrev q6_9 : Array Bool := #[true, true, true, true, true, true, true, true, true, false, false]
abbrev q6_10 : Array Bool := #[true, true, true, true, true, true, true, true, true, true, false]
abbrev q6_11 : Array Bool := #[true, true, true, true, true, true, true, true, true, true, true]
abbrev q6_12 : Array Bool := #[true, true, true, false, true, false, false, false, false, false, false]
abbrev q6_13 : Array Bool := #[true, true, true, false, true, true, false, false, false, false, false]
abbrev q6_14 : Array Bool := #[true, true, true, false, true, true, true, false, false, false, false]
abbrev q6_15 : Array Bool := #[false, false, false, false, false, false, false, false, false, false, false, false, false, false, false]
abbrev q6_16 : Array Bool := #[true, false, false, false, false, false, false, false, false, false, false, false, false, false, false]
abbrev q6_17 : Array Bool := #[true, true, false, false, false, false, false, false, false, false, false, false, false, false, false]
abbrev q6_18 : Array Bool := #[true, true, true, false, false, false, false, false, false, false, false, false, false, false, false]
abbrev q6_19 : Array Bool := #[true, true, true, true, false, false, false, false, false, false, false, false, false, false, false]
abbrev q6_20 : Array Bool := #[true, true, true, true, true, false, false, false, false, false, false, false, false, false, false]
abbrev q6_21 : Array Bool := #[true, true, true, true, true, true, false, false, false, false, false, false, false, false, false]
abbrev q6_22 : Array Bool := #[true, true, true, true, true, true, true, false, false, false, false, false, false, false, false]
abbrev q6_23 : Array Bool := #[true, true, true, true, true, true, true, true, false, false, false, false, false, false, false]
abbrev q6_24 : Array Bool := #[true, true, true, true, true, true, true, true, true, false, false, false, false, false, false]
abbrev q6_25 : Array Bool := #[true, true, true, true, true, true, true, true, true, true, false, false, false, false, false]
abbrev q6_26 : Array Bool := #[true, true, true, true, true, true, true, true, true, true, true, false, false, false, false]
abbrev q6_27 : Array Bool := #[true, true, true, true, true, true, true, true, true, true, true, true, false, false, false]
abbrev q6_28 : Array Bool := #[true, true, true, true, true, true, true, true, true, true, true, true, true, false, false]
abbrev q6_29 : Array Bool := #[true, true, true, true, true, true, true, true, true, true, true, true, true, true, false]
abbrev q6_30 : Array Bool := #[true, true, true, true, true, true, true, true, true, true, true, true, true, true, true]
abbrev q6_31 : Array Bool := #[true, true, true, true, true, true, false, true, false, false, false, false, false, false, false]
abbrev q6_32 : Array Bool := #[true, true, true, true, true, true, false, true, true, false, false, false, false, false, false]
abbrev q6_33 : Array Bool := #[true, true, true, true, true, true, false, true, true, true, false, false, false, false, false]
mutual
def bindlelaw19_UnionLast.j0 : Nat → List (S38) → List (S38) → Bool → Option (Bool)
 | 0, _, _, _ => none
 | k + 1, x0, x1, x30 => if x30 = true then ((bindlelaw19_answers.f).bind fun t343 => (some t343)) else ((union_Union.f (([x0, x1] : List (List (S38))))).bind fun bt347 => (bindlelaw19_UnionLast.l0 k x0 x1 bt347.1 (x1.length : Int) 0))
def bindlelaw19_UnionLast.l0 : Nat → List (S38) → List (S38) → List (S38) → Int → Int → Option (Bool)
 | 0, _, _, _, _, _ => none
 | k + 1, x0, x1, x5, x7, x8 => if x8 < (x0.length : Int) then (if 0 ≤ x8 then ((bindleref08_Find.f k x5 ((rd_T38 x0 x8).f0)).bind fun bt352 => ((bindleref08_Find.f k x1 ((rd_T38 x0 x8).f0)).bind fun bt366 => (if bt352.2.2.2.2.2.2.2.2.2 = true then (if bt366.2.2.2.2.2.2.2.2.2 = true then (bindlelaw19_UnionLast.j2 k x0 x1 x5 x7 x8 bt366.2.2.2.2.2.2.2.2.2 false) else ((bindleref08_Equal.f bt352.1 bt352.2.1 bt352.2.2.1 bt352.2.2.2.1 bt352.2.2.2.2.1 bt352.2.2.2.2.2.1 bt352.2.2.2.2.2.2.1 bt352.2.2.2.2.2.2.2.1 bt352.2.2.2.2.2.2.2.2.1 ((rd_T38 x0 x8).f0) ((rd_T38 x0 x8).f1) ((rd_T38 x0 x8).f2) ((rd_T38 x0 x8).f3) ((rd_T38 x0 x8).f4.f0) ((rd_T38 x0 x8).f4.f1) ((rd_T38 x0 x8).f4.f2) ((rd_T38 x0 x8).f4.f3) ((rd_T38 x0 x8).f5)).bind fun t380 => (bindlelaw19_UnionLast.j2 k x0 x1 x5 x7 x8 bt366.2.2.2.2.2.2.2.2.2 (!t380)))) else (bindlelaw19_UnionLast.j2 k x0 x1 x5 x7 x8 bt366.2.2.2.2.2.2.2.2.2 true)))) else (none)) else (bindlelaw19_UnionLast.l1 k x1 x5 x7 0)
def bindlelaw19_UnionLast.j2 : Nat → List (S38) → List (S38) → List (S38) → Int → Int → Bool → Bool → Option (Bool)
 | 0, _, _, _, _, _, _, _ => none
 | k + 1, x0, x1, x5, x7, x8, x12, x81 => if x81 = true then (some false) else (if x12 = true then (bindlelaw19_UnionLast.l0 k x0 x1 x5 x7 (wrap64 (x8 + 1))) else (bindlelaw19_UnionLast.l0 k x0 x1 x5 (wrap64 (x7 + 1)) (wrap64 (x8 + 1))))
def bindlelaw19_UnionLast.l1 : Nat → List (S38) → List (S38) → Int → Int → Option (Bool)
 | 0, _, _, _, _ => none
 | k + 1, x1, x5, x7, x13 => if x13 < (x1.length : Int) then (if 0 ≤ x13 then ((bindleref08_Find.f k x5 ((rd_T38 x1 x13).f0)).bind fun bt383 => (if bt383.2.2.2.2.2.2.2.2.2 = true then ((bindleref08_Equal.f bt383.1 bt383.2.1 bt383.2.2.1 bt383.2.2.2.1 bt383.2.2.2.2.1 bt383.2.2.2.2.2.1 bt383.2.2.2.2.2.2.1 bt383.2.2.2.2.2.2.2.1 bt383.2.2.2.2.2.2.2.2.1 ((rd_T38 x1 x13).f0) ((rd_T38 x1 x13).f1) ((rd_T38 x1 x13).f2) ((rd_T38 x1 x13).f3) ((rd_T38 x1 x13).f4.f0) ((rd_T38 x1 x13).f4.f1) ((rd_T38 x1 x13).f4.f2) ((rd_T38 x1 x13).f4.f3) ((rd_T38 x1 x13).f5)).bind fun t397 => (if t397 = true then (bindlelaw19_UnionLast.l1 k x1 x5 x7 (wrap64 (x13 + 1))) else (some false))) else (some false))) else (none)) else ((bindlelaw19_answers.f).bind fun t381 => (if t381 = true then (some ((x5.length : Int) == x7)) else (some false)))
end
def bindlelaw19_UnionLast.f (k : Nat) (l0 : List (S38)) (l1 : List (S38)) : Option (Bool) := (bindlelaw19_light.f k (([l0, l1] : List (List (S38))))).bind fun t340 => (if t340 = true then ((bindleref08_GoodTree.f l0).bind fun t341 => (if t341 = true then ((bindleref08_GoodTree.f l1).bind fun t342 => (bindlelaw19_UnionLast.j0 k l0 l1 (!t342))) else (bindlelaw19_UnionLast.j0 k l0 l1 true))) else (bindlelaw19_UnionLast.j0 k l0 l1 true))
def bindlelaw19_UnionLast.T10 : Bool × List (List Nat × List Nat) := (true, [([], []), ([0], [0]), ([1], [1]), ([2], [2]), ([3, 2], [2, 3]), ([4, 2, 2], [2, 4]), ([5], [5]), ([5], [5]), ([5], [5]), ([7, 8, 5], [5, 7, 8]), ([9, 5], [5, 9]), ([6, 10, 5, 5], [5, 6, 10]), ([11, 5], [5, 11]), ([5, 12, 2], [2, 5, 12]), ([2, 13], [2, 13])])
def bindlelaw19_UnionLast.B10 : List Nat := [0, 1, 3, 7, 15, 31, 63, 63, 63, 447, 959, 2047, 4095, 8191, 16383]
theorem bindlelaw19_UnionLast.tab10 : rtab .any (opsOf Tryd.f6 10) = bindlelaw19_UnionLast.T10 := by kernel_rfl
theorem bindlelaw19_UnionLast.bits10 : waitsOk bindlelaw19_UnionLast.T10.2 bindlelaw19_UnionLast.B10 = true := by kernel_rfl
def bindlelaw19_UnionLast.T18 : Bool × List (List Nat × List Nat) := (true, [([], []), ([0], [0]), ([1], [1]), ([2], [2]), ([2], [2]), ([2], [2]), ([4, 5, 2], [2, 4, 5]), ([6, 2], [2, 6]), ([3, 7, 2, 2], [2, 3, 7]), ([8, 2], [2, 8]), ([2, 9], [2, 9])])
def bindlelaw19_UnionLast.B18 : List Nat := [0, 1, 3, 7, 7, 7, 55, 119, 255, 511, 1023]
theorem bindlelaw19_UnionLast.tab18 : rtab .any (opsOf Tryd.f6 18) = bindlelaw19_UnionLast.T18 := by kernel_rfl
theorem bindlelaw19_UnionLast.bits18 : waitsOk bindlelaw19_UnionLast.T18.2 bindlelaw19_UnionLast.B18 = true := by kernel_rfl
set_option maxHeartbeats 8000000 in
set_option maxRecDepth 100000 in
theorem bindlelaw19_UnionLast.calls (k : Nat) (P0_ : Nat → Prop) (A0 : Option Addr) (c0 : Nat) (l0 : List (S38)) (P1_ : Nat → Prop) (A1 : Option Addr) (c1 : Nat) (l1 : List (S38)) (r : Bool) (w : World) (hT : Aside0 (Tabs w)) (hs0 : Kd.V k38 38 w w.heap.size (fun k_ => P0_ k_) (.slice A0 l0.length c0) l0) (hs1 : Kd.V k38 38 w w.heap.size (fun k_ => P1_ k_) (.slice A1 l1.length c1) l1) (h : bindlelaw19_UnionLast.f k l0 l1 = some r) :
  Calls Tryd.prog 6 #[.slice A0 l0.length c0, .slice A1 l1.length c1] w fun e w' => e = .returned (.bool r) ∧ Below w.heap.size w w' := by
 have hu38 := Tryd.underlying38
 have HO0 := A0_ (show Kd.V k38 38 w w.heap.size (fun k_ => ((P0_ k_ ∨ P1_ k_) ∨ w.heap.size ≤ k_)) (.slice A0 l0.length c0) l0 from Kd.V_mono hs0 (fun k_ hk => .inl (.inl hk)))
 have HO1 := A0_ (show Kd.V k38 38 w w.heap.size (fun k_ => ((P0_ k_ ∨ P1_ k_) ∨ w.heap.size ≤ k_)) (.slice A1 l1.length c1) l1 from Kd.V_mono hs1 (fun k_ hk => .inl (.inr hk)))
 have HB := A0_ (Below.refl w.heap.size w)
 have H : ((bindlelaw19_light.f k (([l0, l1] : List (List (S38))))).bind fun t340 => (if t340 = true then ((bindleref08_GoodTree.f l0).bind fun t341 => (if t341 = true then ((bindleref08_GoodTree.f l1).bind fun t342 => (bindlelaw19_UnionLast.j0 k l0 l1 (!t342))) else (bindlelaw19_UnionLast.j0 k l0 l1 true))) else (bindlelaw19_UnionLast.j0 k l0 l1 true))) = some r := h
 clear h
 have HC3 := A0_ H
 clear H
 go_enter Tryd.func6, Tryd.ntmps6
 go_upto_region 1 with (fail)
 go_cut [30] (fun v30 wc => ∃ (kq : Nat) (x30_2 : Bool), v30 = .bool x30_2 ∧ Aside0 (bindlelaw19_UnionLast.j0 kq l0 l1 x30_2 = some r) ∧ Aside0 (kq ≤ k) ∧ Aside0 (Kd.V k38 38 wc w.heap.size (fun k_ => ((P0_ k_ ∨ P1_ k_) ∨ w.heap.size ≤ k_)) (.slice A0 l0.length c0) l0) ∧ Aside0 (Kd.V k38 38 wc w.heap.size (fun k_ => ((P0_ k_ ∨ P1_ k_) ∨ w.heap.size ≤ k_)) (.slice A1 l1.length c1) l1) ∧ Aside0 (Below w.heap.size w wc))
 case first =>
  have H := HC3.out
  clear HC3
  obtain ⟨y337, hy337⟩ : ∃ y_ : List (List (S38)), y_ = (([l0, l1] : List (List (S38)))) := ⟨_, rfl⟩
  replace H : ((bindlelaw19_light.f k y337).bind fun t340 => (if t340 = true then ((bindleref08_GoodTree.f l0).bind fun t341 => (if t341 = true then ((bindleref08_GoodTree.f l1).bind fun t342 => (bindlelaw19_UnionLast.j0 k l0 l1 (!t342))) else (bindlelaw19_UnionLast.j0 k l0 l1 true))) else (bindlelaw19_UnionLast.j0 k l0 l1 true))) = some r := by first | (rw [hy337]; with_reducible exact H) | (have H2_ := (Option.bind_some _ _).symm.trans H; rw [hy337]; with_reducible exact H2_) | (have H2_ := (Option.bind_some _ _).symm.trans H; with_reducible exact H2_) | with_reducible exact H | (rw [hy337]; exact H) | exact H
  have Ny337 := A0_ hy337
  clear hy337
  replace H := Option.bind_eq_some_iff.mp H
  obtain ⟨t340, A40, H⟩ := H
  replace H : (if t340 = true then ((bindleref08_GoodTree.f l0).bind fun t341 => (if t341 = true then ((bindleref08_GoodTree.f l1).bind fun t342 => (bindlelaw19_UnionLast.j0 k l0 l1 (!t342))) else (bindlelaw19_UnionLast.j0 k l0 l1 true))) else (bindlelaw19_UnionLast.j0 k l0 l1 true)) = some r := H
  have A4 := A0_ A40
  clear A40
  by_cases c5 : t340 = true
  rotate_left
  ·replace c5 := Bool.eq_false_iff.mpr c5
   subst c5
   have H1 : (bindlelaw19_UnionLast.j0 k l0 l1 true) = some r := by rw [if_neg (show ¬ (false = true) by decide)] at H; exact H
   clear H
   have H := H1
   clear H1
   have H' := A0_ H
   clear H
   go_wp2_with (first | ((with_reducible refine gate_dst (N := 18) rfl ?_); (try (refine gate_guard (by rfl) ?_; dsimp only)); refine Kd.N_lit (Kd.slice 38 k38) _ 31 ?hg (N' := 18) ?hd (xs := ([l0, l1] : List (List (S38)))) (inner := [.slice A0 l0.length c0, .slice A1 l1.length c1]) (ok := (fun k_ => ((P0_ k_ ∨ P1_ k_) ∨ w.heap.size ≤ k_))) (okp := (fun k_ => ((P0_ k_ ∨ P1_ k_) ∨ w.heap.size ≤ k_))) ?hr ?hp (fun _ hk => hk) ((show ∀ k_, w.heap.size ≤ k_ → (fun k_ => ((P0_ k_ ∨ P1_ k_) ∨ w.heap.size ≤ k_)) k_ from fun k_ hk => (.inr (Nat.le_trans (below_size (wb_ HB.out)) hk))) _ (Nat.le_refl _)) (Below.refl _ _) (Nat.le_refl _) (by simp) ?_; (case hd => rfl); (case hg => rfl); (case hr => first | (go_simp; done) | (go_simp; rfl)); (case hp => exact (Reps.one (show Kd.FK (Kd.slice 38 k38) _ _ l0 [.slice A0 l0.length c0] from (Kd.FK_slice_mk (Kd.V_reads' (Kd.V_mono (ok' := (fun k_ => ((P0_ k_ ∨ P1_ k_) ∨ w.heap.size ≤ k_))) (HO0.out) (fun k_ hk => hk))).2.1 (Kd.V_F (Kd.V_mono (ok' := (fun k_ => ((P0_ k_ ∨ P1_ k_) ∨ w.heap.size ≤ k_))) (HO0.out) (fun k_ hk => hk))))) (Reps.one (show Kd.FK (Kd.slice 38 k38) _ _ l1 [.slice A1 l1.length c1] from (Kd.FK_slice_mk (Kd.V_reads' (Kd.V_mono (ok' := (fun k_ => ((P0_ k_ ∨ P1_ k_) ∨ w.heap.size ≤ k_))) (HO1.out) (fun k_ hk => hk))).2.1 (Kd.V_F (Kd.V_mono (ok' := (fun k_ => ((P0_ k_ ∨ P1_ k_) ∨ w.heap.size ≤ k_))) (HO1.out) (fun k_ hk => hk))))) (Reps.none _ _)))); intro v338 w18 ho19 hb hg_ hnew_; clear hg_ hnew_; (first | rw [← Ny337.out] at ho19 | (simp only [Int.reduceToNat] at ho19; rw [← Ny337.out] at ho19)); have n0_ := A0_ (Kd.V_elder' (wV_ HO0.out) (Kd.N_base ho19) hb); have n1_ := A0_ (Kd.V_elder' (wV_ HO1.out) (Kd.N_base ho19) hb); have n2_ := A0_ (Kd.N_lower ho19 (below_size (wb_ HB.out))); have n3_ := A0_ (below_step (wb_ HB.out) hb); clear HO0; clear HO1; clear HB; have HO0 := n0_; have HO1 := n1_; have HO339 := n2_; have HB := n3_; clear n0_ n1_ n2_ n3_; clear hb ho19; obtain ⟨Ao20, co20, eo20⟩ := Kd.N_slice HO339.out; subst eo20) | ((with_reducible refine gate_callee (f := 21) rfl ?_); refine goesL_ (some 19) rfl rfl Tryd.func21 (by kernel_rfl) rfl #[.slice Ao20 y337.length co20] rfl wm_ ?_; (with_reducible refine (bindlelaw19_light.calls k _ _ y337 false _ ?side1 ?side2 A4.out).mono ?_); (case side1 => exact wc_ (Kd.N_reads' HO339.out).2.2); (case side2 => exact (Kd.N_reads' HO339.out).2.1); rintro e w' ⟨rfl, ⟨nd, rfl⟩⟩; refine ⟨_, rfl, ?_⟩))
   go_meet
   case rel => exact ⟨_, (true), wr_, H', ⟨by first | omega | exact Nat.le_refl _⟩, ⟨by (with_reducible repeat (first | apply Va_ | apply VN_ | apply V1_)); exact Kd.V_mono HO0.out (fun _ hk => hk.1)⟩, ⟨by (with_reducible repeat (first | apply Va_ | apply VN_ | apply V1_)); exact Kd.V_mono HO1.out (fun _ hk => hk.1)⟩, ⟨wb_ HB.out⟩⟩
  subst c5
  have H1 : ((bindleref08_GoodTree.f l0).bind fun t341 => (if t341 = true then ((bindleref08_GoodTree.f l1).bind fun t342 => (bindlelaw19_UnionLast.j0 k l0 l1 (!t342))) else (bindlelaw19_UnionLast.j0 k l0 l1 true))) = some r := by rw [if_pos rfl] at H; exact H
  clear H
  have H := H1
  clear H1
  replace H := Option.bind_eq_some_iff.mp H
  obtain ⟨t341, A60, H⟩ := H
  replace H : (if t341 = true then ((bindleref08_GoodTree.f l1).bind fun t342 => (bindlelaw19_UnionLast.j0 k l0 l1 (!t342))) else (bindlelaw19_UnionLast.j0 k l0 l1 true)) = some r := H
  have A6 := A0_ A60
  clear A60
  by_cases c7 : t341 = true
  rotate_left
  ·replace c7 := Bool.eq_false_iff.mpr c7
   subst c7
   have H1 : (bindlelaw19_UnionLast.j0 k l0 l1 true) = some r := by rw [if_neg (show ¬ (false = true) by decide)] at H; exact H
   clear H
   have H := H1
   clear H1
   have H' := A0_ H
   clear H
   go_wp2_with (first | ((with_reducible refine gate_dst (N := 18) rfl ?_); (try (refine gate_guard (by rfl) ?_; dsimp only)); refine Kd.N_lit (Kd.slice 38 k38) _ 31 ?hg (N' := 18) ?hd (xs := ([l0, l1] : List (List (S38)))) (inner := [.slice A0 l0.length c0, .slice A1 l1.length c1]) (ok := (fun k_ => ((P0_ k_ ∨ P1_ k_) ∨ w.heap.size ≤ k_))) (okp := (fun k_ => ((P0_ k_ ∨ P1_ k_) ∨ w.heap.size ≤ k_))) ?hr ?hp (fun _ hk => hk) ((show ∀ k_, w.heap.size ≤ k_ → (fun k_ => ((P0_ k_ ∨ P1_ k_) ∨ w.heap.size ≤ k_)) k_ from fun k_ hk => (.inr (Nat.le_trans (below_size (wb_ HB.out)) hk))) _ (Nat.le_refl _)) (Below.refl _ _) (Nat.le_refl _) (by simp) ?_; (case hd => rfl); (case hg => rfl); (case hr => first | (go_simp; done) | (go_simp; rfl)); (case hp => exact (Reps.one (show Kd.FK (Kd.slice 38 k38) _ _ l0 [.slice A0 l0.length c0] from (Kd.FK_slice_mk (Kd.V_reads' (Kd.V_mono (ok' := (fun k_ => ((P0_ k_ ∨ P1_ k_) ∨ w.heap.size ≤ k_))) (HO0.out) (fun k_ hk => hk))).2.1 (Kd.V_F (Kd.V_mono (ok' := (fun k_ => ((P0_ k_ ∨ P1_ k_) ∨ w.heap.size ≤ k_))) (HO0.out) (fun k_ hk => hk))))) (Reps.one (show Kd.FK (Kd.slice 38 k38) _ _ l1 [.slice A1 l1.length c1] from (Kd.FK_slice_mk (Kd.V_reads' (Kd.V_mono (ok' := (fun k_ => ((P0_ k_ ∨ P1_ k_) ∨ w.heap.size ≤ k_))) (HO1.out) (fun k_ hk => hk))).2.1 (Kd.V_F (Kd.V_mono (ok' := (fun k_ => ((P0_ k_ ∨ P1_ k_) ∨ w.heap.size ≤ k_))) (HO1.out) (fun k_ hk => hk))))) (Reps.none _ _)))); intro v338 w14 ho15 hb hg_ hnew_; clear hg_ hnew_; (first | rw [← Ny337.out] at ho15 | (simp only [Int.reduceToNat] at ho15; rw [← Ny337.out] at ho15)); have n0_ := A0_ (Kd.V_elder' (wV_ HO0.out) (Kd.N_base ho15) hb); have n1_ := A0_ (Kd.V_elder' (wV_ HO1.out) (Kd.N_base ho15) hb); have n2_ := A0_ (Kd.N_lower ho15 (below_size (wb_ HB.out))); have n3_ := A0_ (below_step (wb_ HB.out) hb); clear HO0; clear HO1; clear HB; have HO0 := n0_; have HO1 := n1_; have HO339 := n2_; have HB := n3_; clear n0_ n1_ n2_ n3_; clear hb ho15; obtain ⟨Ao16, co16, eo16⟩ := Kd.N_slice HO339.out; subst eo16) | ((with_reducible refine gate_callee (f := 21) rfl ?_); refine goesL_ (some 19) rfl rfl Tryd.func21 (by kernel_rfl) rfl #[.slice Ao16 y337.length co16] rfl wm_ ?_; (with_reducible refine (bindlelaw19_light.calls k _ _ y337 true _ ?side1 ?side2 A4.out).mono ?_); (case side1 => exact wc_ (Kd.N_reads' HO339.out).2.2); (case side2 => exact (Kd.N_reads' HO339.out).2.1); rintro e w' ⟨rfl, ⟨nd, rfl⟩⟩; refine ⟨_, rfl, ?_⟩) | (go_at_call 26; (with_reducible refine (bindleref08_GoodTree.calls _ _ l0 false _ ?side1 ?side2 A6.out).mono ?_); (case side1 => exact wc_ (Kd.V_reads' HO0.out).2.2); (case side2 => exact (Kd.V_reads' HO0.out).2.1); rintro e w17 ⟨rfl, hb⟩; have n0_ := A0_ (Vb_ (wV_ HO0.out) hb); have n1_ := A0_ (Vb_ (wV_ HO1.out) hb); have n2_ := A0_ (Kd.N_below (wN_ HO339.out) hb); have n3_ := A0_ (below_step (wb_ HB.out) hb); clear HO0; clear HO1; clear HO339; clear HB; have HO0 := n0_; have HO1 := n1_; have HO339 := n2_; have HB := n3_; clear n0_ n1_ n2_ n3_; (try clear hb); (try clear hb2); (try clear hk); (try clear hi)))
   go_meet
   case rel => exact ⟨_, (true), wr_, H', ⟨by first | omega | exact Nat.le_refl _⟩, ⟨by (with_reducible repeat (first | apply Va_ | apply VN_ | apply V1_)); exact Kd.V_mono HO0.out (fun _ hk => hk.1)⟩, ⟨by (with_reducible repeat (first | apply Va_ | apply VN_ | apply V1_)); exact Kd.V_mono HO1.out (fun _ hk => hk.1)⟩, ⟨wb_ HB.out⟩⟩
  subst c7
  have H1 : ((bindleref08_GoodTree.f l1).bind fun t342 => (bindlelaw19_UnionLast.j0 k l0 l1 (!t342))) = some r := by rw [if_pos rfl] at H; exact H
  clear H
  have H := H1
  clear H1
  replace H := Option.bind_eq_some_iff.mp H
  obtain ⟨t342, A80, H⟩ := H
  replace H : (bindlelaw19_UnionLast.j0 k l0 l1 (!t342)) = some r := H
  have A8 := A0_ A80
  clear A80
  have H' := A0_ H
  clear H
  go_wp2_with (first | ((with_reducible refine gate_dst (N := 18) rfl ?_); (try (refine gate_guard (by rfl) ?_; dsimp only)); refine Kd.N_lit (Kd.slice 38 k38) _ 31 ?hg (N' := 18) ?hd (xs := ([l0, l1] : List (List (S38)))) (inner := [.slice A0 l0.length c0, .slice A1 l1.length c1]) (ok := (fun k_ => ((P0_ k_ ∨ P1_ k_) ∨ w.heap.size ≤ k_))) (okp := (fun k_ => ((P0_ k_ ∨ P1_ k_) ∨ w.heap.size ≤ k_))) ?hr ?hp (fun _ hk => hk) ((show ∀ k_, w.heap.size ≤ k_ → (fun k_ => ((P0_ k_ ∨ P1_ k_) ∨ w.heap.size ≤ k_)) k_ from fun k_ hk => (.inr (Nat.le_trans (below_size (wb_ HB.out)) hk))) _ (Nat.le_refl _)) (Below.refl _ _) (Nat.le_refl _) (by simp) ?_; (case hd => rfl); (case hg => rfl); (case hr => first | (go_simp; done) | (go_simp; rfl)); (case hp => exact (Reps.one (show Kd.FK (Kd.slice 38 k38) _ _ l0 [.slice A0 l0.length c0] from (Kd.FK_slice_mk (Kd.V_reads' (Kd.V_mono (ok' := (fun k_ => ((P0_ k_ ∨ P1_ k_) ∨ w.heap.size ≤ k_))) (HO0.out) (fun k_ hk => hk))).2.1 (Kd.V_F (Kd.V_mono (ok' := (fun k_ => ((P0_ k_ ∨ P1_ k_) ∨ w.heap.size ≤ k_))) (HO0.out) (fun k_ hk => hk))))) (Reps.one (show Kd.FK (Kd.slice 38 k38) _ _ l1 [.slice A1 l1.length c1] from (Kd.FK_slice_mk (Kd.V_reads' (Kd.V_mono (ok' := (fun k_ => ((P0_ k_ ∨ P1_ k_) ∨ w.heap.size ≤ k_))) (HO1.out) (fun k_ hk => hk))).2.1 (Kd.V_F (Kd.V_mono (ok' := (fun k_ => ((P0_ k_ ∨ P1_ k_) ∨ w.heap.size ≤ k_))) (HO1.out) (fun k_ hk => hk))))) (Reps.none _ _)))); intro v338 w9 ho10 hb hg_ hnew_; clear hg_ hnew_; (first | rw [← Ny337.out] at ho10 | (simp only [Int.reduceToNat] at ho10; rw [← Ny337.out] at ho10)); have n0_ := A0_ (Kd.V_elder' (wV_ HO0.out) (Kd.N_base ho10) hb); have n1_ := A0_ (Kd.V_elder' (wV_ HO1.out) (Kd.N_base ho10) hb); have n2_ := A0_ (Kd.N_lower ho10 (below_size (wb_ HB.out))); have n3_ := A0_ (below_step (wb_ HB.out) hb); clear HO0; clear HO1; clear HB; have HO0 := n0_; have HO1 := n1_; have HO339 := n2_; have HB := n3_; clear n0_ n1_ n2_ n3_; clear hb ho10; obtain ⟨Ao11, co11, eo11⟩ := Kd.N_slice HO339.out; subst eo11) | ((with_reducible refine gate_callee (f := 21) rfl ?_); refine goesL_ (some 19) rfl rfl Tryd.func21 (by kernel_rfl) rfl #[.slice Ao11 y337.length co11] rfl wm_ ?_; (with_reducible refine (bindlelaw19_light.calls k _ _ y337 true _ ?side1 ?side2 A4.out).mono ?_); (case side1 => exact wc_ (Kd.N_reads' HO339.out).2.2); (case side2 => exact (Kd.N_reads' HO339.out).2.1); rintro e w' ⟨rfl, ⟨nd, rfl⟩⟩; refine ⟨_, rfl, ?_⟩) | (go_at_call 26; (with_reducible refine (bindleref08_GoodTree.calls _ _ l0 true _ ?side1 ?side2 A6.out).mono ?_); (case side1 => exact wc_ (Kd.V_reads' HO0.out).2.2); (case side2 => exact (Kd.V_reads' HO0.out).2.1); rintro e w12 ⟨rfl, hb⟩; have n0_ := A0_ (Vb_ (wV_ HO0.out) hb); have n1_ := A0_ (Vb_ (wV_ HO1.out) hb); have n2_ := A0_ (Kd.N_below (wN_ HO339.out) hb); have n3_ := A0_ (below_step (wb_ HB.out) hb); clear HO0; clear HO1; clear HO339; clear HB; have HO0 := n0_; have HO1 := n1_; have HO339 := n2_; have HB := n3_; clear n0_ n1_ n2_ n3_; (try clear hb); (try clear hb2); (try clear hk); (try clear hi)) | (go_at_call 26; (with_reducible refine (bindleref08_GoodTree.calls _ _ l1 t342 _ ?side1 ?side2 A8.out).mono ?_); (case side1 => exact wc_ (Kd.V_reads' HO1.out).2.2); (case side2 => exact (Kd.V_reads' HO1.out).2.1); rintro e w13 ⟨rfl, hb⟩; have n0_ := A0_ (Vb_ (wV_ HO0.out) hb); have n1_ := A0_ (Vb_ (wV_ HO1.out) hb); have n2_ := A0_ (Kd.N_below (wN_ HO339.out) hb); have n3_ := A0_ (below_step (wb_ HB.out) hb); clear HO0; clear HO1; clear HO339; clear HB; have HO0 := n0_; have HO1 := n1_; have HO339 := n2_; have HB := n3_; clear n0_ n1_ n2_ n3_; (try clear hb); (try clear hb2); (try clear hk); (try clear hi)))
  go_meet
  case rel => exact ⟨_, (!t342), wr_, H', ⟨by first | omega | exact Nat.le_refl _⟩, ⟨by (with_reducible repeat (first | apply Va_ | apply VN_ | apply V1_)); exact Kd.V_mono HO0.out (fun _ hk => hk.1)⟩, ⟨by (with_reducible repeat (first | apply Va_ | apply VN_ | apply V1_)); exact Kd.V_mono HO1.out (fun _ hk => hk.1)⟩, ⟨wb_ HB.out⟩⟩
 case rest =>
  clear HC3
  try clear c1
  try clear c2
  try clear p2
  try clear c5
  try clear c6
  try clear c7
  obtain ⟨kq, x30_2, rfl, HA, HJ2, HO_0, HO_1, HB⟩ := hcut
  cases kq with
  | zero => exact absurd HA.out (by simp [bindlelaw19_UnionLast.j0])
  | succ kj2 =>
   have H := HA.out
   clear HA
   simp only [bindlelaw19_UnionLast.j0] at H
   by_cases c21 : x30_2 = true
   ·subst c21
    have H1 : ((bindlelaw19_answers.f).bind fun t343 => (some t343)) = some r := by rw [if_pos rfl] at H; exact H
    clear H
    have H := H1
    clear H1
    replace H := Option.bind_eq_some_iff.mp H
    obtain ⟨t343, A220, H⟩ := H
    replace H : (some t343) = some r := H
    have A22 := A0_ A220
    clear A220
    obtain rfl := Option.some.inj H
    go_wp2_with (first | ((with_reducible refine gate_callee (f := 22) rfl ?_); refine goesL_ (some 31) rfl rfl Tryd.func22 (by kernel_rfl) rfl #[] rfl wm_ ?_; (with_reducible refine (bindlelaw19_answers.calls  t343 _ ?side1 A22.out).mono ?_); (case side1 => exact A0_ (Tabs.below hT.out (wb_ HB.out))); rintro e w23 ⟨rfl, hb⟩; refine ⟨_, rfl, ?_⟩; have n0_ := A0_ (Vb_ (wV_ HO_0.out) hb); have n1_ := A0_ (Vb_ (wV_ HO_1.out) hb); have n2_ := A0_ (below_step (wb_ HB.out) hb); clear HO_0; clear HO_1; clear HB; have HO_0 := n0_; have HO_1 := n1_; have HB := n2_; clear n0_ n1_ n2_; (try clear hb); (try clear hb2); (try clear hk); (try clear hi)))
    go_ret
    exact ⟨we_, wb_ HB.out⟩
   replace c21 := Bool.eq_false_iff.mpr c21
   subst c21
   have H1 : ((union_Union.f (([l0, l1] : List (List (S38))))).bind fun bt347 => (bindlelaw19_UnionLast.l0 kj2 l0 l1 bt347.1 (l1.length : Int) 0)) = some r := by rw [if_neg (show ¬ (false = true) by decide)] at H; exact H
   clear H
   have H := H1
   clear H1
   obtain ⟨y344, hy344⟩ : ∃ y_ : List (List (S38)), y_ = (([l0, l1] : List (List (S38)))) := ⟨_, rfl⟩
   replace H : ((union_Union.f y344).bind fun bt347 => (bindlelaw19_UnionLast.l0 kj2 l0 l1 bt347.1 (l1.length : Int) 0)) = some r := by first | (rw [hy344]; with_reducible exact H) | (have H2_ := (Option.bind_some _ _).symm.trans H; rw [hy344]; with_reducible exact H2_) | (have H2_ := (Option.bind_some _ _).symm.trans H; with_reducible exact H2_) | with_reducible exact H | (rw [hy344]; exact H) | exact H
   have Ny344 := A0_ hy344
   clear hy344
   replace H := Option.bind_eq_some_iff.mp H
   obtain ⟨⟨t347, t350⟩, A240, H⟩ := H
   replace H : (bindlelaw19_UnionLast.l0 kj2 l0 l1 t347 (l1.length : Int) 0) = some r := H
   have A24 := A0_ A240
   clear A240
   have H' := A0_ H
   clear H
   go_wp2_with (first | ((with_reducible refine gate_dst (N := 35) rfl ?_); (try (refine gate_guard (by rfl) ?_; dsimp only)); refine Kd.N_lit (Kd.slice 38 k38) _ 31 ?hg (N' := 35) ?hd (xs := ([l0, l1] : List (List (S38)))) (inner := [.slice A0 l0.length c0, .slice A1 l1.length c1]) (ok := (fun k_ => ((P0_ k_ ∨ P1_ k_) ∨ w.heap.size ≤ k_))) (okp := (fun k_ => ((P0_ k_ ∨ P1_ k_) ∨ w.heap.size ≤ k_))) ?hr ?hp (fun _ hk => hk) ((show ∀ k_, wc.heap.size ≤ k_ → (fun k_ => ((P0_ k_ ∨ P1_ k_) ∨ w.heap.size ≤ k_)) k_ from fun k_ hk => (.inr (Nat.le_trans (below_size (wb_ HB.out)) hk))) _ (Nat.le_refl _)) (Below.refl _ _) (Nat.le_refl _) (by simp) ?_; (case hd => rfl); (case hg => rfl); (case hr => first | (go_simp; done) | (go_simp; rfl)); (case hp => exact (Reps.one (show Kd.FK (Kd.slice 38 k38) _ _ l0 [.slice A0 l0.length c0] from (Kd.FK_slice_mk (Kd.V_reads' (Kd.V_mono (ok' := (fun k_ => ((P0_ k_ ∨ P1_ k_) ∨ w.heap.size ≤ k_))) (HO_0.out) (fun k_ hk => hk))).2.1 (Kd.V_F (Kd.V_mono (ok' := (fun k_ => ((P0_ k_ ∨ P1_ k_) ∨ w.heap.size ≤ k_))) (HO_0.out) (fun k_ hk => hk))))) (Reps.one (show Kd.FK (Kd.slice 38 k38) _ _ l1 [.slice A1 l1.length c1] from (Kd.FK_slice_mk (Kd.V_reads' (Kd.V_mono (ok' := (fun k_ => ((P0_ k_ ∨ P1_ k_) ∨ w.heap.size ≤ k_))) (HO_1.out) (fun k_ hk => hk))).2.1 (Kd.V_F (Kd.V_mono (ok' := (fun k_ => ((P0_ k_ ∨ P1_ k_) ∨ w.heap.size ≤ k_))) (HO_1.out) (fun k_ hk => hk))))) (Reps.none _ _)))); intro v345 w25 ho26 hb hg_ hnew_; clear hg_ hnew_; (first | rw [← Ny344.out] at ho26 | (simp only [Int.reduceToNat] at ho26; rw [← Ny344.out] at ho26)); have n0_ := A0_ (Kd.V_elder' (wV_ HO_0.out) (Kd.N_base ho26) hb); have n1_ := A0_ (Kd.V_elder' (wV_ HO_1.out) (Kd.N_base ho26) hb); have n2_ := A0_ (Kd.N_lower ho26 (below_size (wb_ HB.out))); have n3_ := A0_ (below_step (wb_ HB.out) hb); clear HO_0; clear HO_1; clear HB; have HO_0 := n0_; have HO_1 := n1_; have HO346 := n2_; have HB := n3_; clear n0_ n1_ n2_ n3_; clear hb ho26; obtain ⟨Ao27, co27, eo27⟩ := Kd.N_slice HO346.out; subst eo27) | ((with_reducible refine gate_callee (f := 23) rfl ?_); refine goesL_ (some 36) rfl rfl Tryd.func23 (by kernel_rfl) rfl #[.slice Ao27 y344.length co27] rfl wm_ ?_; (with_reducible refine (union_Union.calls _ _ y344 t347 t350 _ ?side1 ?side2 ?side3 A24.out).mono ?_); (case side1 => exact A0_ (Tabs.below hT.out (wb_ HB.out))); (case side2 => exact wc_ (Kd.N_reads' HO346.out).2.2); (case side3 => exact (Kd.N_reads' HO346.out).2.1); rintro e w28 ⟨v348, rfl, ho0, hb⟩; refine ⟨_, rfl, ?_⟩; have n0_ := A0_ (Vb_ (wV_ HO_0.out) hb); have n1_ := A0_ (Vb_ (wV_ HO_1.out) hb); have n2_ := A0_ (Kd.N_below (wN_ HO346.out) hb); have n3_ := A0_ (Kd.V_lower (Kd.V_mono (ok' := fun k_ => ((P0_ k_ ∨ P1_ k_) ∨ w.heap.size ≤ k_) ∧ some k_ ≠ (.slice Ao27 y344.length co27 : Value).ownBlock) ho0 (fun k_ hk_ => ⟨(.inr (Nat.le_trans (below_size (wb_ HB.out)) hk_)), (Kd.fresh' (Kd.N_lt (wN_ HO346.out)) k_ hk_)⟩)) (below_size (wb_ HB.out))); have n4_ := A0_ (below_step (wb_ HB.out) hb); clear HO_0; clear HO_1; clear HO346; clear HB; have HO_0 := n0_; have HO_1 := n1_; have HO346 := n2_; have HO349 := n3_; have HB := n4_; clear n0_ n1_ n2_ n3_ n4_; (try clear hb); (try clear hb2); (try clear hk); (try clear hi); (try clear ho0)))
   go_loopg [7, 8] kj2 (fun kq v7 v8 w' => ∃ (x7_2 : Int) (x8_2 : Int), v7 = .int .i64 x7_2 ∧ v8 = .int .i64 x8_2 ∧ Aside0 (bindlelaw19_UnionLast.l0 kq l0 l1 t347 x7_2 x8_2 = some r) ∧ Aside0 (kq ≤ kj2) ∧ Aside0 (Kd.V k38 38 w' w.heap.size (fun k_ => ((P0_ k_ ∨ P1_ k_) ∨ w.heap.size ≤ k_)) (.slice A0 l0.length c0) l0) ∧ Aside0 (Kd.V k38 38 w' w.heap.size (fun k_ => ((P0_ k_ ∨ P1_ k_) ∨ w.heap.size ≤ k_)) (.slice A1 l1.length c1) l1) ∧ Aside0 (Kd.V k38 38 w' w.heap.size (fun k_ => ((P0_ k_ ∨ P1_ k_) ∨ w.heap.size ≤ k_)) v348 t347) ∧ Aside0 (Below w.heap.size w w'))
   case atStart => exact ⟨((l1.length : Int)), (0), wr_, wr_, H', ⟨Nat.le_refl _⟩, ⟨by (with_reducible repeat (first | apply Va_ | apply VN_ | apply V1_)); exact Kd.V_mono HO_0.out (fun _ hk => hk.1)⟩, ⟨by (with_reducible repeat (first | apply Va_ | apply VN_ | apply V1_)); exact Kd.V_mono HO_1.out (fun _ hk => hk.1)⟩, ⟨by (with_reducible repeat (first | apply Va_ | apply VN_ | apply V1_)); exact Kd.V_mono HO349.out (fun _ hk => hk.1)⟩, ⟨wb_ HB.out⟩⟩
   case round =>
    clear H'
    try clear c1
    try clear c2
    try clear p2
    try clear c5
    try clear c6
    try clear c7
    try clear c21
    try clear c22
    try clear c23
    try clear p2
    obtain ⟨x7_2, x8_2, rfl, rfl, HA, HK2, HO_0, HO_1, HO_5, HB⟩ := hrel
    cases gk with
    | zero => exact absurd HA.out (by simp [bindlelaw19_UnionLast.l0])
    | succ k2 =>
     have H := HA.out
     clear HA
     simp only [bindlelaw19_UnionLast.l0] at H
     by_cases c29 : x8_2 < (l0.length : Int)
     rotate_left
     ·rw [if_neg c29] at H
      have c29b0 : decide (x8_2 < (l0.length : Int)) = false := decide_eq_false c29
      clear c29
      have H' := A0_ H
      clear H
      go_wp2
      go_loopg [13] k2 (fun kq v13 w' => ∃ (x13_3 : Int), v13 = .int .i64 x13_3 ∧ Aside0 (bindlelaw19_UnionLast.l1 kq l1 t347 x7_2 x13_3 = some r) ∧ Aside0 (kq ≤ k2) ∧ Aside0 (Kd.V k38 38 w' w.heap.size (fun k_ => ((P0_ k_ ∨ P1_ k_) ∨ w.heap.size ≤ k_)) (.slice A1 l1.length c1) l1) ∧ Aside0 (Kd.V k38 38 w' w.heap.size (fun k_ => ((P0_ k_ ∨ P1_ k_) ∨ w.heap.size ≤ k_)) v348 t347) ∧ Aside0 (Below w.heap.size w w'))
      case atStart => exact ⟨(0), wr_, H', ⟨Nat.le_refl _⟩, ⟨wV_ HO_1.out⟩, ⟨wV_ HO_5.out⟩, ⟨wb_ HB.out⟩⟩
      case round =>
       clear H'
       try clear c1
       try clear c2
       try clear p2
       try clear c3
       try clear p3
       try clear q3
       try clear hx3
       try clear c4
       try clear c5
       try clear p6
       try clear c20
       try clear c29
       try clear c29b0
       try clear c30
       try clear c35
       try clear c36
       try clear c37
       try clear p37
       try clear q37
       try clear hx37
       try clear c45
       try clear c46
       try clear c55
       try clear c56
       try clear hx379_0
       try clear hx379_1
       try clear hx379_2
       try clear hx379_3
       try clear hx379_4
       try clear hx379_5
       try clear hx379_6
       try clear hx379_7
       try clear hx379_8
       try clear p2
       try clear p3
       try clear p37
       try clear p379
       try clear q3
       try clear q37
       try clear q379
       obtain ⟨x13_3, rfl, HA, HK3, HO_1, HO_5, HB⟩ := hrel
       cases gk with
       | zero => exact absurd HA.out (by simp [bindlelaw19_UnionLast.l1])
       | succ k3 =>
        have H := HA.out
        clear HA
        simp only [bindlelaw19_UnionLast.l1] at H
        by_cases c57 : x13_3 < (l1.length : Int)
        rotate_left
        ·rw [if_neg c57] at H
         have c57b0 : decide (x13_3 < (l1.length : Int)) = false := decide_eq_false c57
         clear c57
         replace H := Option.bind_eq_some_iff.mp H
         obtain ⟨t381, A860, H⟩ := H
         replace H : (if t381 = true then (some ((t347.length : Int) == x7_2)) else (some false)) = some r := H
         have A86 := A0_ A860
         clear A860
         by_cases c87 : t381 = true
         rotate_left
         ·replace c87 := Bool.eq_false_iff.mpr c87
          subst c87
          have H1 : (some false) = some r := by rw [if_neg (show ¬ (false = true) by decide)] at H; exact H
          clear H
          have H := H1
          clear H1
          obtain rfl := Option.some.inj H
          go_wp2_with (first | ((with_reducible refine gate_callee (f := 22) rfl ?_); refine goesL_ (some 113) rfl rfl Tryd.func22 (by kernel_rfl) rfl #[] rfl wm_ ?_; (with_reducible refine (bindlelaw19_answers.calls  false _ ?side1 A86.out).mono ?_); (case side1 => exact A0_ (Tabs.below hT.out (wb_ HB.out))); rintro e w90 ⟨rfl, hb⟩; refine ⟨_, rfl, ?_⟩; have n0_ := A0_ (Vb_ (wV_ HO_1.out) hb); have n1_ := A0_ (Vb_ (wV_ HO_5.out) hb); have n2_ := A0_ (below_step (wb_ HB.out) hb); clear HO_1; clear HO_5; clear HB; have HO_1 := n0_; have HO_5 := n1_; have HB := n2_; clear n0_ n1_ n2_; (try clear hb); (try clear hb2); (try clear hk); (try clear hi)))
          go_ret
          exact ⟨we_, wb_ HB.out⟩
         subst c87
         have H1 : (some ((t347.length : Int) == x7_2)) = some r := by rw [if_pos rfl] at H; exact H
         clear H
         have H := H1
         clear H1
         obtain rfl := Option.some.inj H
         go_wp2_with (first | ((with_reducible refine gate_callee (f := 22) rfl ?_); refine goesL_ (some 113) rfl rfl Tryd.func22 (by kernel_rfl) rfl #[] rfl wm_ ?_; (with_reducible refine (bindlelaw19_answers.calls  true _ ?side1 A86.out).mono ?_); (case side1 => exact A0_ (Tabs.below hT.out (wb_ HB.out))); rintro e w88 ⟨rfl, hb⟩; refine ⟨_, rfl, ?_⟩; have n0_ := A0_ (Vb_ (wV_ HO_1.out) hb); have n1_ := A0_ (Vb_ (wV_ HO_5.out) hb); have n2_ := A0_ (below_step (wb_ HB.out) hb); clear HO_1; clear HO_5; clear HB; have HO_1 := n0_; have HO_5 := n1_; have HB := n2_; clear n0_ n1_ n2_; (try clear hb); (try clear hb2); (try clear hk); (try clear hi); obtain ⟨Ao89, co89, eo89⟩ := Kd.V_slice HO_5.out; subst eo89))
         go_ret
         exact ⟨we_, wb_ HB.out⟩
        rw [if_pos c57] at H
        have c57b0 : decide (x13_3 < (l1.length : Int)) = true := decide_eq_true c57
        clear c57
        by_cases c58 : 0 ≤ x13_3
        rotate_left
        ·rw [if_neg c58] at H
         exact absurd H (by simp)
        rw [if_pos c58] at H
        have c58b0 : decide (0 ≤ x13_3) = true := decide_eq_true c58
        clear c58
        replace H := Option.bind_eq_some_iff.mp H
        obtain ⟨⟨t383, t384, t385, t386, t387, t388, t389, t390, t391, t394⟩, A590, H⟩ := H
        replace H : (if t394 = true then ((bindleref08_Equal.f t383 t384 t385 t386 t387 t388 t389 t390 t391 ((rd_T38 l1 x13_3).f0) ((rd_T38 l1 x13_3).f1) ((rd_T38 l1 x13_3).f2) ((rd_T38 l1 x13_3).f3) ((rd_T38 l1 x13_3).f4.f0) ((rd_T38 l1 x13_3).f4.f1) ((rd_T38 l1 x13_3).f4.f2) ((rd_T38 l1 x13_3).f4.f3) ((rd_T38 l1 x13_3).f5)).bind fun t397 => (if t397 = true then (bindlelaw19_UnionLast.l1 k3 l1 t347 x7_2 (wrap64 (x13_3 + 1))) else (some false))) else (some false)) = some r := H
        have A59 := A0_ A590
        clear A590
        by_cases c60 : t394 = true
        rotate_left
        ·replace c60 := Bool.eq_false_iff.mpr c60
         subst c60
         have H1 : (some false) = some r := by rw [if_neg (show ¬ (false = true) by decide)] at H; exact H
         clear H
         have H := H1
         clear H1
         obtain rfl := Option.some.inj H
         have p382 : 0 ≤ (x13_3 : Int) := wd_
         have q382 : x13_3 < (l1.length : Int) := wd_
         obtain ⟨ad382, A382_8, c382_8, e382, hx382_0, hx382_1, hx382_2, hx382_3, hx382_4, hx382_5, hx382_6, hx382_7, hx382_8, hl382_8, hi382_8⟩ := at_T38 (Kd.V_reads' HO_1.out).2.2 x13_3 p382 q382
         cases e382
         obtain ⟨ce382, hce382, hMe382, hcc382⟩ := Kd.V_get HO_1.out z38 x13_3 p382 (by first | exact q382 | exact wd_ | (have e_ := (Kd.V_reads' HO_1.out).1; omega))
         obtain ⟨ua382_8, uc382_8, rfl, ul382_8, ge382_8⟩ := k38_openF hMe382
         have hv382_8 := hcc382 8 _ rfl
         rw [add_field _ _ 8 (by omega)] at hv382_8
         replace hv382_8 := Option.some.inj (hv382_8.symm.trans hx382_8)
         injection hv382_8 with hva_ hvn_ hvc_
         rw [hva_] at ge382_8
         rw [hvc_] at ul382_8
         have HL382_8 := A0_ (show Kd.V (Kd.int .u8) 5 _ w.heap.size _ _ ((rd_T38 l1 x13_3).f5) from Kd.V_mk ul382_8 ge382_8)
         clear hva_ hvn_ hvc_ ge382_8 ul382_8
         clear hcc382 hce382
         have HR382_8 := A0_ hi382_8
         have HC382_8 := A0_ hl382_8
         clear hi382_8 hl382_8
         replace p382 := eq_true p382
         replace q382 := eq_true q382
         obtain ⟨Ao79, co79, eo79⟩ := Kd.V_slice HO_5.out
         subst eo79
         try go_wp2_with (first | ((with_reducible refine gate_callee (f := 19) rfl ?_); refine goesL_ (some 99) rfl rfl Tryd.func19 (by kernel_rfl) rfl #[.slice Ao79 t347.length co79, .string ((rd_T38 l1 x13_3).f0)] rfl wm_ ?_; (with_reducible refine (bindleref08_Find.calls k3 (fun k_ => ((P0_ k_ ∨ P1_ k_) ∨ w.heap.size ≤ k_)) _ _ t347 ((rd_T38 l1 x13_3).f0) t383 t384 t385 t386 t387 t388 t389 t390 t391 false _ ?side1 A59.out).mono ?_); (case side1 => exact HO_5.out); rintro e w80 ⟨v392, rfl, ho0, hb⟩; refine ⟨_, rfl, ?_⟩; have n0_ := A0_ (Vb_ (wV_ HO_1.out) hb); have n1_ := A0_ (Vb_ (wV_ HO_5.out) hb); have n2_ := A0_ (Vb_ (wV_ HL382_8.out) hb); have n3_ := A0_ (Kd.V_lower (Kd.V_mono (ok' := fun k_ => ((P0_ k_ ∨ P1_ k_) ∨ w.heap.size ≤ k_)) ho0 (fun k_ hk_ => Or.elim hk_ (fun hs_ => hs_) (fun hn_ => (.inr (Nat.le_trans (below_size (wb_ HB.out)) hn_))))) (below_size (wb_ HB.out))); (first | have n4_ := A0_ (Kd.C_below (by repeat (first | (with_reducible exact HR382_8.out) | (with_reducible refine Ca_ ?_ _) | (with_reducible refine CN_ ?_ _) | (with_reducible refine C1_ ?_) | exact HR382_8.out)) hb) | have n4_ : Aside0 True := ⟨trivial⟩); have n5_ := A0_ (below_step (wb_ HB.out) hb); clear HO_1; clear HO_5; clear HL382_8; clear HR382_8; clear HB; have HO_1 := n0_; have HO_5 := n1_; have HL382_8 := n2_; have HO393 := n3_; have HR382_8 := n4_; have HB := n5_; clear n0_ n1_ n2_ n3_ n4_ n5_; (try clear hb); (try clear hb2); (try clear hk); (try clear hi); (try clear ho0)) | ((with_reducible refine gate_dst (N := 14) rfl ?_); (try (refine gate_guard (by rfl) ?_; dsimp only)); refine box_event ?hg (N := 14) ?hd (cs := #[.string (⟨#[]⟩ : ByteArray), .string (⟨#[]⟩ : ByteArray), .string (⟨#[]⟩ : ByteArray), .int .u8 0, .int .i64 0, .int .i64 0, .int .i64 0, .int .i64 0, .slice none 0 0]) (t := 38) ?hr ?_; (case hd => rfl); (case hg => rfl); (case hr => first | (go_simp; done) | (go_simp; rfl)); intro gb395 hg w81 hbox hb; have n0_ := A0_ (Vb_ (Kd.V_elderB (wV_ HO_1.out) gb395 (Nat.le_of_eq hg.symm)) hb); have n1_ := A0_ (Vb_ (Kd.V_elderB (wV_ HO_5.out) gb395 (Nat.le_of_eq hg.symm)) hb); have n2_ := A0_ (Vb_ (Kd.V_elderB (wV_ HL382_8.out) gb395 (Nat.le_of_eq hg.symm)) hb); have n3_ := A0_ (Vb_ (Kd.V_elderB (wV_ HO393.out) gb395 (Nat.le_of_eq hg.symm)) hb); (first | have n4_ := A0_ (Kd.C_below (by repeat (first | (with_reducible exact HR382_8.out) | (with_reducible refine Ca_ ?_ _) | (with_reducible refine CN_ ?_ _) | (with_reducible refine C1_ ?_) | exact HR382_8.out)) hb) | have n4_ : Aside0 True := ⟨trivial⟩); have n5_ := A0_ (below_step (wb_ HB.out) hb); have n6_ := A0_ (hbox); have n7_ := A0_ ((by rw [hg]; exact (below_size (wb_ HB.out)) : w.heap.size ≤ gb395)); have n8_ := A0_ ((by rw [hg]; exact (below_size (wb_ HB.out)) : w.heap.size ≤ gb395)); clear HO_1; clear HO_5; clear HL382_8; clear HO393; clear HR382_8; clear HB; have HO_1 := n0_; have HO_5 := n1_; have HL382_8 := n2_; have HO393 := n3_; have HR382_8 := n4_; have HB := n5_; have BK395 := n6_; have GW395 := n7_; have GE395 := n8_; clear n0_ n1_ n2_ n3_ n4_ n5_ n6_ n7_ n8_; clear hb hbox hg; have hcz82_0 : w81.cell? ⟨gb395, 0, none⟩ = some (.string (⟨#[]⟩ : ByteArray)) := (bc_ BK395.out 0).trans rfl; have hcz82_1 : w81.cell? ⟨gb395, 1, none⟩ = some (.string (⟨#[]⟩ : ByteArray)) := (bc_ BK395.out 1).trans rfl; have hcz82_2 : w81.cell? ⟨gb395, 2, none⟩ = some (.string (⟨#[]⟩ : ByteArray)) := (bc_ BK395.out 2).trans rfl; have hcz82_3 : w81.cell? ⟨gb395, 3, none⟩ = some (.int .u8 0) := (bc_ BK395.out 3).trans rfl; have hcz82_4 : w81.cell? ⟨gb395, 4, none⟩ = some (.int .i64 0) := (bc_ BK395.out 4).trans rfl; have hcz82_5 : w81.cell? ⟨gb395, 5, none⟩ = some (.int .i64 0) := (bc_ BK395.out 5).trans rfl; have hcz82_6 : w81.cell? ⟨gb395, 6, none⟩ = some (.int .i64 0) := (bc_ BK395.out 6).trans rfl; have hcz82_7 : w81.cell? ⟨gb395, 7, none⟩ = some (.int .i64 0) := (bc_ BK395.out 7).trans rfl; have hcz82_8 : w81.cell? ⟨gb395, 8, none⟩ = some (.slice none 0 0) := (bc_ BK395.out 8).trans rfl; have hfz82_0 := bf_ BK395.out 0; have hfz82_1 := bf_ BK395.out 1; have hfz82_2 := bf_ BK395.out 2; have hfz82_3 := bf_ BK395.out 3; have hfz82_4 := bf_ BK395.out 4; have hfz82_5 := bf_ BK395.out 5; have hfz82_6 := bf_ BK395.out 6; have hfz82_7 := bf_ BK395.out 7; have hfz82_8 := bf_ BK395.out 8; obtain ⟨Ao83, co83, eo83⟩ := Kd.V_slice HO393.out; subst eo83))
         have n0_ : Aside0 (Kd.V k38 38 (((((((((w81.setCell ⟨gb395, 0, none⟩ (.string t383)).setCell ⟨gb395, 1, none⟩ (.string t384)).setCell ⟨gb395, 2, none⟩ (.string t385)).setCell ⟨gb395, 3, none⟩ (.int .u8 t386)).setCell ⟨gb395, 4, none⟩ (.int .i64 t387)).setCell ⟨gb395, 5, none⟩ (.int .i64 t388)).setCell ⟨gb395, 6, none⟩ (.int .i64 t389)).setCell ⟨gb395, 7, none⟩ (.int .i64 t390)).setCell ⟨gb395, 8, none⟩ (.slice Ao83 t391.length co83)) w.heap.size (fun k_ => ((P0_ k_ ∨ P1_ k_) ∨ w.heap.size ≤ k_) ∧ k_ ≠ gb395) (.slice (some ad382) l1.length c1) l1) := ⟨by (with_reducible repeat (first | apply Va_ | apply VN_ | apply V1_)); exact Kd.V_mono (Kd.V_far (p := ⟨gb395, 8, none⟩) (Kd.V_far (p := ⟨gb395, 7, none⟩) (Kd.V_far (p := ⟨gb395, 6, none⟩) (Kd.V_far (p := ⟨gb395, 5, none⟩) (Kd.V_far (p := ⟨gb395, 4, none⟩) (Kd.V_far (p := ⟨gb395, 3, none⟩) (Kd.V_far (p := ⟨gb395, 2, none⟩) (Kd.V_far (p := ⟨gb395, 1, none⟩) (Kd.V_far (p := ⟨gb395, 0, none⟩) (Kd.V_mono HO_1.out (fun k_ hk => (⟨hk, hk.2⟩ : _ ∧ k_ ≠ gb395))) (fun _ hk => hk.2) (.string t383)) (fun _ hk => hk.2) (.string t384)) (fun _ hk => hk.2) (.string t385)) (fun _ hk => hk.2) (.int .u8 t386)) (fun _ hk => hk.2) (.int .i64 t387)) (fun _ hk => hk.2) (.int .i64 t388)) (fun _ hk => hk.2) (.int .i64 t389)) (fun _ hk => hk.2) (.int .i64 t390)) (fun _ hk => hk.2) (.slice Ao83 t391.length co83)) (fun _ hk => ⟨hk.1.1, hk.1.2⟩)⟩
         have n1_ : Aside0 (Kd.V k38 38 (((((((((w81.setCell ⟨gb395, 0, none⟩ (.string t383)).setCell ⟨gb395, 1, none⟩ (.string t384)).setCell ⟨gb395, 2, none⟩ (.string t385)).setCell ⟨gb395, 3, none⟩ (.int .u8 t386)).setCell ⟨gb395, 4, none⟩ (.int .i64 t387)).setCell ⟨gb395, 5, none⟩ (.int .i64 t388)).setCell ⟨gb395, 6, none⟩ (.int .i64 t389)).setCell ⟨gb395, 7, none⟩ (.int .i64 t390)).setCell ⟨gb395, 8, none⟩ (.slice Ao83 t391.length co83)) w.heap.size (fun k_ => ((P0_ k_ ∨ P1_ k_) ∨ w.heap.size ≤ k_) ∧ k_ ≠ gb395) (.slice Ao79 t347.length co79) t347) := ⟨by (with_reducible repeat (first | apply Va_ | apply VN_ | apply V1_)); exact Kd.V_mono (Kd.V_far (p := ⟨gb395, 8, none⟩) (Kd.V_far (p := ⟨gb395, 7, none⟩) (Kd.V_far (p := ⟨gb395, 6, none⟩) (Kd.V_far (p := ⟨gb395, 5, none⟩) (Kd.V_far (p := ⟨gb395, 4, none⟩) (Kd.V_far (p := ⟨gb395, 3, none⟩) (Kd.V_far (p := ⟨gb395, 2, none⟩) (Kd.V_far (p := ⟨gb395, 1, none⟩) (Kd.V_far (p := ⟨gb395, 0, none⟩) (Kd.V_mono HO_5.out (fun k_ hk => (⟨hk, hk.2⟩ : _ ∧ k_ ≠ gb395))) (fun _ hk => hk.2) (.string t383)) (fun _ hk => hk.2) (.string t384)) (fun _ hk => hk.2) (.string t385)) (fun _ hk => hk.2) (.int .u8 t386)) (fun _ hk => hk.2) (.int .i64 t387)) (fun _ hk => hk.2) (.int .i64 t388)) (fun _ hk => hk.2) (.int .i64 t389)) (fun _ hk => hk.2) (.int .i64 t390)) (fun _ hk => hk.2) (.slice Ao83 t391.length co83)) (fun _ hk => ⟨hk.1.1, hk.1.2⟩)⟩
         have n2_ : Aside0 (Kd.V (Kd.int .u8) 5 (((((((((w81.setCell ⟨gb395, 0, none⟩ (.string t383)).setCell ⟨gb395, 1, none⟩ (.string t384)).setCell ⟨gb395, 2, none⟩ (.string t385)).setCell ⟨gb395, 3, none⟩ (.int .u8 t386)).setCell ⟨gb395, 4, none⟩ (.int .i64 t387)).setCell ⟨gb395, 5, none⟩ (.int .i64 t388)).setCell ⟨gb395, 6, none⟩ (.int .i64 t389)).setCell ⟨gb395, 7, none⟩ (.int .i64 t390)).setCell ⟨gb395, 8, none⟩ (.slice Ao83 t391.length co83)) w.heap.size (fun k_ => ((P0_ k_ ∨ P1_ k_) ∨ w.heap.size ≤ k_) ∧ k_ ≠ gb395) (.slice A382_8 ((rd_T38 l1 x13_3).f5).length c382_8) ((rd_T38 l1 x13_3).f5)) := ⟨by (with_reducible repeat (first | apply Va_ | apply VN_ | apply V1_)); exact Kd.V_mono (Kd.V_far (p := ⟨gb395, 8, none⟩) (Kd.V_far (p := ⟨gb395, 7, none⟩) (Kd.V_far (p := ⟨gb395, 6, none⟩) (Kd.V_far (p := ⟨gb395, 5, none⟩) (Kd.V_far (p := ⟨gb395, 4, none⟩) (Kd.V_far (p := ⟨gb395, 3, none⟩) (Kd.V_far (p := ⟨gb395, 2, none⟩) (Kd.V_far (p := ⟨gb395, 1, none⟩) (Kd.V_far (p := ⟨gb395, 0, none⟩) (Kd.V_mono HL382_8.out (fun k_ hk => (⟨hk, hk.2⟩ : _ ∧ k_ ≠ gb395))) (fun _ hk => hk.2) (.string t383)) (fun _ hk => hk.2) (.string t384)) (fun _ hk => hk.2) (.string t385)) (fun _ hk => hk.2) (.int .u8 t386)) (fun _ hk => hk.2) (.int .i64 t387)) (fun _ hk => hk.2) (.int .i64 t388)) (fun _ hk => hk.2) (.int .i64 t389)) (fun _ hk => hk.2) (.int .i64 t390)) (fun _ hk => hk.2) (.slice Ao83 t391.length co83)) (fun _ hk => ⟨hk.1.1, hk.1.2⟩)⟩
         have n3_ : Aside0 (Kd.V (Kd.int .u8) 5 (((((((((w81.setCell ⟨gb395, 0, none⟩ (.string t383)).setCell ⟨gb395, 1, none⟩ (.string t384)).setCell ⟨gb395, 2, none⟩ (.string t385)).setCell ⟨gb395, 3, none⟩ (.int .u8 t386)).setCell ⟨gb395, 4, none⟩ (.int .i64 t387)).setCell ⟨gb395, 5, none⟩ (.int .i64 t388)).setCell ⟨gb395, 6, none⟩ (.int .i64 t389)).setCell ⟨gb395, 7, none⟩ (.int .i64 t390)).setCell ⟨gb395, 8, none⟩ (.slice Ao83 t391.length co83)) w.heap.size (fun k_ => ((P0_ k_ ∨ P1_ k_) ∨ w.heap.size ≤ k_) ∧ k_ ≠ gb395) (.slice Ao83 t391.length co83) t391) := ⟨by (with_reducible repeat (first | apply Va_ | apply VN_ | apply V1_)); exact Kd.V_mono (Kd.V_far (p := ⟨gb395, 8, none⟩) (Kd.V_far (p := ⟨gb395, 7, none⟩) (Kd.V_far (p := ⟨gb395, 6, none⟩) (Kd.V_far (p := ⟨gb395, 5, none⟩) (Kd.V_far (p := ⟨gb395, 4, none⟩) (Kd.V_far (p := ⟨gb395, 3, none⟩) (Kd.V_far (p := ⟨gb395, 2, none⟩) (Kd.V_far (p := ⟨gb395, 1, none⟩) (Kd.V_far (p := ⟨gb395, 0, none⟩) (Kd.V_mono HO393.out (fun k_ hk => (⟨hk, hk.2⟩ : _ ∧ k_ ≠ gb395))) (fun _ hk => hk.2) (.string t383)) (fun _ hk => hk.2) (.string t384)) (fun _ hk => hk.2) (.string t385)) (fun _ hk => hk.2) (.int .u8 t386)) (fun _ hk => hk.2) (.int .i64 t387)) (fun _ hk => hk.2) (.int .i64 t388)) (fun _ hk => hk.2) (.int .i64 t389)) (fun _ hk => hk.2) (.int .i64 t390)) (fun _ hk => hk.2) (.slice Ao83 t391.length co83)) (fun _ hk => ⟨hk.1.1, hk.1.2⟩)⟩
         have n4_ : Aside0 ((((((((((w81.setCell ⟨gb395, 0, none⟩ (.string t383)).setCell ⟨gb395, 1, none⟩ (.string t384)).setCell ⟨gb395, 2, none⟩ (.string t385)).setCell ⟨gb395, 3, none⟩ (.int .u8 t386)).setCell ⟨gb395, 4, none⟩ (.int .i64 t387)).setCell ⟨gb395, 5, none⟩ (.int .i64 t388)).setCell ⟨gb395, 6, none⟩ (.int .i64 t389)).setCell ⟨gb395, 7, none⟩ (.int .i64 t390)).setCell ⟨gb395, 8, none⟩ (.slice Ao83 t391.length co83)).heap[gb395]? = some (.cells #[.string t383, .string t384, .string t385, .int .u8 t386, .int .i64 t387, .int .i64 t388, .int .i64 t389, .int .i64 t390, .slice Ao83 t391.length co83] 38 (0, 0))) := ⟨by (with_reducible repeat (first | refine blk_drewN ?_ _ | refine blk_drew ?_ | refine blk_alloc ?_ _)); refine blk_put (cs := #[.string t383, .string t384, .string t385, .int .u8 t386, .int .i64 t387, .int .i64 t388, .int .i64 t389, .int .i64 t390, .slice none 0 0]) ?_ 8 _ rfl; (with_reducible repeat (first | refine blk_drewN ?_ _ | refine blk_drew ?_ | refine blk_alloc ?_ _)); refine blk_put (cs := #[.string t383, .string t384, .string t385, .int .u8 t386, .int .i64 t387, .int .i64 t388, .int .i64 t389, .int .i64 0, .slice none 0 0]) ?_ 7 _ rfl; (with_reducible repeat (first | refine blk_drewN ?_ _ | refine blk_drew ?_ | refine blk_alloc ?_ _)); refine blk_put (cs := #[.string t383, .string t384, .string t385, .int .u8 t386, .int .i64 t387, .int .i64 t388, .int .i64 0, .int .i64 0, .slice none 0 0]) ?_ 6 _ rfl; (with_reducible repeat (first | refine blk_drewN ?_ _ | refine blk_drew ?_ | refine blk_alloc ?_ _)); refine blk_put (cs := #[.string t383, .string t384, .string t385, .int .u8 t386, .int .i64 t387, .int .i64 0, .int .i64 0, .int .i64 0, .slice none 0 0]) ?_ 5 _ rfl; (with_reducible repeat (first | refine blk_drewN ?_ _ | refine blk_drew ?_ | refine blk_alloc ?_ _)); refine blk_put (cs := #[.string t383, .string t384, .string t385, .int .u8 t386, .int .i64 0, .int .i64 0, .int .i64 0, .int .i64 0, .slice none 0 0]) ?_ 4 _ rfl; (with_reducible repeat (first | refine blk_drewN ?_ _ | refine blk_drew ?_ | refine blk_alloc ?_ _)); refine blk_put (cs := #[.string t383, .string t384, .string t385, .int .u8 0, .int .i64 0, .int .i64 0, .int .i64 0, .int .i64 0, .slice none 0 0]) ?_ 3 _ rfl; (with_reducible repeat (first | refine blk_drewN ?_ _ | refine blk_drew ?_ | refine blk_alloc ?_ _)); refine blk_put (cs := #[.string t383, .string t384, .string (⟨#[]⟩ : ByteArray), .int .u8 0, .int .i64 0, .int .i64 0, .int .i64 0, .int .i64 0, .slice none 0 0]) ?_ 2 _ rfl; (with_reducible repeat (first | refine blk_drewN ?_ _ | refine blk_drew ?_ | refine blk_alloc ?_ _)); refine blk_put (cs := #[.string t383, .string (⟨#[]⟩ : ByteArray), .string (⟨#[]⟩ : ByteArray), .int .u8 0, .int .i64 0, .int .i64 0, .int .i64 0, .int .i64 0, .slice none 0 0]) ?_ 1 _ rfl; (with_reducible repeat (first | refine blk_drewN ?_ _ | refine blk_drew ?_ | refine blk_alloc ?_ _)); refine blk_put (cs := #[.string (⟨#[]⟩ : ByteArray), .string (⟨#[]⟩ : ByteArray), .string (⟨#[]⟩ : ByteArray), .int .u8 0, .int .i64 0, .int .i64 0, .int .i64 0, .int .i64 0, .slice none 0 0]) ?_ 0 _ rfl; (with_reducible repeat (first | refine blk_drewN ?_ _ | refine blk_drew ?_ | refine blk_alloc ?_ _)); exact BK395.out⟩
         have n5_ : Aside0 (Below w.heap.size w (((((((((w81.setCell ⟨gb395, 0, none⟩ (.string t383)).setCell ⟨gb395, 1, none⟩ (.string t384)).setCell ⟨gb395, 2, none⟩ (.string t385)).setCell ⟨gb395, 3, none⟩ (.int .u8 t386)).setCell ⟨gb395, 4, none⟩ (.int .i64 t387)).setCell ⟨gb395, 5, none⟩ (.int .i64 t388)).setCell ⟨gb395, 6, none⟩ (.int .i64 t389)).setCell ⟨gb395, 7, none⟩ (.int .i64 t390)).setCell ⟨gb395, 8, none⟩ (.slice Ao83 t391.length co83))) := ⟨wb1_ HB.out GE395.out⟩
         (try clear HO_1)
         (try clear HO_5)
         (try clear HL382_8)
         (try clear HO393)
         (try clear BK395)
         (try clear HB)
         generalize (((((((((w81.setCell ⟨gb395, 0, none⟩ (.string t383)).setCell ⟨gb395, 1, none⟩ (.string t384)).setCell ⟨gb395, 2, none⟩ (.string t385)).setCell ⟨gb395, 3, none⟩ (.int .u8 t386)).setCell ⟨gb395, 4, none⟩ (.int .i64 t387)).setCell ⟨gb395, 5, none⟩ (.int .i64 t388)).setCell ⟨gb395, 6, none⟩ (.int .i64 t389)).setCell ⟨gb395, 7, none⟩ (.int .i64 t390)).setCell ⟨gb395, 8, none⟩ (.slice Ao83 t391.length co83)) = w84 at n0_ n1_ n2_ n3_ n4_ n5_ ⊢
         have HO_1 := n0_
         have HO_5 := n1_
         have HL382_8 := n2_
         have HO393 := n3_
         have BK395 := n4_
         have HB := n5_
         clear n0_ n1_ n2_ n3_ n4_ n5_
         have n0_ := A0_ (V1_ HO_1.out)
         have n1_ := A0_ (V1_ HO_5.out)
         have n2_ := A0_ (V1_ HL382_8.out)
         have n3_ := A0_ (V1_ HO393.out)
         have n4_ := A0_ (blk_drew BK395.out)
         have n5_ := A0_ (b1_ HB.out)
         clear HO_1
         clear HO_5
         clear HL382_8
         clear HO393
         clear BK395
         clear HB
         have HO_1 := n0_
         have HO_5 := n1_
         have HL382_8 := n2_
         have HO393 := n3_
         have BK395 := n4_
         have HB := n5_
         clear n0_ n1_ n2_ n3_ n4_ n5_
         refine start_ (n := 11) (S := fun w' => True) (ds := []) q6_0 (by kernel_rfl) rfl rfl trivial (fun hHeld => ?_); refine with_tabW bindlelaw19_UnionLast.tab18 bindlelaw19_UnionLast.bits18 (fun HT_ HW_ => ?_)
         generalize w84.drew = w85 at HO_1 HO_5 HL382_8 HO393 BK395 HB hHeld ⊢
         refine pur_ (i := 0) (N := some 102) q6_1 (any_of HT_.out (by kernel_rfl)) ?_
         refine pur_ (i := 1) (N := some 103) q6_2 (any_of HT_.out (by kernel_rfl)) ?_
         refine pur_ (i := 2) (N := some 104) q6_3 (any_of HT_.out (by kernel_rfl)) ?_
         refine puu_ (i := 3) (N := some 105) q6_4 (any_of HT_.out (by kernel_rfl)) ?_
         refine puu_ (i := 4) (N := some 106) q6_5 (any_of HT_.out (by kernel_rfl)) ?_
         refine puu_ (i := 5) (N := some 107) q6_6 (any_of HT_.out (by kernel_rfl)) ?_
         refine puu_ (i := 6) (N := some 108) q6_7 (any_of HT_.out (by kernel_rfl)) ?_
         refine puu_ (i := 7) (N := some 109) q6_8 (any_of HT_.out (by kernel_rfl)) ?_
         refine puu_ (i := 8) (N := some 110) q6_9 (any_of HT_.out (by kernel_rfl)) ?_
         refine puu_ (i := 9) (N := some 111) q6_10 (any_of HT_.out (by kernel_rfl)) ?_
         refine pur_ (i := 10) (N := some 112) q6_11 (any_of HT_.out (by kernel_rfl)) ?_
         refine done_ (done_of HT_.out (by kernel_rfl)) ?_
         try go_wp2
         go_ret
         exact ⟨we_, wb1_ HB.out GE395.out⟩
        subst c60
        have H1 : ((bindleref08_Equal.f t383 t384 t385 t386 t387 t388 t389 t390 t391 ((rd_T38 l1 x13_3).f0) ((rd_T38 l1 x13_3).f1) ((rd_T38 l1 x13_3).f2) ((rd_T38 l1 x13_3).f3) ((rd_T38 l1 x13_3).f4.f0) ((rd_T38 l1 x13_3).f4.f1) ((rd_T38 l1 x13_3).f4.f2) ((rd_T38 l1 x13_3).f4.f3) ((rd_T38 l1 x13_3).f5)).bind fun t397 => (if t397 = true then (bindlelaw19_UnionLast.l1 k3 l1 t347 x7_2 (wrap64 (x13_3 + 1))) else (some false))) = some r := by rw [if_pos rfl] at H; exact H
        clear H
        have H := H1
        clear H1
        replace H := Option.bind_eq_some_iff.mp H
        obtain ⟨t397, A610, H⟩ := H
        replace H : (if t397 = true then (bindlelaw19_UnionLast.l1 k3 l1 t347 x7_2 (wrap64 (x13_3 + 1))) else (some false)) = some r := H
        have A61 := A0_ A610
        clear A610
        by_cases c62 : t397 = true
        rotate_left
        ·replace c62 := Bool.eq_false_iff.mpr c62
         subst c62
         have H1 : (some false) = some r := by rw [if_neg (show ¬ (false = true) by decide)] at H; exact H
         clear H
         have H := H1
         clear H1
         obtain rfl := Option.some.inj H
         have p382 : 0 ≤ (x13_3 : Int) := wd_
         have q382 : x13_3 < (l1.length : Int) := wd_
         obtain ⟨ad382, A382_8, c382_8, e382, hx382_0, hx382_1, hx382_2, hx382_3, hx382_4, hx382_5, hx382_6, hx382_7, hx382_8, hl382_8, hi382_8⟩ := at_T38 (Kd.V_reads' HO_1.out).2.2 x13_3 p382 q382
         cases e382
         obtain ⟨ce382, hce382, hMe382, hcc382⟩ := Kd.V_get HO_1.out z38 x13_3 p382 (by first | exact q382 | exact wd_ | (have e_ := (Kd.V_reads' HO_1.out).1; omega))
         obtain ⟨ua382_8, uc382_8, rfl, ul382_8, ge382_8⟩ := k38_openF hMe382
         have hv382_8 := hcc382 8 _ rfl
         rw [add_field _ _ 8 (by omega)] at hv382_8
         replace hv382_8 := Option.some.inj (hv382_8.symm.trans hx382_8)
         injection hv382_8 with hva_ hvn_ hvc_
         rw [hva_] at ge382_8
         rw [hvc_] at ul382_8
         have HL382_8 := A0_ (show Kd.V (Kd.int .u8) 5 _ w.heap.size _ _ ((rd_T38 l1 x13_3).f5) from Kd.V_mk ul382_8 ge382_8)
         clear hva_ hvn_ hvc_ ge382_8 ul382_8
         clear hcc382 hce382
         have HR382_8 := A0_ hi382_8
         have HC382_8 := A0_ hl382_8
         clear hi382_8 hl382_8
         replace p382 := eq_true p382
         replace q382 := eq_true q382
         obtain ⟨Ao71, co71, eo71⟩ := Kd.V_slice HO_5.out
         subst eo71
         try go_wp2_with (first | ((with_reducible refine gate_callee (f := 19) rfl ?_); refine goesL_ (some 99) rfl rfl Tryd.func19 (by kernel_rfl) rfl #[.slice Ao71 t347.length co71, .string ((rd_T38 l1 x13_3).f0)] rfl wm_ ?_; (with_reducible refine (bindleref08_Find.calls k3 (fun k_ => ((P0_ k_ ∨ P1_ k_) ∨ w.heap.size ≤ k_)) _ _ t347 ((rd_T38 l1 x13_3).f0) t383 t384 t385 t386 t387 t388 t389 t390 t391 true _ ?side1 A59.out).mono ?_); (case side1 => exact HO_5.out); rintro e w72 ⟨v392, rfl, ho0, hb⟩; refine ⟨_, rfl, ?_⟩; have n0_ := A0_ (Vb_ (wV_ HO_1.out) hb); have n1_ := A0_ (Vb_ (wV_ HO_5.out) hb); have n2_ := A0_ (Vb_ (wV_ HL382_8.out) hb); have n3_ := A0_ (Kd.V_lower (Kd.V_mono (ok' := fun k_ => ((P0_ k_ ∨ P1_ k_) ∨ w.heap.size ≤ k_)) ho0 (fun k_ hk_ => Or.elim hk_ (fun hs_ => hs_) (fun hn_ => (.inr (Nat.le_trans (below_size (wb_ HB.out)) hn_))))) (below_size (wb_ HB.out))); (first | have n4_ := A0_ (Kd.C_below (by repeat (first | (with_reducible exact HR382_8.out) | (with_reducible refine Ca_ ?_ _) | (with_reducible refine CN_ ?_ _) | (with_reducible refine C1_ ?_) | exact HR382_8.out)) hb) | have n4_ : Aside0 True := ⟨trivial⟩); have n5_ := A0_ (below_step (wb_ HB.out) hb); clear HO_1; clear HO_5; clear HL382_8; clear HR382_8; clear HB; have HO_1 := n0_; have HO_5 := n1_; have HL382_8 := n2_; have HO393 := n3_; have HR382_8 := n4_; have HB := n5_; clear n0_ n1_ n2_ n3_ n4_ n5_; (try clear hb); (try clear hb2); (try clear hk); (try clear hi); (try clear ho0)) | ((with_reducible refine gate_dst (N := 14) rfl ?_); (try (refine gate_guard (by rfl) ?_; dsimp only)); refine box_event ?hg (N := 14) ?hd (cs := #[.string (⟨#[]⟩ : ByteArray), .string (⟨#[]⟩ : ByteArray), .string (⟨#[]⟩ : ByteArray), .int .u8 0, .int .i64 0, .int .i64 0, .int .i64 0, .int .i64 0, .slice none 0 0]) (t := 38) ?hr ?_; (case hd => rfl); (case hg => rfl); (case hr => first | (go_simp; done) | (go_simp; rfl)); intro gb395 hg w73 hbox hb; have n0_ := A0_ (Vb_ (Kd.V_elderB (wV_ HO_1.out) gb395 (Nat.le_of_eq hg.symm)) hb); have n1_ := A0_ (Vb_ (Kd.V_elderB (wV_ HO_5.out) gb395 (Nat.le_of_eq hg.symm)) hb); have n2_ := A0_ (Vb_ (Kd.V_elderB (wV_ HL382_8.out) gb395 (Nat.le_of_eq hg.symm)) hb); have n3_ := A0_ (Vb_ (Kd.V_elderB (wV_ HO393.out) gb395 (Nat.le_of_eq hg.symm)) hb); (first | have n4_ := A0_ (Kd.C_below (by repeat (first | (with_reducible exact HR382_8.out) | (with_reducible refine Ca_ ?_ _) | (with_reducible refine CN_ ?_ _) | (with_reducible refine C1_ ?_) | exact HR382_8.out)) hb) | have n4_ : Aside0 True := ⟨trivial⟩); have n5_ := A0_ (below_step (wb_ HB.out) hb); have n6_ := A0_ (hbox); have n7_ := A0_ ((by rw [hg]; exact (below_size (wb_ HB.out)) : w.heap.size ≤ gb395)); have n8_ := A0_ ((by rw [hg]; exact (below_size (wb_ HB.out)) : w.heap.size ≤ gb395)); clear HO_1; clear HO_5; clear HL382_8; clear HO393; clear HR382_8; clear HB; have HO_1 := n0_; have HO_5 := n1_; have HL382_8 := n2_; have HO393 := n3_; have HR382_8 := n4_; have HB := n5_; have BK395 := n6_; have GW395 := n7_; have GE395 := n8_; clear n0_ n1_ n2_ n3_ n4_ n5_ n6_ n7_ n8_; clear hb hbox hg; have hcz74_0 : w73.cell? ⟨gb395, 0, none⟩ = some (.string (⟨#[]⟩ : ByteArray)) := (bc_ BK395.out 0).trans rfl; have hcz74_1 : w73.cell? ⟨gb395, 1, none⟩ = some (.string (⟨#[]⟩ : ByteArray)) := (bc_ BK395.out 1).trans rfl; have hcz74_2 : w73.cell? ⟨gb395, 2, none⟩ = some (.string (⟨#[]⟩ : ByteArray)) := (bc_ BK395.out 2).trans rfl; have hcz74_3 : w73.cell? ⟨gb395, 3, none⟩ = some (.int .u8 0) := (bc_ BK395.out 3).trans rfl; have hcz74_4 : w73.cell? ⟨gb395, 4, none⟩ = some (.int .i64 0) := (bc_ BK395.out 4).trans rfl; have hcz74_5 : w73.cell? ⟨gb395, 5, none⟩ = some (.int .i64 0) := (bc_ BK395.out 5).trans rfl; have hcz74_6 : w73.cell? ⟨gb395, 6, none⟩ = some (.int .i64 0) := (bc_ BK395.out 6).trans rfl; have hcz74_7 : w73.cell? ⟨gb395, 7, none⟩ = some (.int .i64 0) := (bc_ BK395.out 7).trans rfl; have hcz74_8 : w73.cell? ⟨gb395, 8, none⟩ = some (.slice none 0 0) := (bc_ BK395.out 8).trans rfl; have hfz74_0 := bf_ BK395.out 0; have hfz74_1 := bf_ BK395.out 1; have hfz74_2 := bf_ BK395.out 2; have hfz74_3 := bf_ BK395.out 3; have hfz74_4 := bf_ BK395.out 4; have hfz74_5 := bf_ BK395.out 5; have hfz74_6 := bf_ BK395.out 6; have hfz74_7 := bf_ BK395.out 7; have hfz74_8 := bf_ BK395.out 8; obtain ⟨Ao75, co75, eo75⟩ := Kd.V_slice HO393.out; subst eo75))
         have n0_ : Aside0 (Kd.V k38 38 (((((((((w73.setCell ⟨gb395, 0, none⟩ (.string t383)).setCell ⟨gb395, 1, none⟩ (.string t384)).setCell ⟨gb395, 2, none⟩ (.string t385)).setCell ⟨gb395, 3, none⟩ (.int .u8 t386)).setCell ⟨gb395, 4, none⟩ (.int .i64 t387)).setCell ⟨gb395, 5, none⟩ (.int .i64 t388)).setCell ⟨gb395, 6, none⟩ (.int .i64 t389)).setCell ⟨gb395, 7, none⟩ (.int .i64 t390)).setCell ⟨gb395, 8, none⟩ (.slice Ao75 t391.length co75)) w.heap.size (fun k_ => ((P0_ k_ ∨ P1_ k_) ∨ w.heap.size ≤ k_) ∧ k_ ≠ gb395) (.slice (some ad382) l1.length c1) l1) := ⟨by (with_reducible repeat (first | apply Va_ | apply VN_ | apply V1_)); exact Kd.V_mono (Kd.V_far (p := ⟨gb395, 8, none⟩) (Kd.V_far (p := ⟨gb395, 7, none⟩) (Kd.V_far (p := ⟨gb395, 6, none⟩) (Kd.V_far (p := ⟨gb395, 5, none⟩) (Kd.V_far (p := ⟨gb395, 4, none⟩) (Kd.V_far (p := ⟨gb395, 3, none⟩) (Kd.V_far (p := ⟨gb395, 2, none⟩) (Kd.V_far (p := ⟨gb395, 1, none⟩) (Kd.V_far (p := ⟨gb395, 0, none⟩) (Kd.V_mono HO_1.out (fun k_ hk => (⟨hk, hk.2⟩ : _ ∧ k_ ≠ gb395))) (fun _ hk => hk.2) (.string t383)) (fun _ hk => hk.2) (.string t384)) (fun _ hk => hk.2) (.string t385)) (fun _ hk => hk.2) (.int .u8 t386)) (fun _ hk => hk.2) (.int .i64 t387)) (fun _ hk => hk.2) (.int .i64 t388)) (fun _ hk => hk.2) (.int .i64 t389)) (fun _ hk => hk.2) (.int .i64 t390)) (fun _ hk => hk.2) (.slice Ao75 t391.length co75)) (fun _ hk => ⟨hk.1.1, hk.1.2⟩)⟩
         have n1_ : Aside0 (Kd.V k38 38 (((((((((w73.setCell ⟨gb395, 0, none⟩ (.string t383)).setCell ⟨gb395, 1, none⟩ (.string t384)).setCell ⟨gb395, 2, none⟩ (.string t385)).setCell ⟨gb395, 3, none⟩ (.int .u8 t386)).setCell ⟨gb395, 4, none⟩ (.int .i64 t387)).setCell ⟨gb395, 5, none⟩ (.int .i64 t388)).setCell ⟨gb395, 6, none⟩ (.int .i64 t389)).setCell ⟨gb395, 7, none⟩ (.int .i64 t390)).setCell ⟨gb395, 8, none⟩ (.slice Ao75 t391.length co75)) w.heap.size (fun k_ => ((P0_ k_ ∨ P1_ k_) ∨ w.heap.size ≤ k_) ∧ k_ ≠ gb395) (.slice Ao71 t347.length co71) t347) := ⟨by (with_reducible repeat (first | apply Va_ | apply VN_ | apply V1_)); exact Kd.V_mono (Kd.V_far (p := ⟨gb395, 8, none⟩) (Kd.V_far (p := ⟨gb395, 7, none⟩) (Kd.V_far (p := ⟨gb395, 6, none⟩) (Kd.V_far (p := ⟨gb395, 5, none⟩) (Kd.V_far (p := ⟨gb395, 4, none⟩) (Kd.V_far (p := ⟨gb395, 3, none⟩) (Kd.V_far (p := ⟨gb395, 2, none⟩) (Kd.V_far (p := ⟨gb395, 1, none⟩) (Kd.V_far (p := ⟨gb395, 0, none⟩) (Kd.V_mono HO_5.out (fun k_ hk => (⟨hk, hk.2⟩ : _ ∧ k_ ≠ gb395))) (fun _ hk => hk.2) (.string t383)) (fun _ hk => hk.2) (.string t384)) (fun _ hk => hk.2) (.string t385)) (fun _ hk => hk.2) (.int .u8 t386)) (fun _ hk => hk.2) (.int .i64 t387)) (fun _ hk => hk.2) (.int .i64 t388)) (fun _ hk => hk.2) (.int .i64 t389)) (fun _ hk => hk.2) (.int .i64 t390)) (fun _ hk => hk.2) (.slice Ao75 t391.length co75)) (fun _ hk => ⟨hk.1.1, hk.1.2⟩)⟩
         have n2_ : Aside0 (Kd.V (Kd.int .u8) 5 (((((((((w73.setCell ⟨gb395, 0, none⟩ (.string t383)).setCell ⟨gb395, 1, none⟩ (.string t384)).setCell ⟨gb395, 2, none⟩ (.string t385)).setCell ⟨gb395, 3, none⟩ (.int .u8 t386)).setCell ⟨gb395, 4, none⟩ (.int .i64 t387)).setCell ⟨gb395, 5, none⟩ (.int .i64 t388)).setCell ⟨gb395, 6, none⟩ (.int .i64 t389)).setCell ⟨gb395, 7, none⟩ (.int .i64 t390)).setCell ⟨gb395, 8, none⟩ (.slice Ao75 t391.length co75)) w.heap.size (fun k_ => ((P0_ k_ ∨ P1_ k_) ∨ w.heap.size ≤ k_) ∧ k_ ≠ gb395) (.slice A382_8 ((rd_T38 l1 x13_3).f5).length c382_8) ((rd_T38 l1 x13_3).f5)) := ⟨by (with_reducible repeat (first | apply Va_ | apply VN_ | apply V1_)); exact Kd.V_mono (Kd.V_far (p := ⟨gb395, 8, none⟩) (Kd.V_far (p := ⟨gb395, 7, none⟩) (Kd.V_far (p := ⟨gb395, 6, none⟩) (Kd.V_far (p := ⟨gb395, 5, none⟩) (Kd.V_far (p := ⟨gb395, 4, none⟩) (Kd.V_far (p := ⟨gb395, 3, none⟩) (Kd.V_far (p := ⟨gb395, 2, none⟩) (Kd.V_far (p := ⟨gb395, 1, none⟩) (Kd.V_far (p := ⟨gb395, 0, none⟩) (Kd.V_mono HL382_8.out (fun k_ hk => (⟨hk, hk.2⟩ : _ ∧ k_ ≠ gb395))) (fun _ hk => hk.2) (.string t383)) (fun _ hk => hk.2) (.string t384)) (fun _ hk => hk.2) (.string t385)) (fun _ hk => hk.2) (.int .u8 t386)) (fun _ hk => hk.2) (.int .i64 t387)) (fun _ hk => hk.2) (.int .i64 t388)) (fun _ hk => hk.2) (.int .i64 t389)) (fun _ hk => hk.2) (.int .i64 t390)) (fun _ hk => hk.2) (.slice Ao75 t391.length co75)) (fun _ hk => ⟨hk.1.1, hk.1.2⟩)⟩
         have n3_ : Aside0 (Kd.V (Kd.int .u8) 5 (((((((((w73.setCell ⟨gb395, 0, none⟩ (.string t383)).setCell ⟨gb395, 1, none⟩ (.string t384)).setCell ⟨gb395, 2, none⟩ (.string t385)).setCell ⟨gb395, 3, none⟩ (.int .u8 t386)).setCell ⟨gb395, 4, none⟩ (.int .i64 t387)).setCell ⟨gb395, 5, none⟩ (.int .i64 t388)).setCell ⟨gb395, 6, none⟩ (.int .i64 t389)).setCell ⟨gb395, 7, none⟩ (.int .i64 t390)).setCell ⟨gb395, 8, none⟩ (.slice Ao75 t391.length co75)) w.heap.size (fun k_ => ((P0_ k_ ∨ P1_ k_) ∨ w.heap.size ≤ k_) ∧ k_ ≠ gb395) (.slice Ao75 t391.length co75) t391) := ⟨by (with_reducible repeat (first | apply Va_ | apply VN_ | apply V1_)); exact Kd.V_mono (Kd.V_far (p := ⟨gb395, 8, none⟩) (Kd.V_far (p := ⟨gb395, 7, none⟩) (Kd.V_far (p := ⟨gb395, 6, none⟩) (Kd.V_far (p := ⟨gb395, 5, none⟩) (Kd.V_far (p := ⟨gb395, 4, none⟩) (Kd.V_far (p := ⟨gb395, 3, none⟩) (Kd.V_far (p := ⟨gb395, 2, none⟩) (Kd.V_far (p := ⟨gb395, 1, none⟩) (Kd.V_far (p := ⟨gb395, 0, none⟩) (Kd.V_mono HO393.out (fun k_ hk => (⟨hk, hk.2⟩ : _ ∧ k_ ≠ gb395))) (fun _ hk => hk.2) (.string t383)) (fun _ hk => hk.2) (.string t384)) (fun _ hk => hk.2) (.string t385)) (fun _ hk => hk.2) (.int .u8 t386)) (fun _ hk => hk.2) (.int .i64 t387)) (fun _ hk => hk.2) (.int .i64 t388)) (fun _ hk => hk.2) (.int .i64 t389)) (fun _ hk => hk.2) (.int .i64 t390)) (fun _ hk => hk.2) (.slice Ao75 t391.length co75)) (fun _ hk => ⟨hk.1.1, hk.1.2⟩)⟩
         have n4_ : Aside0 ((((((((((w73.setCell ⟨gb395, 0, none⟩ (.string t383)).setCell ⟨gb395, 1, none⟩ (.string t384)).setCell ⟨gb395, 2, none⟩ (.string t385)).setCell ⟨gb395, 3, none⟩ (.int .u8 t386)).setCell ⟨gb395, 4, none⟩ (.int .i64 t387)).setCell ⟨gb395, 5, none⟩ (.int .i64 t388)).setCell ⟨gb395, 6, none⟩ (.int .i64 t389)).setCell ⟨gb395, 7, none⟩ (.int .i64 t390)).setCell ⟨gb395, 8, none⟩ (.slice Ao75 t391.length co75)).heap[gb395]? = some (.cells #[.string t383, .string t384, .string t385, .int .u8 t386, .int .i64 t387, .int .i64 t388, .int .i64 t389, .int .i64 t390, .slice Ao75 t391.length co75] 38 (0, 0))) := ⟨by (with_reducible repeat (first | refine blk_drewN ?_ _ | refine blk_drew ?_ | refine blk_alloc ?_ _)); refine blk_put (cs := #[.string t383, .string t384, .string t385, .int .u8 t386, .int .i64 t387, .int .i64 t388, .int .i64 t389, .int .i64 t390, .slice none 0 0]) ?_ 8 _ rfl; (with_reducible repeat (first | refine blk_drewN ?_ _ | refine blk_drew ?_ | refine blk_alloc ?_ _)); refine blk_put (cs := #[.string t383, .string t384, .string t385, .int .u8 t386, .int .i64 t387, .int .i64 t388, .int .i64 t389, .int .i64 0, .slice none 0 0]) ?_ 7 _ rfl; (with_reducible repeat (first | refine blk_drewN ?_ _ | refine blk_drew ?_ | refine blk_alloc ?_ _)); refine blk_put (cs := #[.string t383, .string t384, .string t385, .int .u8 t386, .int .i64 t387, .int .i64 t388, .int .i64 0, .int .i64 0, .slice none 0 0]) ?_ 6 _ rfl; (with_reducible repeat (first | refine blk_drewN ?_ _ | refine blk_drew ?_ | refine blk_alloc ?_ _)); refine blk_put (cs := #[.string t383, .string t384, .string t385, .int .u8 t386, .int .i64 t387, .int .i64 0, .int .i64 0, .int .i64 0, .slice none 0 0]) ?_ 5 _ rfl; (with_reducible repeat (first | refine blk_drewN ?_ _ | refine blk_drew ?_ | refine blk_alloc ?_ _)); refine blk_put (cs := #[.string t383, .string t384, .string t385, .int .u8 t386, .int .i64 0, .int .i64 0, .int .i64 0, .int .i64 0, .slice none 0 0]) ?_ 4 _ rfl; (with_reducible repeat (first | refine blk_drewN ?_ _ | refine blk_drew ?_ | refine blk_alloc ?_ _)); refine blk_put (cs := #[.string t383, .string t384, .string t385, .int .u8 0, .int .i64 0, .int .i64 0, .int .i64 0, .int .i64 0, .slice none 0 0]) ?_ 3 _ rfl; (with_reducible repeat (first | refine blk_drewN ?_ _ | refine blk_drew ?_ | refine blk_alloc ?_ _)); refine blk_put (cs := #[.string t383, .string t384, .string (⟨#[]⟩ : ByteArray), .int .u8 0, .int .i64 0, .int .i64 0, .int .i64 0, .int .i64 0, .slice none 0 0]) ?_ 2 _ rfl; (with_reducible repeat (first | refine blk_drewN ?_ _ | refine blk_drew ?_ | refine blk_alloc ?_ _)); refine blk_put (cs := #[.string t383, .string (⟨#[]⟩ : ByteArray), .string (⟨#[]⟩ : ByteArray), .int .u8 0, .int .i64 0, .int .i64 0, .int .i64 0, .int .i64 0, .slice none 0 0]) ?_ 1 _ rfl; (with_reducible repeat (first | refine blk_drewN ?_ _ | refine blk_drew ?_ | refine blk_alloc ?_ _)); refine blk_put (cs := #[.string (⟨#[]⟩ : ByteArray), .string (⟨#[]⟩ : ByteArray), .string (⟨#[]⟩ : ByteArray), .int .u8 0, .int .i64 0, .int .i64 0, .int .i64 0, .int .i64 0, .slice none 0 0]) ?_ 0 _ rfl; (with_reducible repeat (first | refine blk_drewN ?_ _ | refine blk_drew ?_ | refine blk_alloc ?_ _)); exact BK395.out⟩
         have n5_ : Aside0 (Below w.heap.size w (((((((((w73.setCell ⟨gb395, 0, none⟩ (.string t383)).setCell ⟨gb395, 1, none⟩ (.string t384)).setCell ⟨gb395, 2, none⟩ (.string t385)).setCell ⟨gb395, 3, none⟩ (.int .u8 t386)).setCell ⟨gb395, 4, none⟩ (.int .i64 t387)).setCell ⟨gb395, 5, none⟩ (.int .i64 t388)).setCell ⟨gb395, 6, none⟩ (.int .i64 t389)).setCell ⟨gb395, 7, none⟩ (.int .i64 t390)).setCell ⟨gb395, 8, none⟩ (.slice Ao75 t391.length co75))) := ⟨wb1_ HB.out GE395.out⟩
         (try clear HO_1)
         (try clear HO_5)
         (try clear HL382_8)
         (try clear HO393)
         (try clear BK395)
         (try clear HB)
         generalize (((((((((w73.setCell ⟨gb395, 0, none⟩ (.string t383)).setCell ⟨gb395, 1, none⟩ (.string t384)).setCell ⟨gb395, 2, none⟩ (.string t385)).setCell ⟨gb395, 3, none⟩ (.int .u8 t386)).setCell ⟨gb395, 4, none⟩ (.int .i64 t387)).setCell ⟨gb395, 5, none⟩ (.int .i64 t388)).setCell ⟨gb395, 6, none⟩ (.int .i64 t389)).setCell ⟨gb395, 7, none⟩ (.int .i64 t390)).setCell ⟨gb395, 8, none⟩ (.slice Ao75 t391.length co75)) = w76 at n0_ n1_ n2_ n3_ n4_ n5_ ⊢
         have HO_1 := n0_
         have HO_5 := n1_
         have HL382_8 := n2_
         have HO393 := n3_
         have BK395 := n4_
         have HB := n5_
         clear n0_ n1_ n2_ n3_ n4_ n5_
         have n0_ := A0_ (V1_ HO_1.out)
         have n1_ := A0_ (V1_ HO_5.out)
         have n2_ := A0_ (V1_ HL382_8.out)
         have n3_ := A0_ (V1_ HO393.out)
         have n4_ := A0_ (blk_drew BK395.out)
         have n5_ := A0_ (b1_ HB.out)
         clear HO_1
         clear HO_5
         clear HL382_8
         clear HO393
         clear BK395
         clear HB
         have HO_1 := n0_
         have HO_5 := n1_
         have HL382_8 := n2_
         have HO393 := n3_
         have BK395 := n4_
         have HB := n5_
         clear n0_ n1_ n2_ n3_ n4_ n5_
         have p396 : 0 ≤ (x13_3 : Int) := wd_
         have q396 : x13_3 < (l1.length : Int) := wd_
         obtain ⟨ad396, A396_8, c396_8, e396, hx396_0, hx396_1, hx396_2, hx396_3, hx396_4, hx396_5, hx396_6, hx396_7, hx396_8, hl396_8, hi396_8⟩ := at_T38 (Kd.V_reads' HO_1.out).2.2 x13_3 p396 q396
         obtain rfl : ad382 = ad396 := (by injection e396)
         obtain ⟨ce396, hce396, hMe396, hcc396⟩ := Kd.V_get HO_1.out z38 x13_3 p396 (by first | exact q396 | exact wd_ | (have e_ := (Kd.V_reads' HO_1.out).1; omega))
         obtain ⟨ua396_8, uc396_8, rfl, ul396_8, ge396_8⟩ := k38_openF hMe396
         have hv396_8 := hcc396 8 _ rfl
         rw [add_field _ _ 8 (by omega)] at hv396_8
         replace hv396_8 := Option.some.inj (hv396_8.symm.trans hx396_8)
         injection hv396_8 with hva_ hvn_ hvc_
         rw [hva_] at ge396_8
         rw [hvc_] at ul396_8
         have HL396_8 := A0_ (show Kd.V (Kd.int .u8) 5 _ w.heap.size _ _ ((rd_T38 l1 x13_3).f5) from Kd.V_mk ul396_8 ge396_8)
         clear hva_ hvn_ hvc_ ge396_8 ul396_8
         clear hcc396 hce396
         have HR396_8 := A0_ hi396_8
         have HC396_8 := A0_ hl396_8
         clear hi396_8 hl396_8
         replace p396 := eq_true p396
         replace q396 := eq_true q396
         refine start_ (n := 11) (S := fun w' => w'.cell? ⟨gb395, 0, none⟩ = some (.string t383) ∧ w'.cell? ⟨gb395, 1, none⟩ = some (.string t384) ∧ w'.cell? ⟨gb395, 2, none⟩ = some (.string t385) ∧ w'.cell? ⟨gb395, 3, none⟩ = some (.int .u8 t386) ∧ w'.cell? ⟨gb395, 4, none⟩ = some (.int .i64 t387) ∧ w'.cell? ⟨gb395, 5, none⟩ = some (.int .i64 t388) ∧ w'.cell? ⟨gb395, 6, none⟩ = some (.int .i64 t389) ∧ w'.cell? ⟨gb395, 7, none⟩ = some (.int .i64 t390) ∧ w'.cell? ⟨gb395, 8, none⟩ = some (.slice Ao75 t391.length co75) ∧ w'.cell? (ad382.add ((x13_3).toNat * 9)) = some (.string ((rd_T38 l1 x13_3).f0)) ∧ w'.cell? ⟨(ad382.add ((x13_3).toNat * 9)).block, (ad382.add ((x13_3).toNat * 9)).off + 1, none⟩ = some (.string ((rd_T38 l1 x13_3).f1)) ∧ w'.cell? ⟨(ad382.add ((x13_3).toNat * 9)).block, (ad382.add ((x13_3).toNat * 9)).off + 2, none⟩ = some (.string ((rd_T38 l1 x13_3).f2)) ∧ w'.cell? ⟨(ad382.add ((x13_3).toNat * 9)).block, (ad382.add ((x13_3).toNat * 9)).off + 3, none⟩ = some (.int .u8 ((rd_T38 l1 x13_3).f3)) ∧ w'.cell? ⟨(ad382.add ((x13_3).toNat * 9)).block, (ad382.add ((x13_3).toNat * 9)).off + 4, none⟩ = some (.int .i64 ((rd_T38 l1 x13_3).f4.f0)) ∧ w'.cell? ⟨(ad382.add ((x13_3).toNat * 9)).block, (ad382.add ((x13_3).toNat * 9)).off + 5, none⟩ = some (.int .i64 ((rd_T38 l1 x13_3).f4.f1)) ∧ w'.cell? ⟨(ad382.add ((x13_3).toNat * 9)).block, (ad382.add ((x13_3).toNat * 9)).off + 6, none⟩ = some (.int .i64 ((rd_T38 l1 x13_3).f4.f2)) ∧ w'.cell? ⟨(ad382.add ((x13_3).toNat * 9)).block, (ad382.add ((x13_3).toNat * 9)).off + 7, none⟩ = some (.int .i64 ((rd_T38 l1 x13_3).f4.f3)) ∧ w'.cell? ⟨(ad382.add ((x13_3).toNat * 9)).block, (ad382.add ((x13_3).toNat * 9)).off + 8, none⟩ = some (.slice A396_8 ((rd_T38 l1 x13_3).f5).length c396_8)) (ds := []) q6_0 (by kernel_rfl) rfl rfl ⟨(bc_ BK395.out 0).trans rfl, (bc_ BK395.out 1).trans rfl, (bc_ BK395.out 2).trans rfl, (bc_ BK395.out 3).trans rfl, (bc_ BK395.out 4).trans rfl, (bc_ BK395.out 5).trans rfl, (bc_ BK395.out 6).trans rfl, (bc_ BK395.out 7).trans rfl, (bc_ BK395.out 8).trans rfl, hx396_0, hx396_1, hx396_2, hx396_3, hx396_4, hx396_5, hx396_6, hx396_7, hx396_8⟩ (fun hHeld => ?_); refine with_tabW bindlelaw19_UnionLast.tab18 bindlelaw19_UnionLast.bits18 (fun HT_ HW_ => ?_)
         generalize w76.drew = w77 at HO_1 HO_5 HL382_8 HO393 BK395 HB HL396_8 HR396_8 hx396_0 hx396_1 hx396_2 hx396_3 hx396_4 hx396_5 hx396_6 hx396_7 hx396_8 hHeld ⊢
         refine pur_ (i := 0) (N := some 102) q6_1 (any_of HT_.out (by kernel_rfl)) ?_
         refine pur_ (i := 1) (N := some 103) q6_2 (any_of HT_.out (by kernel_rfl)) ?_
         refine pur_ (i := 2) (N := some 104) q6_3 (any_of HT_.out (by kernel_rfl)) ?_
         refine pur_ (i := 4) (N := some 106) q6_12 (any_of HT_.out (by kernel_rfl)) ?_
         refine pur_ (i := 5) (N := some 107) q6_13 (any_of HT_.out (by kernel_rfl)) ?_
         refine pur_ (i := 6) (N := some 108) q6_14 (any_of HT_.out (by kernel_rfl)) ?_
         refine take_ (i := 3) (N := some 105) (v := ?_) (a' := ?_) q6_7 rfl rfl (take_ofW HT_.out HW_.out (by kernel_rfl)) (fun _ _ _ h => h) (Or.inl ⟨by rfl, ?_⟩) hHeld ?_ ?_
         rotate_left
         ·rintro w' ⟨s0, s1, s2, s3, s4, s5, s6, s7, s8, s9, s10, s11, s12, s13, s14, s15, s16, s17⟩
          go_simp
          with_reducible rfl
         rotate_left
         ·simp only [Act.put, List.setIfInBounds_toArray, List.set_cons_zero, List.set_cons_succ, i64_w, i32_w]
          rfl
         refine take_ (i := 7) (N := some 109) (v := ?_) (a' := ?_) q6_8 rfl rfl (take_ofW HT_.out HW_.out (by kernel_rfl)) (fun _ _ _ h => h) (Or.inl ⟨by rfl, ?_⟩) hHeld ?_ ?_
         rotate_left
         ·rintro w' ⟨s0, s1, s2, s3, s4, s5, s6, s7, s8, s9, s10, s11, s12, s13, s14, s15, s16, s17⟩
          go_simp
          with_reducible rfl
         rotate_left
         ·simp only [Act.put, List.setIfInBounds_toArray, List.set_cons_zero, List.set_cons_succ, i64_w, i32_w]
          rfl
         refine one_ (i := 8) (N := some 110) q6_9 rfl rfl (one_of HT_.out (by kernel_rfl)) (by decide) (fun K hK => ?_)
         refine goes_ Tryd.func20 (by kernel_rfl) rfl #[.agg #[.string t383, .string t384, .string t385, .int .u8 t386, .int .i64 t387, .int .i64 t388, .int .i64 t389, .int .i64 t390, .slice Ao75 t391.length co75], .agg #[.string ((rd_T38 l1 x13_3).f0), .string ((rd_T38 l1 x13_3).f1), .string ((rd_T38 l1 x13_3).f2), .int .u8 ((rd_T38 l1 x13_3).f3), .int .i64 ((rd_T38 l1 x13_3).f4.f0), .int .i64 ((rd_T38 l1 x13_3).f4.f1), .int .i64 ((rd_T38 l1 x13_3).f4.f2), .int .i64 ((rd_T38 l1 x13_3).f4.f3), .slice A396_8 ((rd_T38 l1 x13_3).f5).length c396_8]] (by rfl) rfl rfl wm_ ?_
         with_reducible refine (bindleref08_Equal.calls t383 t384 t385 t386 t387 t388 t389 t390 _ _ t391 ((rd_T38 l1 x13_3).f0) ((rd_T38 l1 x13_3).f1) ((rd_T38 l1 x13_3).f2) ((rd_T38 l1 x13_3).f3) ((rd_T38 l1 x13_3).f4.f0) ((rd_T38 l1 x13_3).f4.f1) ((rd_T38 l1 x13_3).f4.f2) ((rd_T38 l1 x13_3).f4.f3) _ _ ((rd_T38 l1 x13_3).f5) false _ ?side1 ?side2 ?side3 ?side4 A61.out).mono ?_
         (case side1 => exact wc_ (Kd.V_reads' HO393.out).2.2)
         (case side2 => exact (Kd.V_reads' HO393.out).2.1)
         (case side3 => repeat (first | exact (by repeat (first | (with_reducible exact HR396_8.out) | (with_reducible refine Ca_ ?_ _) | (with_reducible refine CN_ ?_ _) | (with_reducible refine C1_ ?_) | exact HR396_8.out)) | (with_reducible refine Ca_ ?_ _) | (with_reducible refine CN_ ?_ _) | (with_reducible refine C1_ ?_)))
         (case side4 => exact HC396_8.out)
         rintro e w78 ⟨rfl, hb⟩
         have HS9_ := (hb.cell (World.block_lt_of_cell? _ _ (hHeld.2.2.2.2.2.2.2.2.2.1))).trans (hHeld.2.2.2.2.2.2.2.2.2.1)
         have HS10_ := (hb.cell (World.block_lt_of_cell? _ _ (hHeld.2.2.2.2.2.2.2.2.2.2.1))).trans (hHeld.2.2.2.2.2.2.2.2.2.2.1)
         have HS11_ := (hb.cell (World.block_lt_of_cell? _ _ (hHeld.2.2.2.2.2.2.2.2.2.2.2.1))).trans (hHeld.2.2.2.2.2.2.2.2.2.2.2.1)
         have HS12_ := (hb.cell (World.block_lt_of_cell? _ _ (hHeld.2.2.2.2.2.2.2.2.2.2.2.2.1))).trans (hHeld.2.2.2.2.2.2.2.2.2.2.2.2.1)
         have HS13_ := (hb.cell (World.block_lt_of_cell? _ _ (hHeld.2.2.2.2.2.2.2.2.2.2.2.2.2.1))).trans (hHeld.2.2.2.2.2.2.2.2.2.2.2.2.2.1)
         have HS14_ := (hb.cell (World.block_lt_of_cell? _ _ (hHeld.2.2.2.2.2.2.2.2.2.2.2.2.2.2.1))).trans (hHeld.2.2.2.2.2.2.2.2.2.2.2.2.2.2.1)
         have HS15_ := (hb.cell (World.block_lt_of_cell? _ _ (hHeld.2.2.2.2.2.2.2.2.2.2.2.2.2.2.2.1))).trans (hHeld.2.2.2.2.2.2.2.2.2.2.2.2.2.2.2.1)
         have HS16_ := (hb.cell (World.block_lt_of_cell? _ _ (hHeld.2.2.2.2.2.2.2.2.2.2.2.2.2.2.2.2.1))).trans (hHeld.2.2.2.2.2.2.2.2.2.2.2.2.2.2.2.2.1)
         have HS17_ := (hb.cell (World.block_lt_of_cell? _ _ (hHeld.2.2.2.2.2.2.2.2.2.2.2.2.2.2.2.2.2))).trans (hHeld.2.2.2.2.2.2.2.2.2.2.2.2.2.2.2.2.2)
         refine ⟨_, rfl, ?_⟩
         have n0_ := A0_ (Vb_ (wV_ HO_1.out) hb)
         have n1_ := A0_ (Vb_ (wV_ HO_5.out) hb)
         have n2_ := A0_ (Vb_ (wV_ HL382_8.out) hb)
         have n3_ := A0_ (Vb_ (wV_ HO393.out) hb)
         have n4_ := A0_ (Vb_ (wV_ HL396_8.out) hb)
         have n5_ := A0_ (blk_below (g := gb395) (o := .cells #[.string t383, .string t384, .string t385, .int .u8 t386, .int .i64 t387, .int .i64 t388, .int .i64 t389, .int .i64 t390, .slice Ao75 t391.length co75] 38 (0, 0)) (wB_ BK395.out) hb)
         (first | have n6_ := A0_ (Kd.C_below (by repeat (first | (with_reducible exact HR396_8.out) | (with_reducible refine Ca_ ?_ _) | (with_reducible refine CN_ ?_ _) | (with_reducible refine C1_ ?_) | exact HR396_8.out)) hb) | have n6_ : Aside0 True := ⟨trivial⟩)
         have n7_ := A0_ (below_step (wb1_ HB.out GE395.out) hb)
         clear HO_1
         clear HO_5
         clear HL382_8
         clear HO393
         clear HL396_8
         clear BK395
         clear HR396_8
         clear HB
         have HO_1 := n0_
         have HO_5 := n1_
         have HL382_8 := n2_
         have HO393 := n3_
         have HL396_8 := n4_
         have BK395 := n5_
         have HR396_8 := n6_
         have HB := n7_
         clear n0_ n1_ n2_ n3_ n4_ n5_ n6_ n7_
         (try clear hb)
         (try clear hb2)
         (try clear hk)
         (try clear hi)
         refine hK.out _ _ ⟨(bc_ BK395.out 0).trans rfl, (bc_ BK395.out 1).trans rfl, (bc_ BK395.out 2).trans rfl, (bc_ BK395.out 3).trans rfl, (bc_ BK395.out 4).trans rfl, (bc_ BK395.out 5).trans rfl, (bc_ BK395.out 6).trans rfl, (bc_ BK395.out 7).trans rfl, (bc_ BK395.out 8).trans rfl, HS9_, HS10_, HS11_, HS12_, HS13_, HS14_, HS15_, HS16_, HS17_⟩ (fun hHeld => ?_)
         clear hK K
         refine norm_ (a' := ?_) ?_ ?_
         rotate_left
         ·show Act.put _ (some 110) _ = _
          simp only [Act.put, List.setIfInBounds_toArray, List.set_cons_zero, List.set_cons_succ, i64_w, i32_w]
          rfl
         refine pur_ (i := 9) (N := some 111) q6_10 (any_of HT_.out (by kernel_rfl)) ?_
         refine pur_ (i := 10) (N := some 112) q6_11 (any_of HT_.out (by kernel_rfl)) ?_
         refine done_ (done_of HT_.out (by kernel_rfl)) ?_
         try go_wp2
         go_ret
         exact ⟨we_, wb1_ HB.out GE395.out⟩
        subst c62
        have H1 : (bindlelaw19_UnionLast.l1 k3 l1 t347 x7_2 (wrap64 (x13_3 + 1))) = some r := by rw [if_pos rfl] at H; exact H
        clear H
        have H := H1
        clear H1
        have H' := A0_ H
        clear H
        have p382 : 0 ≤ (x13_3 : Int) := wd_
        have q382 : x13_3 < (l1.length : Int) := wd_
        obtain ⟨ad382, A382_8, c382_8, e382, hx382_0, hx382_1, hx382_2, hx382_3, hx382_4, hx382_5, hx382_6, hx382_7, hx382_8, hl382_8, hi382_8⟩ := at_T38 (Kd.V_reads' HO_1.out).2.2 x13_3 p382 q382
        cases e382
        obtain ⟨ce382, hce382, hMe382, hcc382⟩ := Kd.V_get HO_1.out z38 x13_3 p382 (by first | exact q382 | exact wd_ | (have e_ := (Kd.V_reads' HO_1.out).1; omega))
        obtain ⟨ua382_8, uc382_8, rfl, ul382_8, ge382_8⟩ := k38_openF hMe382
        have hv382_8 := hcc382 8 _ rfl
        rw [add_field _ _ 8 (by omega)] at hv382_8
        replace hv382_8 := Option.some.inj (hv382_8.symm.trans hx382_8)
        injection hv382_8 with hva_ hvn_ hvc_
        rw [hva_] at ge382_8
        rw [hvc_] at ul382_8
        have HL382_8 := A0_ (show Kd.V (Kd.int .u8) 5 _ w.heap.size _ _ ((rd_T38 l1 x13_3).f5) from Kd.V_mk ul382_8 ge382_8)
        clear hva_ hvn_ hvc_ ge382_8 ul382_8
        clear hcc382 hce382
        have HR382_8 := A0_ hi382_8
        have HC382_8 := A0_ hl382_8
        clear hi382_8 hl382_8
        replace p382 := eq_true p382
        replace q382 := eq_true q382
        obtain ⟨Ao63, co63, eo63⟩ := Kd.V_slice HO_5.out
        subst eo63
        try go_wp2_with (first | ((with_reducible refine gate_callee (f := 19) rfl ?_); refine goesL_ (some 99) rfl rfl Tryd.func19 (by kernel_rfl) rfl #[.slice Ao63 t347.length co63, .string ((rd_T38 l1 x13_3).f0)] rfl wm_ ?_; (with_reducible refine (bindleref08_Find.calls k3 (fun k_ => ((P0_ k_ ∨ P1_ k_) ∨ w.heap.size ≤ k_)) _ _ t347 ((rd_T38 l1 x13_3).f0) t383 t384 t385 t386 t387 t388 t389 t390 t391 true _ ?side1 A59.out).mono ?_); (case side1 => exact HO_5.out); rintro e w64 ⟨v392, rfl, ho0, hb⟩; refine ⟨_, rfl, ?_⟩; have n0_ := A0_ (Vb_ (wV_ HO_1.out) hb); have n1_ := A0_ (Vb_ (wV_ HO_5.out) hb); have n2_ := A0_ (Vb_ (wV_ HL382_8.out) hb); have n3_ := A0_ (Kd.V_lower (Kd.V_mono (ok' := fun k_ => ((P0_ k_ ∨ P1_ k_) ∨ w.heap.size ≤ k_)) ho0 (fun k_ hk_ => Or.elim hk_ (fun hs_ => hs_) (fun hn_ => (.inr (Nat.le_trans (below_size (wb_ HB.out)) hn_))))) (below_size (wb_ HB.out))); (first | have n4_ := A0_ (Kd.C_below (by repeat (first | (with_reducible exact HR382_8.out) | (with_reducible refine Ca_ ?_ _) | (with_reducible refine CN_ ?_ _) | (with_reducible refine C1_ ?_) | exact HR382_8.out)) hb) | have n4_ : Aside0 True := ⟨trivial⟩); have n5_ := A0_ (below_step (wb_ HB.out) hb); clear HO_1; clear HO_5; clear HL382_8; clear HR382_8; clear HB; have HO_1 := n0_; have HO_5 := n1_; have HL382_8 := n2_; have HO393 := n3_; have HR382_8 := n4_; have HB := n5_; clear n0_ n1_ n2_ n3_ n4_ n5_; (try clear hb); (try clear hb2); (try clear hk); (try clear hi); (try clear ho0)) | ((with_reducible refine gate_dst (N := 14) rfl ?_); (try (refine gate_guard (by rfl) ?_; dsimp only)); refine box_event ?hg (N := 14) ?hd (cs := #[.string (⟨#[]⟩ : ByteArray), .string (⟨#[]⟩ : ByteArray), .string (⟨#[]⟩ : ByteArray), .int .u8 0, .int .i64 0, .int .i64 0, .int .i64 0, .int .i64 0, .slice none 0 0]) (t := 38) ?hr ?_; (case hd => rfl); (case hg => rfl); (case hr => first | (go_simp; done) | (go_simp; rfl)); intro gb395 hg w65 hbox hb; have n0_ := A0_ (Vb_ (Kd.V_elderB (wV_ HO_1.out) gb395 (Nat.le_of_eq hg.symm)) hb); have n1_ := A0_ (Vb_ (Kd.V_elderB (wV_ HO_5.out) gb395 (Nat.le_of_eq hg.symm)) hb); have n2_ := A0_ (Vb_ (Kd.V_elderB (wV_ HL382_8.out) gb395 (Nat.le_of_eq hg.symm)) hb); have n3_ := A0_ (Vb_ (Kd.V_elderB (wV_ HO393.out) gb395 (Nat.le_of_eq hg.symm)) hb); (first | have n4_ := A0_ (Kd.C_below (by repeat (first | (with_reducible exact HR382_8.out) | (with_reducible refine Ca_ ?_ _) | (with_reducible refine CN_ ?_ _) | (with_reducible refine C1_ ?_) | exact HR382_8.out)) hb) | have n4_ : Aside0 True := ⟨trivial⟩); have n5_ := A0_ (below_step (wb_ HB.out) hb); have n6_ := A0_ (hbox); have n7_ := A0_ ((by rw [hg]; exact (below_size (wb_ HB.out)) : w.heap.size ≤ gb395)); have n8_ := A0_ ((by rw [hg]; exact (below_size (wb_ HB.out)) : w.heap.size ≤ gb395)); clear HO_1; clear HO_5; clear HL382_8; clear HO393; clear HR382_8; clear HB; have HO_1 := n0_; have HO_5 := n1_; have HL382_8 := n2_; have HO393 := n3_; have HR382_8 := n4_; have HB := n5_; have BK395 := n6_; have GW395 := n7_; have GE395 := n8_; clear n0_ n1_ n2_ n3_ n4_ n5_ n6_ n7_ n8_; clear hb hbox hg; have hcz66_0 : w65.cell? ⟨gb395, 0, none⟩ = some (.string (⟨#[]⟩ : ByteArray)) := (bc_ BK395.out 0).trans rfl; have hcz66_1 : w65.cell? ⟨gb395, 1, none⟩ = some (.string (⟨#[]⟩ : ByteArray)) := (bc_ BK395.out 1).trans rfl; have hcz66_2 : w65.cell? ⟨gb395, 2, none⟩ = some (.string (⟨#[]⟩ : ByteArray)) := (bc_ BK395.out 2).trans rfl; have hcz66_3 : w65.cell? ⟨gb395, 3, none⟩ = some (.int .u8 0) := (bc_ BK395.out 3).trans rfl; have hcz66_4 : w65.cell? ⟨gb395, 4, none⟩ = some (.int .i64 0) := (bc_ BK395.out 4).trans rfl; have hcz66_5 : w65.cell? ⟨gb395, 5, none⟩ = some (.int .i64 0) := (bc_ BK395.out 5).trans rfl; have hcz66_6 : w65.cell? ⟨gb395, 6, none⟩ = some (.int .i64 0) := (bc_ BK395.out 6).trans rfl; have hcz66_7 : w65.cell? ⟨gb395, 7, none⟩ = some (.int .i64 0) := (bc_ BK395.out 7).trans rfl; have hcz66_8 : w65.cell? ⟨gb395, 8, none⟩ = some (.slice none 0 0) := (bc_ BK395.out 8).trans rfl; have hfz66_0 := bf_ BK395.out 0; have hfz66_1 := bf_ BK395.out 1; have hfz66_2 := bf_ BK395.out 2; have hfz66_3 := bf_ BK395.out 3; have hfz66_4 := bf_ BK395.out 4; have hfz66_5 := bf_ BK395.out 5; have hfz66_6 := bf_ BK395.out 6; have hfz66_7 := bf_ BK395.out 7; have hfz66_8 := bf_ BK395.out 8; obtain ⟨Ao67, co67, eo67⟩ := Kd.V_slice HO393.out; subst eo67))
        have n0_ : Aside0 (Kd.V k38 38 (((((((((w65.setCell ⟨gb395, 0, none⟩ (.string t383)).setCell ⟨gb395, 1, none⟩ (.string t384)).setCell ⟨gb395, 2, none⟩ (.string t385)).setCell ⟨gb395, 3, none⟩ (.int .u8 t386)).setCell ⟨gb395, 4, none⟩ (.int .i64 t387)).setCell ⟨gb395, 5, none⟩ (.int .i64 t388)).setCell ⟨gb395, 6, none⟩ (.int .i64 t389)).setCell ⟨gb395, 7, none⟩ (.int .i64 t390)).setCell ⟨gb395, 8, none⟩ (.slice Ao67 t391.length co67)) w.heap.size (fun k_ => ((P0_ k_ ∨ P1_ k_) ∨ w.heap.size ≤ k_) ∧ k_ ≠ gb395) (.slice (some ad382) l1.length c1) l1) := ⟨by (with_reducible repeat (first | apply Va_ | apply VN_ | apply V1_)); exact Kd.V_mono (Kd.V_far (p := ⟨gb395, 8, none⟩) (Kd.V_far (p := ⟨gb395, 7, none⟩) (Kd.V_far (p := ⟨gb395, 6, none⟩) (Kd.V_far (p := ⟨gb395, 5, none⟩) (Kd.V_far (p := ⟨gb395, 4, none⟩) (Kd.V_far (p := ⟨gb395, 3, none⟩) (Kd.V_far (p := ⟨gb395, 2, none⟩) (Kd.V_far (p := ⟨gb395, 1, none⟩) (Kd.V_far (p := ⟨gb395, 0, none⟩) (Kd.V_mono HO_1.out (fun k_ hk => (⟨hk, hk.2⟩ : _ ∧ k_ ≠ gb395))) (fun _ hk => hk.2) (.string t383)) (fun _ hk => hk.2) (.string t384)) (fun _ hk => hk.2) (.string t385)) (fun _ hk => hk.2) (.int .u8 t386)) (fun _ hk => hk.2) (.int .i64 t387)) (fun _ hk => hk.2) (.int .i64 t388)) (fun _ hk => hk.2) (.int .i64 t389)) (fun _ hk => hk.2) (.int .i64 t390)) (fun _ hk => hk.2) (.slice Ao67 t391.length co67)) (fun _ hk => ⟨hk.1.1, hk.1.2⟩)⟩
        have n1_ : Aside0 (Kd.V k38 38 (((((((((w65.setCell ⟨gb395, 0, none⟩ (.string t383)).setCell ⟨gb395, 1, none⟩ (.string t384)).setCell ⟨gb395, 2, none⟩ (.string t385)).setCell ⟨gb395, 3, none⟩ (.int .u8 t386)).setCell ⟨gb395, 4, none⟩ (.int .i64 t387)).setCell ⟨gb395, 5, none⟩ (.int .i64 t388)).setCell ⟨gb395, 6, none⟩ (.int .i64 t389)).setCell ⟨gb395, 7, none⟩ (.int .i64 t390)).setCell ⟨gb395, 8, none⟩ (.slice Ao67 t391.length co67)) w.heap.size (fun k_ => ((P0_ k_ ∨ P1_ k_) ∨ w.heap.size ≤ k_) ∧ k_ ≠ gb395) (.slice Ao63 t347.length co63) t347) := ⟨by (with_reducible repeat (first | apply Va_ | apply VN_ | apply V1_)); exact Kd.V_mono (Kd.V_far (p := ⟨gb395, 8, none⟩) (Kd.V_far (p := ⟨gb395, 7, none⟩) (Kd.V_far (p := ⟨gb395, 6, none⟩) (Kd.V_far (p := ⟨gb395, 5, none⟩) (Kd.V_far (p := ⟨gb395, 4, none⟩) (Kd.V_far (p := ⟨gb395, 3, none⟩) (Kd.V_far (p := ⟨gb395, 2, none⟩) (Kd.V_far (p := ⟨gb395, 1, none⟩) (Kd.V_far (p := ⟨gb395, 0, none⟩) (Kd.V_mono HO_5.out (fun k_ hk => (⟨hk, hk.2⟩ : _ ∧ k_ ≠ gb395))) (fun _ hk => hk.2) (.string t383)) (fun _ hk => hk.2) (.string t384)) (fun _ hk => hk.2) (.string t385)) (fun _ hk => hk.2) (.int .u8 t386)) (fun _ hk => hk.2) (.int .i64 t387)) (fun _ hk => hk.2) (.int .i64 t388)) (fun _ hk => hk.2) (.int .i64 t389)) (fun _ hk => hk.2) (.int .i64 t390)) (fun _ hk => hk.2) (.slice Ao67 t391.length co67)) (fun _ hk => ⟨hk.1.1, hk.1.2⟩)⟩
        have n2_ : Aside0 (Kd.V (Kd.int .u8) 5 (((((((((w65.setCell ⟨gb395, 0, none⟩ (.string t383)).setCell ⟨gb395, 1, none⟩ (.string t384)).setCell ⟨gb395, 2, none⟩ (.string t385)).setCell ⟨gb395, 3, none⟩ (.int .u8 t386)).setCell ⟨gb395, 4, none⟩ (.int .i64 t387)).setCell ⟨gb395, 5, none⟩ (.int .i64 t388)).setCell ⟨gb395, 6, none⟩ (.int .i64 t389)).setCell ⟨gb395, 7, none⟩ (.int .i64 t390)).setCell ⟨gb395, 8, none⟩ (.slice Ao67 t391.length co67)) w.heap.size (fun k_ => ((P0_ k_ ∨ P1_ k_) ∨ w.heap.size ≤ k_) ∧ k_ ≠ gb395) (.slice A382_8 ((rd_T38 l1 x13_3).f5).length c382_8) ((rd_T38 l1 x13_3).f5)) := ⟨by (with_reducible repeat (first | apply Va_ | apply VN_ | apply V1_)); exact Kd.V_mono (Kd.V_far (p := ⟨gb395, 8, none⟩) (Kd.V_far (p := ⟨gb395, 7, none⟩) (Kd.V_far (p := ⟨gb395, 6, none⟩) (Kd.V_far (p := ⟨gb395, 5, none⟩) (Kd.V_far (p := ⟨gb395, 4, none⟩) (Kd.V_far (p := ⟨gb395, 3, none⟩) (Kd.V_far (p := ⟨gb395, 2, none⟩) (Kd.V_far (p := ⟨gb395, 1, none⟩) (Kd.V_far (p := ⟨gb395, 0, none⟩) (Kd.V_mono HL382_8.out (fun k_ hk => (⟨hk, hk.2⟩ : _ ∧ k_ ≠ gb395))) (fun _ hk => hk.2) (.string t383)) (fun _ hk => hk.2) (.string t384)) (fun _ hk => hk.2) (.string t385)) (fun _ hk => hk.2) (.int .u8 t386)) (fun _ hk => hk.2) (.int .i64 t387)) (fun _ hk => hk.2) (.int .i64 t388)) (fun _ hk => hk.2) (.int .i64 t389)) (fun _ hk => hk.2) (.int .i64 t390)) (fun _ hk => hk.2) (.slice Ao67 t391.length co67)) (fun _ hk => ⟨hk.1.1, hk.1.2⟩)⟩
        have n3_ : Aside0 (Kd.V (Kd.int .u8) 5 (((((((((w65.setCell ⟨gb395, 0, none⟩ (.string t383)).setCell ⟨gb395, 1, none⟩ (.string t384)).setCell ⟨gb395, 2, none⟩ (.string t385)).setCell ⟨gb395, 3, none⟩ (.int .u8 t386)).setCell ⟨gb395, 4, none⟩ (.int .i64 t387)).setCell ⟨gb395, 5, none⟩ (.int .i64 t388)).setCell ⟨gb395, 6, none⟩ (.int .i64 t389)).setCell ⟨gb395, 7, none⟩ (.int .i64 t390)).setCell ⟨gb395, 8, none⟩ (.slice Ao67 t391.length co67)) w.heap.size (fun k_ => ((P0_ k_ ∨ P1_ k_) ∨ w.heap.size ≤ k_) ∧ k_ ≠ gb395) (.slice Ao67 t391.length co67) t391) := ⟨by (with_reducible repeat (first | apply Va_ | apply VN_ | apply V1_)); exact Kd.V_mono (Kd.V_far (p := ⟨gb395, 8, none⟩) (Kd.V_far (p := ⟨gb395, 7, none⟩) (Kd.V_far (p := ⟨gb395, 6, none⟩) (Kd.V_far (p := ⟨gb395, 5, none⟩) (Kd.V_far (p := ⟨gb395, 4, none⟩) (Kd.V_far (p := ⟨gb395, 3, none⟩) (Kd.V_far (p := ⟨gb395, 2, none⟩) (Kd.V_far (p := ⟨gb395, 1, none⟩) (Kd.V_far (p := ⟨gb395, 0, none⟩) (Kd.V_mono HO393.out (fun k_ hk => (⟨hk, hk.2⟩ : _ ∧ k_ ≠ gb395))) (fun _ hk => hk.2) (.string t383)) (fun _ hk => hk.2) (.string t384)) (fun _ hk => hk.2) (.string t385)) (fun _ hk => hk.2) (.int .u8 t386)) (fun _ hk => hk.2) (.int .i64 t387)) (fun _ hk => hk.2) (.int .i64 t388)) (fun _ hk => hk.2) (.int .i64 t389)) (fun _ hk => hk.2) (.int .i64 t390)) (fun _ hk => hk.2) (.slice Ao67 t391.length co67)) (fun _ hk => ⟨hk.1.1, hk.1.2⟩)⟩
        have n4_ : Aside0 ((((((((((w65.setCell ⟨gb395, 0, none⟩ (.string t383)).setCell ⟨gb395, 1, none⟩ (.string t384)).setCell ⟨gb395, 2, none⟩ (.string t385)).setCell ⟨gb395, 3, none⟩ (.int .u8 t386)).setCell ⟨gb395, 4, none⟩ (.int .i64 t387)).setCell ⟨gb395, 5, none⟩ (.int .i64 t388)).setCell ⟨gb395, 6, none⟩ (.int .i64 t389)).setCell ⟨gb395, 7, none⟩ (.int .i64 t390)).setCell ⟨gb395, 8, none⟩ (.slice Ao67 t391.length co67)).heap[gb395]? = some (.cells #[.string t383, .string t384, .string t385, .int .u8 t386, .int .i64 t387, .int .i64 t388, .int .i64 t389, .int .i64 t390, .slice Ao67 t391.length co67] 38 (0, 0))) := ⟨by (with_reducible repeat (first | refine blk_drewN ?_ _ | refine blk_drew ?_ | refine blk_alloc ?_ _)); refine blk_put (cs := #[.string t383, .string t384, .string t385, .int .u8 t386, .int .i64 t387, .int .i64 t388, .int .i64 t389, .int .i64 t390, .slice none 0 0]) ?_ 8 _ rfl; (with_reducible repeat (first | refine blk_drewN ?_ _ | refine blk_drew ?_ | refine blk_alloc ?_ _)); refine blk_put (cs := #[.string t383, .string t384, .string t385, .int .u8 t386, .int .i64 t387, .int .i64 t388, .int .i64 t389, .int .i64 0, .slice none 0 0]) ?_ 7 _ rfl; (with_reducible repeat (first | refine blk_drewN ?_ _ | refine blk_drew ?_ | refine blk_alloc ?_ _)); refine blk_put (cs := #[.string t383, .string t384, .string t385, .int .u8 t386, .int .i64 t387, .int .i64 t388, .int .i64 0, .int .i64 0, .slice none 0 0]) ?_ 6 _ rfl; (with_reducible repeat (first | refine blk_drewN ?_ _ | refine blk_drew ?_ | refine blk_alloc ?_ _)); refine blk_put (cs := #[.string t383, .string t384, .string t385, .int .u8 t386, .int .i64 t387, .int .i64 0, .int .i64 0, .int .i64 0, .slice none 0 0]) ?_ 5 _ rfl; (with_reducible repeat (first | refine blk_drewN ?_ _ | refine blk_drew ?_ | refine blk_alloc ?_ _)); refine blk_put (cs := #[.string t383, .string t384, .string t385, .int .u8 t386, .int .i64 0, .int .i64 0, .int .i64 0, .int .i64 0, .slice none 0 0]) ?_ 4 _ rfl; (with_reducible repeat (first | refine blk_drewN ?_ _ | refine blk_drew ?_ | refine blk_alloc ?_ _)); refine blk_put (cs := #[.string t383, .string t384, .string t385, .int .u8 0, .int .i64 0, .int .i64 0, .int .i64 0, .int .i64 0, .slice none 0 0]) ?_ 3 _ rfl; (with_reducible repeat (first | refine blk_drewN ?_ _ | refine blk_drew ?_ | refine blk_alloc ?_ _)); refine blk_put (cs := #[.string t383, .string t384, .string (⟨#[]⟩ : ByteArray), .int .u8 0, .int .i64 0, .int .i64 0, .int .i64 0, .int .i64 0, .slice none 0 0]) ?_ 2 _ rfl; (with_reducible repeat (first | refine blk_drewN ?_ _ | refine blk_drew ?_ | refine blk_alloc ?_ _)); refine blk_put (cs := #[.string t383, .string (⟨#[]⟩ : ByteArray), .string (⟨#[]⟩ : ByteArray), .int .u8 0, .int .i64 0, .int .i64 0, .int .i64 0, .int .i64 0, .slice none 0 0]) ?_ 1 _ rfl; (with_reducible repeat (first | refine blk_drewN ?_ _ | refine blk_drew ?_ | refine blk_alloc ?_ _)); refine blk_put (cs := #[.string (⟨#[]⟩ : ByteArray), .string (⟨#[]⟩ : ByteArray), .string (⟨#[]⟩ : ByteArray), .int .u8 0, .int .i64 0, .int .i64 0, .int .i64 0, .int .i64 0, .slice none 0 0]) ?_ 0 _ rfl; (with_reducible repeat (first | refine blk_drewN ?_ _ | refine blk_drew ?_ | refine blk_alloc ?_ _)); exact BK395.out⟩
        have n5_ : Aside0 (Below w.heap.size w (((((((((w65.setCell ⟨gb395, 0, none⟩ (.string t383)).setCell ⟨gb395, 1, none⟩ (.string t384)).setCell ⟨gb395, 2, none⟩ (.string t385)).setCell ⟨gb395, 3, none⟩ (.int .u8 t386)).setCell ⟨gb395, 4, none⟩ (.int .i64 t387)).setCell ⟨gb395, 5, none⟩ (.int .i64 t388)).setCell ⟨gb395, 6, none⟩ (.int .i64 t389)).setCell ⟨gb395, 7, none⟩ (.int .i64 t390)).setCell ⟨gb395, 8, none⟩ (.slice Ao67 t391.length co67))) := ⟨wb1_ HB.out GE395.out⟩
        (try clear HO_1)
        (try clear HO_5)
        (try clear HL382_8)
        (try clear HO393)
        (try clear BK395)
        (try clear HB)
        generalize (((((((((w65.setCell ⟨gb395, 0, none⟩ (.string t383)).setCell ⟨gb395, 1, none⟩ (.string t384)).setCell ⟨gb395, 2, none⟩ (.string t385)).setCell ⟨gb395, 3, none⟩ (.int .u8 t386)).setCell ⟨gb395, 4, none⟩ (.int .i64 t387)).setCell ⟨gb395, 5, none⟩ (.int .i64 t388)).setCell ⟨gb395, 6, none⟩ (.int .i64 t389)).setCell ⟨gb395, 7, none⟩ (.int .i64 t390)).setCell ⟨gb395, 8, none⟩ (.slice Ao67 t391.length co67)) = w68 at n0_ n1_ n2_ n3_ n4_ n5_ ⊢
        have HO_1 := n0_
        have HO_5 := n1_
        have HL382_8 := n2_
        have HO393 := n3_
        have BK395 := n4_
        have HB := n5_
        clear n0_ n1_ n2_ n3_ n4_ n5_
        have n0_ := A0_ (V1_ HO_1.out)
        have n1_ := A0_ (V1_ HO_5.out)
        have n2_ := A0_ (V1_ HL382_8.out)
        have n3_ := A0_ (V1_ HO393.out)
        have n4_ := A0_ (blk_drew BK395.out)
        have n5_ := A0_ (b1_ HB.out)
        clear HO_1
        clear HO_5
        clear HL382_8
        clear HO393
        clear BK395
        clear HB
        have HO_1 := n0_
        have HO_5 := n1_
        have HL382_8 := n2_
        have HO393 := n3_
        have BK395 := n4_
        have HB := n5_
        clear n0_ n1_ n2_ n3_ n4_ n5_
        have p396 : 0 ≤ (x13_3 : Int) := wd_
        have q396 : x13_3 < (l1.length : Int) := wd_
        obtain ⟨ad396, A396_8, c396_8, e396, hx396_0, hx396_1, hx396_2, hx396_3, hx396_4, hx396_5, hx396_6, hx396_7, hx396_8, hl396_8, hi396_8⟩ := at_T38 (Kd.V_reads' HO_1.out).2.2 x13_3 p396 q396
        obtain rfl : ad382 = ad396 := (by injection e396)
        obtain ⟨ce396, hce396, hMe396, hcc396⟩ := Kd.V_get HO_1.out z38 x13_3 p396 (by first | exact q396 | exact wd_ | (have e_ := (Kd.V_reads' HO_1.out).1; omega))
        obtain ⟨ua396_8, uc396_8, rfl, ul396_8, ge396_8⟩ := k38_openF hMe396
        have hv396_8 := hcc396 8 _ rfl
        rw [add_field _ _ 8 (by omega)] at hv396_8
        replace hv396_8 := Option.some.inj (hv396_8.symm.trans hx396_8)
        injection hv396_8 with hva_ hvn_ hvc_
        rw [hva_] at ge396_8
        rw [hvc_] at ul396_8
        have HL396_8 := A0_ (show Kd.V (Kd.int .u8) 5 _ w.heap.size _ _ ((rd_T38 l1 x13_3).f5) from Kd.V_mk ul396_8 ge396_8)
        clear hva_ hvn_ hvc_ ge396_8 ul396_8
        clear hcc396 hce396
        have HR396_8 := A0_ hi396_8
        have HC396_8 := A0_ hl396_8
        clear hi396_8 hl396_8
        replace p396 := eq_true p396
        replace q396 := eq_true q396
        refine start_ (n := 11) (S := fun w' => w'.cell? ⟨gb395, 0, none⟩ = some (.string t383) ∧ w'.cell? ⟨gb395, 1, none⟩ = some (.string t384) ∧ w'.cell? ⟨gb395, 2, none⟩ = some (.string t385) ∧ w'.cell? ⟨gb395, 3, none⟩ = some (.int .u8 t386) ∧ w'.cell? ⟨gb395, 4, none⟩ = some (.int .i64 t387) ∧ w'.cell? ⟨gb395, 5, none⟩ = some (.int .i64 t388) ∧ w'.cell? ⟨gb395, 6, none⟩ = some (.int .i64 t389) ∧ w'.cell? ⟨gb395, 7, none⟩ = some (.int .i64 t390) ∧ w'.cell? ⟨gb395, 8, none⟩ = some (.slice Ao67 t391.length co67) ∧ w'.cell? (ad382.add ((x13_3).toNat * 9)) = some (.string ((rd_T38 l1 x13_3).f0)) ∧ w'.cell? ⟨(ad382.add ((x13_3).toNat * 9)).block, (ad382.add ((x13_3).toNat * 9)).off + 1, none⟩ = some (.string ((rd_T38 l1 x13_3).f1)) ∧ w'.cell? ⟨(ad382.add ((x13_3).toNat * 9)).block, (ad382.add ((x13_3).toNat * 9)).off + 2, none⟩ = some (.string ((rd_T38 l1 x13_3).f2)) ∧ w'.cell? ⟨(ad382.add ((x13_3).toNat * 9)).block, (ad382.add ((x13_3).toNat * 9)).off + 3, none⟩ = some (.int .u8 ((rd_T38 l1 x13_3).f3)) ∧ w'.cell? ⟨(ad382.add ((x13_3).toNat * 9)).block, (ad382.add ((x13_3).toNat * 9)).off + 4, none⟩ = some (.int .i64 ((rd_T38 l1 x13_3).f4.f0)) ∧ w'.cell? ⟨(ad382.add ((x13_3).toNat * 9)).block, (ad382.add ((x13_3).toNat * 9)).off + 5, none⟩ = some (.int .i64 ((rd_T38 l1 x13_3).f4.f1)) ∧ w'.cell? ⟨(ad382.add ((x13_3).toNat * 9)).block, (ad382.add ((x13_3).toNat * 9)).off + 6, none⟩ = some (.int .i64 ((rd_T38 l1 x13_3).f4.f2)) ∧ w'.cell? ⟨(ad382.add ((x13_3).toNat * 9)).block, (ad382.add ((x13_3).toNat * 9)).off + 7, none⟩ = some (.int .i64 ((rd_T38 l1 x13_3).f4.f3)) ∧ w'.cell? ⟨(ad382.add ((x13_3).toNat * 9)).block, (ad382.add ((x13_3).toNat * 9)).off + 8, none⟩ = some (.slice A396_8 ((rd_T38 l1 x13_3).f5).length c396_8)) (ds := []) q6_0 (by kernel_rfl) rfl rfl ⟨(bc_ BK395.out 0).trans rfl, (bc_ BK395.out 1).trans rfl, (bc_ BK395.out 2).trans rfl, (bc_ BK395.out 3).trans rfl, (bc_ BK395.out 4).trans rfl, (bc_ BK395.out 5).trans rfl, (bc_ BK395.out 6).trans rfl, (bc_ BK395.out 7).trans rfl, (bc_ BK395.out 8).trans rfl, hx396_0, hx396_1, hx396_2, hx396_3, hx396_4, hx396_5, hx396_6, hx396_7, hx396_8⟩ (fun hHeld => ?_); refine with_tabW bindlelaw19_UnionLast.tab18 bindlelaw19_UnionLast.bits18 (fun HT_ HW_ => ?_)
        generalize w68.drew = w69 at HO_1 HO_5 HL382_8 HO393 BK395 HB HL396_8 HR396_8 hx396_0 hx396_1 hx396_2 hx396_3 hx396_4 hx396_5 hx396_6 hx396_7 hx396_8 hHeld ⊢
        refine pur_ (i := 0) (N := some 102) q6_1 (any_of HT_.out (by kernel_rfl)) ?_
        refine pur_ (i := 1) (N := some 103) q6_2 (any_of HT_.out (by kernel_rfl)) ?_
        refine pur_ (i := 2) (N := some 104) q6_3 (any_of HT_.out (by kernel_rfl)) ?_
        refine pur_ (i := 4) (N := some 106) q6_12 (any_of HT_.out (by kernel_rfl)) ?_
        refine pur_ (i := 5) (N := some 107) q6_13 (any_of HT_.out (by kernel_rfl)) ?_
        refine pur_ (i := 6) (N := some 108) q6_14 (any_of HT_.out (by kernel_rfl)) ?_
        refine take_ (i := 3) (N := some 105) (v := ?_) (a' := ?_) q6_7 rfl rfl (take_ofW HT_.out HW_.out (by kernel_rfl)) (fun _ _ _ h => h) (Or.inl ⟨by rfl, ?_⟩) hHeld ?_ ?_
        rotate_left
        ·rintro w' ⟨s0, s1, s2, s3, s4, s5, s6, s7, s8, s9, s10, s11, s12, s13, s14, s15, s16, s17⟩
         go_simp
         with_reducible rfl
        rotate_left
        ·simp only [Act.put, List.setIfInBounds_toArray, List.set_cons_zero, List.set_cons_succ, i64_w, i32_w]
         rfl
        refine take_ (i := 7) (N := some 109) (v := ?_) (a' := ?_) q6_8 rfl rfl (take_ofW HT_.out HW_.out (by kernel_rfl)) (fun _ _ _ h => h) (Or.inl ⟨by rfl, ?_⟩) hHeld ?_ ?_
        rotate_left
        ·rintro w' ⟨s0, s1, s2, s3, s4, s5, s6, s7, s8, s9, s10, s11, s12, s13, s14, s15, s16, s17⟩
         go_simp
         with_reducible rfl
        rotate_left
        ·simp only [Act.put, List.setIfInBounds_toArray, List.set_cons_zero, List.set_cons_succ, i64_w, i32_w]
         rfl
        refine one_ (i := 8) (N := some 110) q6_9 rfl rfl (one_of HT_.out (by kernel_rfl)) (by decide) (fun K hK => ?_)
        refine goes_ Tryd.func20 (by kernel_rfl) rfl #[.agg #[.string t383, .string t384, .string t385, .int .u8 t386, .int .i64 t387, .int .i64 t388, .int .i64 t389, .int .i64 t390, .slice Ao67 t391.length co67], .agg #[.string ((rd_T38 l1 x13_3).f0), .string ((rd_T38 l1 x13_3).f1), .string ((rd_T38 l1 x13_3).f2), .int .u8 ((rd_T38 l1 x13_3).f3), .int .i64 ((rd_T38 l1 x13_3).f4.f0), .int .i64 ((rd_T38 l1 x13_3).f4.f1), .int .i64 ((rd_T38 l1 x13_3).f4.f2), .int .i64 ((rd_T38 l1 x13_3).f4.f3), .slice A396_8 ((rd_T38 l1 x13_3).f5).length c396_8]] (by rfl) rfl rfl wm_ ?_
        with_reducible refine (bindleref08_Equal.calls t383 t384 t385 t386 t387 t388 t389 t390 _ _ t391 ((rd_T38 l1 x13_3).f0) ((rd_T38 l1 x13_3).f1) ((rd_T38 l1 x13_3).f2) ((rd_T38 l1 x13_3).f3) ((rd_T38 l1 x13_3).f4.f0) ((rd_T38 l1 x13_3).f4.f1) ((rd_T38 l1 x13_3).f4.f2) ((rd_T38 l1 x13_3).f4.f3) _ _ ((rd_T38 l1 x13_3).f5) true _ ?side1 ?side2 ?side3 ?side4 A61.out).mono ?_
        (case side1 => exact wc_ (Kd.V_reads' HO393.out).2.2)
        (case side2 => exact (Kd.V_reads' HO393.out).2.1)
        (case side3 => repeat (first | exact (by repeat (first | (with_reducible exact HR396_8.out) | (with_reducible refine Ca_ ?_ _) | (with_reducible refine CN_ ?_ _) | (with_reducible refine C1_ ?_) | exact HR396_8.out)) | (with_reducible refine Ca_ ?_ _) | (with_reducible refine CN_ ?_ _) | (with_reducible refine C1_ ?_)))
        (case side4 => exact HC396_8.out)
        rintro e w70 ⟨rfl, hb⟩
        have HS9_ := (hb.cell (World.block_lt_of_cell? _ _ (hHeld.2.2.2.2.2.2.2.2.2.1))).trans (hHeld.2.2.2.2.2.2.2.2.2.1)
        have HS10_ := (hb.cell (World.block_lt_of_cell? _ _ (hHeld.2.2.2.2.2.2.2.2.2.2.1))).trans (hHeld.2.2.2.2.2.2.2.2.2.2.1)
        have HS11_ := (hb.cell (World.block_lt_of_cell? _ _ (hHeld.2.2.2.2.2.2.2.2.2.2.2.1))).trans (hHeld.2.2.2.2.2.2.2.2.2.2.2.1)
        have HS12_ := (hb.cell (World.block_lt_of_cell? _ _ (hHeld.2.2.2.2.2.2.2.2.2.2.2.2.1))).trans (hHeld.2.2.2.2.2.2.2.2.2.2.2.2.1)
        have HS13_ := (hb.cell (World.block_lt_of_cell? _ _ (hHeld.2.2.2.2.2.2.2.2.2.2.2.2.2.1))).trans (hHeld.2.2.2.2.2.2.2.2.2.2.2.2.2.1)
        have HS14_ := (hb.cell (World.block_lt_of_cell? _ _ (hHeld.2.2.2.2.2.2.2.2.2.2.2.2.2.2.1))).trans (hHeld.2.2.2.2.2.2.2.2.2.2.2.2.2.2.1)
        have HS15_ := (hb.cell (World.block_lt_of_cell? _ _ (hHeld.2.2.2.2.2.2.2.2.2.2.2.2.2.2.2.1))).trans (hHeld.2.2.2.2.2.2.2.2.2.2.2.2.2.2.2.1)
        have HS16_ := (hb.cell (World.block_lt_of_cell? _ _ (hHeld.2.2.2.2.2.2.2.2.2.2.2.2.2.2.2.2.1))).trans (hHeld.2.2.2.2.2.2.2.2.2.2.2.2.2.2.2.2.1)
        have HS17_ := (hb.cell (World.block_lt_of_cell? _ _ (hHeld.2.2.2.2.2.2.2.2.2.2.2.2.2.2.2.2.2))).trans (hHeld.2.2.2.2.2.2.2.2.2.2.2.2.2.2.2.2.2)
        refine ⟨_, rfl, ?_⟩
        have n0_ := A0_ (Vb_ (wV_ HO_1.out) hb)
        have n1_ := A0_ (Vb_ (wV_ HO_5.out) hb)
        have n2_ := A0_ (Vb_ (wV_ HL382_8.out) hb)
        have n3_ := A0_ (Vb_ (wV_ HO393.out) hb)
        have n4_ := A0_ (Vb_ (wV_ HL396_8.out) hb)
        have n5_ := A0_ (blk_below (g := gb395) (o := .cells #[.string t383, .string t384, .string t385, .int .u8 t386, .int .i64 t387, .int .i64 t388, .int .i64 t389, .int .i64 t390, .slice Ao67 t391.length co67] 38 (0, 0)) (wB_ BK395.out) hb)
        (first | have n6_ := A0_ (Kd.C_below (by repeat (first | (with_reducible exact HR396_8.out) | (with_reducible refine Ca_ ?_ _) | (with_reducible refine CN_ ?_ _) | (with_reducible refine C1_ ?_) | exact HR396_8.out)) hb) | have n6_ : Aside0 True := ⟨trivial⟩)
        have n7_ := A0_ (below_step (wb1_ HB.out GE395.out) hb)
        clear HO_1
        clear HO_5
        clear HL382_8
        clear HO393
        clear HL396_8
        clear BK395
        clear HR396_8
        clear HB
        have HO_1 := n0_
        have HO_5 := n1_
        have HL382_8 := n2_
        have HO393 := n3_
        have HL396_8 := n4_
        have BK395 := n5_
        have HR396_8 := n6_
        have HB := n7_
        clear n0_ n1_ n2_ n3_ n4_ n5_ n6_ n7_
        (try clear hb)
        (try clear hb2)
        (try clear hk)
        (try clear hi)
        refine hK.out _ _ ⟨(bc_ BK395.out 0).trans rfl, (bc_ BK395.out 1).trans rfl, (bc_ BK395.out 2).trans rfl, (bc_ BK395.out 3).trans rfl, (bc_ BK395.out 4).trans rfl, (bc_ BK395.out 5).trans rfl, (bc_ BK395.out 6).trans rfl, (bc_ BK395.out 7).trans rfl, (bc_ BK395.out 8).trans rfl, HS9_, HS10_, HS11_, HS12_, HS13_, HS14_, HS15_, HS16_, HS17_⟩ (fun hHeld => ?_)
        clear hK K
        refine norm_ (a' := ?_) ?_ ?_
        rotate_left
        ·show Act.put _ (some 110) _ = _
         simp only [Act.put, List.setIfInBounds_toArray, List.set_cons_zero, List.set_cons_succ, i64_w, i32_w]
         rfl
        refine pur_ (i := 9) (N := some 111) q6_10 (any_of HT_.out (by kernel_rfl)) ?_
        refine pur_ (i := 10) (N := some 112) q6_11 (any_of HT_.out (by kernel_rfl)) ?_
        refine done_ (done_of HT_.out (by kernel_rfl)) ?_
        try go_wp2
        go_roundg k3
        case measure => have := HJ2.out; have := HK2.out; have := HK3.out; omega
        case rel => exact ⟨(wrap64 (x13_3 + 1)), wr_, H', ⟨by have := HJ2.out; have := HK2.out; have := HK3.out; omega⟩, ⟨by (with_reducible repeat (first | apply Va_ | apply VN_ | apply V1_)); exact Kd.V_mono HO_1.out (fun _ hk => hk.1)⟩, ⟨by (with_reducible repeat (first | apply Va_ | apply VN_ | apply V1_)); exact Kd.V_mono HO_5.out (fun _ hk => hk.1)⟩, ⟨wb1_ HB.out GE395.out⟩⟩
     rw [if_pos c29] at H
     have c29b0 : decide (x8_2 < (l0.length : Int)) = true := decide_eq_true c29
     clear c29
     by_cases c30 : 0 ≤ x8_2
     rotate_left
     ·rw [if_neg c30] at H
      exact absurd H (by simp)
     rw [if_pos c30] at H
     have c30b0 : decide (0 ≤ x8_2) = true := decide_eq_true c30
     clear c30
     replace H := Option.bind_eq_some_iff.mp H
     obtain ⟨⟨t352, t353, t354, t355, t356, t357, t358, t359, t360, t363⟩, A310, H⟩ := H
     replace H : ((bindleref08_Find.f k2 l1 ((rd_T38 l0 x8_2).f0)).bind fun bt366 => (if t363 = true then (if bt366.2.2.2.2.2.2.2.2.2 = true then (bindlelaw19_UnionLast.j2 k2 l0 l1 t347 x7_2 x8_2 bt366.2.2.2.2.2.2.2.2.2 false) else ((bindleref08_Equal.f t352 t353 t354 t355 t356 t357 t358 t359 t360 ((rd_T38 l0 x8_2).f0) ((rd_T38 l0 x8_2).f1) ((rd_T38 l0 x8_2).f2) ((rd_T38 l0 x8_2).f3) ((rd_T38 l0 x8_2).f4.f0) ((rd_T38 l0 x8_2).f4.f1) ((rd_T38 l0 x8_2).f4.f2) ((rd_T38 l0 x8_2).f4.f3) ((rd_T38 l0 x8_2).f5)).bind fun t380 => (bindlelaw19_UnionLast.j2 k2 l0 l1 t347 x7_2 x8_2 bt366.2.2.2.2.2.2.2.2.2 (!t380)))) else (bindlelaw19_UnionLast.j2 k2 l0 l1 t347 x7_2 x8_2 bt366.2.2.2.2.2.2.2.2.2 true))) = some r := H
     have A31 := A0_ A310
     clear A310
     replace H := Option.bind_eq_some_iff.mp H
     obtain ⟨⟨t366, t367, t368, t369, t370, t371, t372, t373, t374, t377⟩, A320, H⟩ := H
     replace H : (if t363 = true then (if t377 = true then (bindlelaw19_UnionLast.j2 k2 l0 l1 t347 x7_2 x8_2 t377 false) else ((bindleref08_Equal.f t352 t353 t354 t355 t356 t357 t358 t359 t360 ((rd_T38 l0 x8_2).f0) ((rd_T38 l0 x8_2).f1) ((rd_T38 l0 x8_2).f2) ((rd_T38 l0 x8_2).f3) ((rd_T38 l0 x8_2).f4.f0) ((rd_T38 l0 x8_2).f4.f1) ((rd_T38 l0 x8_2).f4.f2) ((rd_T38 l0 x8_2).f4.f3) ((rd_T38 l0 x8_2).f5)).bind fun t380 => (bindlelaw19_UnionLast.j2 k2 l0 l1 t347 x7_2 x8_2 t377 (!t380)))) else (bindlelaw19_UnionLast.j2 k2 l0 l1 t347 x7_2 x8_2 t377 true)) = some r := H
     have A32 := A0_ A320
     clear A320
     have HC33 := A0_ H
     clear H
     have p351 : 0 ≤ (x8_2 : Int) := wd_
     have q351 : x8_2 < (l0.length : Int) := wd_
     obtain ⟨ad351, A351_8, c351_8, e351, hx351_0, hx351_1, hx351_2, hx351_3, hx351_4, hx351_5, hx351_6, hx351_7, hx351_8, hl351_8, hi351_8⟩ := at_T38 (Kd.V_reads' HO_0.out).2.2 x8_2 p351 q351
     cases e351
     obtain ⟨ce351, hce351, hMe351, hcc351⟩ := Kd.V_get HO_0.out z38 x8_2 p351 (by first | exact q351 | exact wd_ | (have e_ := (Kd.V_reads' HO_0.out).1; omega))
     obtain ⟨ua351_8, uc351_8, rfl, ul351_8, ge351_8⟩ := k38_openF hMe351
     have hv351_8 := hcc351 8 _ rfl
     rw [add_field _ _ 8 (by omega)] at hv351_8
     replace hv351_8 := Option.some.inj (hv351_8.symm.trans hx351_8)
     injection hv351_8 with hva_ hvn_ hvc_
     rw [hva_] at ge351_8
     rw [hvc_] at ul351_8
     have HL351_8 := A0_ (show Kd.V (Kd.int .u8) 5 _ w.heap.size _ _ ((rd_T38 l0 x8_2).f5) from Kd.V_mk ul351_8 ge351_8)
     clear hva_ hvn_ hvc_ ge351_8 ul351_8
     clear hcc351 hce351
     have HR351_8 := A0_ hi351_8
     have HC351_8 := A0_ hl351_8
     clear hi351_8 hl351_8
     replace p351 := eq_true p351
     replace q351 := eq_true q351
     obtain ⟨Ao34, co34, eo34⟩ := Kd.V_slice HO_5.out
     subst eo34
     go_upto_region 10 with (first | ((with_reducible refine gate_callee (f := 19) rfl ?_); refine goesL_ (some 54) rfl rfl Tryd.func19 (by kernel_rfl) rfl #[.slice Ao34 t347.length co34, .string ((rd_T38 l0 x8_2).f0)] rfl wm_ ?_; (with_reducible refine (bindleref08_Find.calls k2 (fun k_ => ((P0_ k_ ∨ P1_ k_) ∨ w.heap.size ≤ k_)) _ _ t347 ((rd_T38 l0 x8_2).f0) t352 t353 t354 t355 t356 t357 t358 t359 t360 t363 _ ?side1 A31.out).mono ?_); (case side1 => exact HO_5.out); rintro e w35 ⟨v361, rfl, ho0, hb⟩; refine ⟨_, rfl, ?_⟩; have n0_ := A0_ (Vb_ (wV_ HO_0.out) hb); have n1_ := A0_ (Vb_ (wV_ HO_1.out) hb); have n2_ := A0_ (Vb_ (wV_ HO_5.out) hb); have n3_ := A0_ (Vb_ (wV_ HL351_8.out) hb); have n4_ := A0_ (Kd.V_lower (Kd.V_mono (ok' := fun k_ => ((P0_ k_ ∨ P1_ k_) ∨ w.heap.size ≤ k_)) ho0 (fun k_ hk_ => Or.elim hk_ (fun hs_ => hs_) (fun hn_ => (.inr (Nat.le_trans (below_size (wb_ HB.out)) hn_))))) (below_size (wb_ HB.out))); (first | have n5_ := A0_ (Kd.C_below (by repeat (first | (with_reducible exact HR351_8.out) | (with_reducible refine Ca_ ?_ _) | (with_reducible refine CN_ ?_ _) | (with_reducible refine C1_ ?_) | exact HR351_8.out)) hb) | have n5_ : Aside0 True := ⟨trivial⟩); have n6_ := A0_ (below_step (wb_ HB.out) hb); clear HO_0; clear HO_1; clear HO_5; clear HL351_8; clear HR351_8; clear HB; have HO_0 := n0_; have HO_1 := n1_; have HO_5 := n2_; have HL351_8 := n3_; have HO362 := n4_; have HR351_8 := n5_; have HB := n6_; clear n0_ n1_ n2_ n3_ n4_ n5_ n6_; (try clear hb); (try clear hb2); (try clear hk); (try clear hi); (try clear ho0)) | ((with_reducible refine gate_dst (N := 9) rfl ?_); (try (refine gate_guard (by rfl) ?_; dsimp only)); refine box_event ?hg (N := 9) ?hd (cs := #[.string (⟨#[]⟩ : ByteArray), .string (⟨#[]⟩ : ByteArray), .string (⟨#[]⟩ : ByteArray), .int .u8 0, .int .i64 0, .int .i64 0, .int .i64 0, .int .i64 0, .slice none 0 0]) (t := 38) ?hr ?_; (case hd => rfl); (case hg => rfl); (case hr => first | (go_simp; done) | (go_simp; rfl)); intro gb364 hg w36 hbox hb; have n0_ := A0_ (Vb_ (Kd.V_elderB (wV_ HO_0.out) gb364 (Nat.le_of_eq hg.symm)) hb); have n1_ := A0_ (Vb_ (Kd.V_elderB (wV_ HO_1.out) gb364 (Nat.le_of_eq hg.symm)) hb); have n2_ := A0_ (Vb_ (Kd.V_elderB (wV_ HO_5.out) gb364 (Nat.le_of_eq hg.symm)) hb); have n3_ := A0_ (Vb_ (Kd.V_elderB (wV_ HL351_8.out) gb364 (Nat.le_of_eq hg.symm)) hb); have n4_ := A0_ (Vb_ (Kd.V_elderB (wV_ HO362.out) gb364 (Nat.le_of_eq hg.symm)) hb); (first | have n5_ := A0_ (Kd.C_below (by repeat (first | (with_reducible exact HR351_8.out) | (with_reducible refine Ca_ ?_ _) | (with_reducible refine CN_ ?_ _) | (with_reducible refine C1_ ?_) | exact HR351_8.out)) hb) | have n5_ : Aside0 True := ⟨trivial⟩); have n6_ := A0_ (below_step (wb_ HB.out) hb); have n7_ := A0_ (hbox); have n8_ := A0_ ((by rw [hg]; exact (below_size (wb_ HB.out)) : w.heap.size ≤ gb364)); have n9_ := A0_ ((by rw [hg]; exact (below_size (wb_ HB.out)) : w.heap.size ≤ gb364)); clear HO_0; clear HO_1; clear HO_5; clear HL351_8; clear HO362; clear HR351_8; clear HB; have HO_0 := n0_; have HO_1 := n1_; have HO_5 := n2_; have HL351_8 := n3_; have HO362 := n4_; have HR351_8 := n5_; have HB := n6_; have BK364 := n7_; have GW364 := n8_; have GE364 := n9_; clear n0_ n1_ n2_ n3_ n4_ n5_ n6_ n7_ n8_ n9_; clear hb hbox hg; have hcz37_0 : w36.cell? ⟨gb364, 0, none⟩ = some (.string (⟨#[]⟩ : ByteArray)) := (bc_ BK364.out 0).trans rfl; have hcz37_1 : w36.cell? ⟨gb364, 1, none⟩ = some (.string (⟨#[]⟩ : ByteArray)) := (bc_ BK364.out 1).trans rfl; have hcz37_2 : w36.cell? ⟨gb364, 2, none⟩ = some (.string (⟨#[]⟩ : ByteArray)) := (bc_ BK364.out 2).trans rfl; have hcz37_3 : w36.cell? ⟨gb364, 3, none⟩ = some (.int .u8 0) := (bc_ BK364.out 3).trans rfl; have hcz37_4 : w36.cell? ⟨gb364, 4, none⟩ = some (.int .i64 0) := (bc_ BK364.out 4).trans rfl; have hcz37_5 : w36.cell? ⟨gb364, 5, none⟩ = some (.int .i64 0) := (bc_ BK364.out 5).trans rfl; have hcz37_6 : w36.cell? ⟨gb364, 6, none⟩ = some (.int .i64 0) := (bc_ BK364.out 6).trans rfl; have hcz37_7 : w36.cell? ⟨gb364, 7, none⟩ = some (.int .i64 0) := (bc_ BK364.out 7).trans rfl; have hcz37_8 : w36.cell? ⟨gb364, 8, none⟩ = some (.slice none 0 0) := (bc_ BK364.out 8).trans rfl; have hfz37_0 := bf_ BK364.out 0; have hfz37_1 := bf_ BK364.out 1; have hfz37_2 := bf_ BK364.out 2; have hfz37_3 := bf_ BK364.out 3; have hfz37_4 := bf_ BK364.out 4; have hfz37_5 := bf_ BK364.out 5; have hfz37_6 := bf_ BK364.out 6; have hfz37_7 := bf_ BK364.out 7; have hfz37_8 := bf_ BK364.out 8; obtain ⟨Ao38, co38, eo38⟩ := Kd.V_slice HO362.out; subst eo38) | ((with_reducible refine gate_store (t := 38) (p := 9) rfl ?_); refine store_event (t := 38) (p := 9) (v := ?vo_w39) (w1 := (((((((((w36.setCell ⟨gb364, 0, none⟩ (.string t352)).setCell ⟨gb364, 1, none⟩ (.string t353)).setCell ⟨gb364, 2, none⟩ (.string t354)).setCell ⟨gb364, 3, none⟩ (.int .u8 t355)).setCell ⟨gb364, 4, none⟩ (.int .i64 t356)).setCell ⟨gb364, 5, none⟩ (.int .i64 t357)).setCell ⟨gb364, 6, none⟩ (.int .i64 t358)).setCell ⟨gb364, 7, none⟩ (.int .i64 t359)).setCell ⟨gb364, 8, none⟩ (.slice Ao38 t360.length co38))) ?hg ?ho ?hn ?hr ?_; (case ho => rfl); (case hg => rfl); (case hn => rfl); (case hr => first | (go_simp; done) | (go_simp; rfl)); intro w39 hw; have n0_ : Aside0 (Kd.V k38 38 w39 w.heap.size (fun k_ => ((P0_ k_ ∨ P1_ k_) ∨ w.heap.size ≤ k_) ∧ k_ ≠ gb364) (.slice (some ad351) l0.length c0) l0) := ⟨(by rw [hw]; exact (by (with_reducible repeat (first | apply Va_ | apply VN_ | apply V1_)); exact Kd.V_mono (Kd.V_far (p := ⟨gb364, 8, none⟩) (Kd.V_far (p := ⟨gb364, 7, none⟩) (Kd.V_far (p := ⟨gb364, 6, none⟩) (Kd.V_far (p := ⟨gb364, 5, none⟩) (Kd.V_far (p := ⟨gb364, 4, none⟩) (Kd.V_far (p := ⟨gb364, 3, none⟩) (Kd.V_far (p := ⟨gb364, 2, none⟩) (Kd.V_far (p := ⟨gb364, 1, none⟩) (Kd.V_far (p := ⟨gb364, 0, none⟩) (Kd.V_mono HO_0.out (fun k_ hk => (⟨hk, hk.2⟩ : _ ∧ k_ ≠ gb364))) (fun _ hk => hk.2) (.string t352)) (fun _ hk => hk.2) (.string t353)) (fun _ hk => hk.2) (.string t354)) (fun _ hk => hk.2) (.int .u8 t355)) (fun _ hk => hk.2) (.int .i64 t356)) (fun _ hk => hk.2) (.int .i64 t357)) (fun _ hk => hk.2) (.int .i64 t358)) (fun _ hk => hk.2) (.int .i64 t359)) (fun _ hk => hk.2) (.slice Ao38 t360.length co38)) (fun _ hk => ⟨hk.1.1, hk.1.2⟩)))⟩; have n1_ : Aside0 (Kd.V k38 38 w39 w.heap.size (fun k_ => ((P0_ k_ ∨ P1_ k_) ∨ w.heap.size ≤ k_) ∧ k_ ≠ gb364) (.slice A1 l1.length c1) l1) := ⟨(by rw [hw]; exact (by (with_reducible repeat (first | apply Va_ | apply VN_ | apply V1_)); exact Kd.V_mono (Kd.V_far (p := ⟨gb364, 8, none⟩) (Kd.V_far (p := ⟨gb364, 7, none⟩) (Kd.V_far (p := ⟨gb364, 6, none⟩) (Kd.V_far (p := ⟨gb364, 5, none⟩) (Kd.V_far (p := ⟨gb364, 4, none⟩) (Kd.V_far (p := ⟨gb364, 3, none⟩) (Kd.V_far (p := ⟨gb364, 2, none⟩) (Kd.V_far (p := ⟨gb364, 1, none⟩) (Kd.V_far (p := ⟨gb364, 0, none⟩) (Kd.V_mono HO_1.out (fun k_ hk => (⟨hk, hk.2⟩ : _ ∧ k_ ≠ gb364))) (fun _ hk => hk.2) (.string t352)) (fun _ hk => hk.2) (.string t353)) (fun _ hk => hk.2) (.string t354)) (fun _ hk => hk.2) (.int .u8 t355)) (fun _ hk => hk.2) (.int .i64 t356)) (fun _ hk => hk.2) (.int .i64 t357)) (fun _ hk => hk.2) (.int .i64 t358)) (fun _ hk => hk.2) (.int .i64 t359)) (fun _ hk => hk.2) (.slice Ao38 t360.length co38)) (fun _ hk => ⟨hk.1.1, hk.1.2⟩)))⟩; have n2_ : Aside0 (Kd.V k38 38 w39 w.heap.size (fun k_ => ((P0_ k_ ∨ P1_ k_) ∨ w.heap.size ≤ k_) ∧ k_ ≠ gb364) (.slice Ao34 t347.length co34) t347) := ⟨(by rw [hw]; exact (by (with_reducible repeat (first | apply Va_ | apply VN_ | apply V1_)); exact Kd.V_mono (Kd.V_far (p := ⟨gb364, 8, none⟩) (Kd.V_far (p := ⟨gb364, 7, none⟩) (Kd.V_far (p := ⟨gb364, 6, none⟩) (Kd.V_far (p := ⟨gb364, 5, none⟩) (Kd.V_far (p := ⟨gb364, 4, none⟩) (Kd.V_far (p := ⟨gb364, 3, none⟩) (Kd.V_far (p := ⟨gb364, 2, none⟩) (Kd.V_far (p := ⟨gb364, 1, none⟩) (Kd.V_far (p := ⟨gb364, 0, none⟩) (Kd.V_mono HO_5.out (fun k_ hk => (⟨hk, hk.2⟩ : _ ∧ k_ ≠ gb364))) (fun _ hk => hk.2) (.string t352)) (fun _ hk => hk.2) (.string t353)) (fun _ hk => hk.2) (.string t354)) (fun _ hk => hk.2) (.int .u8 t355)) (fun _ hk => hk.2) (.int .i64 t356)) (fun _ hk => hk.2) (.int .i64 t357)) (fun _ hk => hk.2) (.int .i64 t358)) (fun _ hk => hk.2) (.int .i64 t359)) (fun _ hk => hk.2) (.slice Ao38 t360.length co38)) (fun _ hk => ⟨hk.1.1, hk.1.2⟩)))⟩; have n3_ : Aside0 (Kd.V (Kd.int .u8) 5 w39 w.heap.size (fun k_ => ((P0_ k_ ∨ P1_ k_) ∨ w.heap.size ≤ k_) ∧ k_ ≠ gb364) (.slice A351_8 ((rd_T38 l0 x8_2).f5).length c351_8) ((rd_T38 l0 x8_2).f5)) := ⟨(by rw [hw]; exact (by (with_reducible repeat (first | apply Va_ | apply VN_ | apply V1_)); exact Kd.V_mono (Kd.V_far (p := ⟨gb364, 8, none⟩) (Kd.V_far (p := ⟨gb364, 7, none⟩) (Kd.V_far (p := ⟨gb364, 6, none⟩) (Kd.V_far (p := ⟨gb364, 5, none⟩) (Kd.V_far (p := ⟨gb364, 4, none⟩) (Kd.V_far (p := ⟨gb364, 3, none⟩) (Kd.V_far (p := ⟨gb364, 2, none⟩) (Kd.V_far (p := ⟨gb364, 1, none⟩) (Kd.V_far (p := ⟨gb364, 0, none⟩) (Kd.V_mono HL351_8.out (fun k_ hk => (⟨hk, hk.2⟩ : _ ∧ k_ ≠ gb364))) (fun _ hk => hk.2) (.string t352)) (fun _ hk => hk.2) (.string t353)) (fun _ hk => hk.2) (.string t354)) (fun _ hk => hk.2) (.int .u8 t355)) (fun _ hk => hk.2) (.int .i64 t356)) (fun _ hk => hk.2) (.int .i64 t357)) (fun _ hk => hk.2) (.int .i64 t358)) (fun _ hk => hk.2) (.int .i64 t359)) (fun _ hk => hk.2) (.slice Ao38 t360.length co38)) (fun _ hk => ⟨hk.1.1, hk.1.2⟩)))⟩; have n4_ : Aside0 (Kd.V (Kd.int .u8) 5 w39 w.heap.size (fun k_ => ((P0_ k_ ∨ P1_ k_) ∨ w.heap.size ≤ k_) ∧ k_ ≠ gb364) (.slice Ao38 t360.length co38) t360) := ⟨(by rw [hw]; exact (by (with_reducible repeat (first | apply Va_ | apply VN_ | apply V1_)); exact Kd.V_mono (Kd.V_far (p := ⟨gb364, 8, none⟩) (Kd.V_far (p := ⟨gb364, 7, none⟩) (Kd.V_far (p := ⟨gb364, 6, none⟩) (Kd.V_far (p := ⟨gb364, 5, none⟩) (Kd.V_far (p := ⟨gb364, 4, none⟩) (Kd.V_far (p := ⟨gb364, 3, none⟩) (Kd.V_far (p := ⟨gb364, 2, none⟩) (Kd.V_far (p := ⟨gb364, 1, none⟩) (Kd.V_far (p := ⟨gb364, 0, none⟩) (Kd.V_mono HO362.out (fun k_ hk => (⟨hk, hk.2⟩ : _ ∧ k_ ≠ gb364))) (fun _ hk => hk.2) (.string t352)) (fun _ hk => hk.2) (.string t353)) (fun _ hk => hk.2) (.string t354)) (fun _ hk => hk.2) (.int .u8 t355)) (fun _ hk => hk.2) (.int .i64 t356)) (fun _ hk => hk.2) (.int .i64 t357)) (fun _ hk => hk.2) (.int .i64 t358)) (fun _ hk => hk.2) (.int .i64 t359)) (fun _ hk => hk.2) (.slice Ao38 t360.length co38)) (fun _ hk => ⟨hk.1.1, hk.1.2⟩)))⟩; have n5_ : Aside0 (w39.heap[gb364]? = some (.cells #[.string t352, .string t353, .string t354, .int .u8 t355, .int .i64 t356, .int .i64 t357, .int .i64 t358, .int .i64 t359, .slice Ao38 t360.length co38] 38 (0, 0))) := ⟨(by rw [hw]; exact (by (with_reducible repeat (first | refine blk_drewN ?_ _ | refine blk_drew ?_ | refine blk_alloc ?_ _)); refine blk_put (cs := #[.string t352, .string t353, .string t354, .int .u8 t355, .int .i64 t356, .int .i64 t357, .int .i64 t358, .int .i64 t359, .slice none 0 0]) ?_ 8 _ rfl; (with_reducible repeat (first | refine blk_drewN ?_ _ | refine blk_drew ?_ | refine blk_alloc ?_ _)); refine blk_put (cs := #[.string t352, .string t353, .string t354, .int .u8 t355, .int .i64 t356, .int .i64 t357, .int .i64 t358, .int .i64 0, .slice none 0 0]) ?_ 7 _ rfl; (with_reducible repeat (first | refine blk_drewN ?_ _ | refine blk_drew ?_ | refine blk_alloc ?_ _)); refine blk_put (cs := #[.string t352, .string t353, .string t354, .int .u8 t355, .int .i64 t356, .int .i64 t357, .int .i64 0, .int .i64 0, .slice none 0 0]) ?_ 6 _ rfl; (with_reducible repeat (first | refine blk_drewN ?_ _ | refine blk_drew ?_ | refine blk_alloc ?_ _)); refine blk_put (cs := #[.string t352, .string t353, .string t354, .int .u8 t355, .int .i64 t356, .int .i64 0, .int .i64 0, .int .i64 0, .slice none 0 0]) ?_ 5 _ rfl; (with_reducible repeat (first | refine blk_drewN ?_ _ | refine blk_drew ?_ | refine blk_alloc ?_ _)); refine blk_put (cs := #[.string t352, .string t353, .string t354, .int .u8 t355, .int .i64 0, .int .i64 0, .int .i64 0, .int .i64 0, .slice none 0 0]) ?_ 4 _ rfl; (with_reducible repeat (first | refine blk_drewN ?_ _ | refine blk_drew ?_ | refine blk_alloc ?_ _)); refine blk_put (cs := #[.string t352, .string t353, .string t354, .int .u8 0, .int .i64 0, .int .i64 0, .int .i64 0, .int .i64 0, .slice none 0 0]) ?_ 3 _ rfl; (with_reducible repeat (first | refine blk_drewN ?_ _ | refine blk_drew ?_ | refine blk_alloc ?_ _)); refine blk_put (cs := #[.string t352, .string t353, .string (⟨#[]⟩ : ByteArray), .int .u8 0, .int .i64 0, .int .i64 0, .int .i64 0, .int .i64 0, .slice none 0 0]) ?_ 2 _ rfl; (with_reducible repeat (first | refine blk_drewN ?_ _ | refine blk_drew ?_ | refine blk_alloc ?_ _)); refine blk_put (cs := #[.string t352, .string (⟨#[]⟩ : ByteArray), .string (⟨#[]⟩ : ByteArray), .int .u8 0, .int .i64 0, .int .i64 0, .int .i64 0, .int .i64 0, .slice none 0 0]) ?_ 1 _ rfl; (with_reducible repeat (first | refine blk_drewN ?_ _ | refine blk_drew ?_ | refine blk_alloc ?_ _)); refine blk_put (cs := #[.string (⟨#[]⟩ : ByteArray), .string (⟨#[]⟩ : ByteArray), .string (⟨#[]⟩ : ByteArray), .int .u8 0, .int .i64 0, .int .i64 0, .int .i64 0, .int .i64 0, .slice none 0 0]) ?_ 0 _ rfl; (with_reducible repeat (first | refine blk_drewN ?_ _ | refine blk_drew ?_ | refine blk_alloc ?_ _)); exact BK364.out))⟩; have n6_ : Aside0 (Below w.heap.size w w39) := ⟨(by rw [hw]; exact (wb1_ HB.out GE364.out))⟩; clear hw; clear HO_0; clear HO_1; clear HO_5; clear HL351_8; clear HO362; clear BK364; clear HB; have HO_0 := n0_; have HO_1 := n1_; have HO_5 := n2_; have HL351_8 := n3_; have HO362 := n4_; have BK364 := n5_; have HB := n6_; clear n0_ n1_ n2_ n3_ n4_ n5_ n6_; have p365 : 0 ≤ (x8_2 : Int) := wd_; have q365 : x8_2 < (l0.length : Int) := wd_; obtain ⟨ad365, A365_8, c365_8, e365, hx365_0, hx365_1, hx365_2, hx365_3, hx365_4, hx365_5, hx365_6, hx365_7, hx365_8, hl365_8, hi365_8⟩ := at_T38 (Kd.V_reads' HO_0.out).2.2 x8_2 p365 q365; obtain rfl : ad351 = ad365 := (by injection e365); obtain ⟨ce365, hce365, hMe365, hcc365⟩ := Kd.V_get HO_0.out z38 x8_2 p365 (by first | exact q365 | exact wd_ | (have e_ := (Kd.V_reads' HO_0.out).1; omega)); obtain ⟨ua365_8, uc365_8, rfl, ul365_8, ge365_8⟩ := k38_openF hMe365; have hv365_8 := hcc365 8 _ rfl; rw [add_field _ _ 8 (by omega)] at hv365_8; replace hv365_8 := Option.some.inj (hv365_8.symm.trans hx365_8); injection hv365_8 with hva_ hvn_ hvc_; rw [hva_] at ge365_8; rw [hvc_] at ul365_8; have HL365_8 := A0_ (show Kd.V (Kd.int .u8) 5 _ w.heap.size _ _ ((rd_T38 l0 x8_2).f5) from Kd.V_mk ul365_8 ge365_8); clear hva_ hvn_ hvc_ ge365_8 ul365_8; clear hcc365 hce365; have HR365_8 := A0_ hi365_8; have HC365_8 := A0_ hl365_8; clear hi365_8 hl365_8; replace p365 := eq_true p365; replace q365 := eq_true q365) | ((with_reducible refine gate_callee (f := 19) rfl ?_); refine goesL_ (some 64) rfl rfl Tryd.func19 (by kernel_rfl) rfl #[.slice A1 l1.length c1, .string ((rd_T38 l0 x8_2).f0)] rfl wm_ ?_; (with_reducible refine (bindleref08_Find.calls k2 (fun k_ => (((P0_ k_ ∨ P1_ k_) ∨ w.heap.size ≤ k_) ∧ k_ ≠ gb364)) _ _ l1 ((rd_T38 l0 x8_2).f0) t366 t367 t368 t369 t370 t371 t372 t373 t374 t377 _ ?side1 A32.out).mono ?_); (case side1 => exact HO_1.out); rintro e w40 ⟨v375, rfl, ho0, hb⟩; refine ⟨_, rfl, ?_⟩; have n0_ := A0_ (Vb_ (wV_ HO_0.out) hb); have n1_ := A0_ (Vb_ (wV_ HO_1.out) hb); have n2_ := A0_ (Vb_ (wV_ HO_5.out) hb); have n3_ := A0_ (Vb_ (wV_ HL351_8.out) hb); have n4_ := A0_ (Vb_ (wV_ HO362.out) hb); have n5_ := A0_ (Vb_ (wV_ HL365_8.out) hb); have n6_ := A0_ (Kd.V_lower (Kd.V_mono (ok' := fun k_ => ((P0_ k_ ∨ P1_ k_) ∨ w.heap.size ≤ k_) ∧ k_ ≠ gb364) ho0 (fun k_ hk_ => ⟨Or.elim hk_ (fun hs_ => hs_.1) (fun hn_ => (.inr (Nat.le_trans (below_size (wb1_ HB.out GE364.out)) hn_))), Or.elim hk_ (fun hs_ => hs_.2) (fun hn_ => (Kd.freshB (g := gb364) (o := .cells #[.string t352, .string t353, .string t354, .int .u8 t355, .int .i64 t356, .int .i64 t357, .int .i64 t358, .int .i64 t359, .slice Ao38 t360.length co38] 38 (0, 0)) (wB_ BK364.out) k_ hn_))⟩)) (below_size (wb1_ HB.out GE364.out))); (first | have n7_ := A0_ (Kd.C_below (by repeat (first | (with_reducible exact HR351_8.out) | (with_reducible refine Ca_ ?_ _) | (with_reducible refine CN_ ?_ _) | (with_reducible refine C1_ ?_) | exact HR351_8.out)) hb) | have n7_ : Aside0 True := ⟨trivial⟩); have n8_ := A0_ (blk_below (g := gb364) (o := .cells #[.string t352, .string t353, .string t354, .int .u8 t355, .int .i64 t356, .int .i64 t357, .int .i64 t358, .int .i64 t359, .slice Ao38 t360.length co38] 38 (0, 0)) (wB_ BK364.out) hb); (first | have n9_ := A0_ (Kd.C_below (by repeat (first | (with_reducible exact HR365_8.out) | (with_reducible refine Ca_ ?_ _) | (with_reducible refine CN_ ?_ _) | (with_reducible refine C1_ ?_) | exact HR365_8.out)) hb) | have n9_ : Aside0 True := ⟨trivial⟩); have n10_ := A0_ (below_step (wb1_ HB.out GE364.out) hb); clear HO_0; clear HO_1; clear HO_5; clear HL351_8; clear HO362; clear HL365_8; clear HR351_8; clear BK364; clear HR365_8; clear HB; have HO_0 := n0_; have HO_1 := n1_; have HO_5 := n2_; have HL351_8 := n3_; have HO362 := n4_; have HL365_8 := n5_; have HO376 := n6_; have HR351_8 := n7_; have BK364 := n8_; have HR365_8 := n9_; have HB := n10_; clear n0_ n1_ n2_ n3_ n4_ n5_ n6_ n7_ n8_ n9_ n10_; (try clear hb); (try clear hb2); (try clear hk); (try clear hi); (try clear ho0)) | ((with_reducible refine gate_dst (N := 11) rfl ?_); (try (refine gate_guard (by rfl) ?_; dsimp only)); refine box_event ?hg (N := 11) ?hd (cs := #[.string (⟨#[]⟩ : ByteArray), .string (⟨#[]⟩ : ByteArray), .string (⟨#[]⟩ : ByteArray), .int .u8 0, .int .i64 0, .int .i64 0, .int .i64 0, .int .i64 0, .slice none 0 0]) (t := 38) ?hr ?_; (case hd => rfl); (case hg => rfl); (case hr => first | (go_simp; done) | (go_simp; rfl)); intro gb378 hg w41 hbox hb; have n0_ := A0_ (Vb_ (Kd.V_elderB (wV_ HO_0.out) gb378 (Nat.le_of_eq hg.symm)) hb); have n1_ := A0_ (Vb_ (Kd.V_elderB (wV_ HO_1.out) gb378 (Nat.le_of_eq hg.symm)) hb); have n2_ := A0_ (Vb_ (Kd.V_elderB (wV_ HO_5.out) gb378 (Nat.le_of_eq hg.symm)) hb); have n3_ := A0_ (Vb_ (Kd.V_elderB (wV_ HL351_8.out) gb378 (Nat.le_of_eq hg.symm)) hb); have n4_ := A0_ (Vb_ (Kd.V_elderB (wV_ HO362.out) gb378 (Nat.le_of_eq hg.symm)) hb); have n5_ := A0_ (Vb_ (Kd.V_elderB (wV_ HL365_8.out) gb378 (Nat.le_of_eq hg.symm)) hb); have n6_ := A0_ (Vb_ (Kd.V_elderB (wV_ HO376.out) gb378 (Nat.le_of_eq hg.symm)) hb); (first | have n7_ := A0_ (Kd.C_below (by repeat (first | (with_reducible exact HR351_8.out) | (with_reducible refine Ca_ ?_ _) | (with_reducible refine CN_ ?_ _) | (with_reducible refine C1_ ?_) | exact HR351_8.out)) hb) | have n7_ : Aside0 True := ⟨trivial⟩); have n8_ := A0_ (blk_below (g := gb364) (o := .cells #[.string t352, .string t353, .string t354, .int .u8 t355, .int .i64 t356, .int .i64 t357, .int .i64 t358, .int .i64 t359, .slice Ao38 t360.length co38] 38 (0, 0)) (wB_ BK364.out) hb); (first | have n9_ := A0_ (Kd.C_below (by repeat (first | (with_reducible exact HR365_8.out) | (with_reducible refine Ca_ ?_ _) | (with_reducible refine CN_ ?_ _) | (with_reducible refine C1_ ?_) | exact HR365_8.out)) hb) | have n9_ : Aside0 True := ⟨trivial⟩); have n10_ := A0_ (below_step (wb1_ HB.out GE364.out) hb); have n11_ := A0_ (hbox); have n12_ := A0_ ((by rw [hg]; exact (below_size (wb1_ HB.out GE364.out)) : w.heap.size ≤ gb378)); have n13_ := A0_ ((by rw [hg]; exact (below_size (wb1_ HB.out GE364.out)) : w.heap.size ≤ gb378)); have n14_ := A0_ ((by rw [hg]; exact Nat.ne_of_lt (blk_lt (g := gb364) (o := .cells #[.string t352, .string t353, .string t354, .int .u8 t355, .int .i64 t356, .int .i64 t357, .int .i64 t358, .int .i64 t359, .slice Ao38 t360.length co38] 38 (0, 0)) (wB_ BK364.out)) : gb364 ≠ gb378)); have n15_ := A0_ ((by rw [hg]; exact Nat.ne_of_gt (blk_lt (g := gb364) (o := .cells #[.string t352, .string t353, .string t354, .int .u8 t355, .int .i64 t356, .int .i64 t357, .int .i64 t358, .int .i64 t359, .slice Ao38 t360.length co38] 38 (0, 0)) (wB_ BK364.out)) : gb378 ≠ gb364)); clear HO_0; clear HO_1; clear HO_5; clear HL351_8; clear HO362; clear HL365_8; clear HO376; clear HR351_8; clear BK364; clear HR365_8; clear HB; have HO_0 := n0_; have HO_1 := n1_; have HO_5 := n2_; have HL351_8 := n3_; have HO362 := n4_; have HL365_8 := n5_; have HO376 := n6_; have HR351_8 := n7_; have BK364 := n8_; have HR365_8 := n9_; have HB := n10_; have BK378 := n11_; have GW378 := n12_; have GE378 := n13_; have NB364_378 := n14_; have NB378_364 := n15_; clear n0_ n1_ n2_ n3_ n4_ n5_ n6_ n7_ n8_ n9_ n10_ n11_ n12_ n13_ n14_ n15_; clear hb hbox hg; have hnb42 := NB378_364.out; have hnc42 := NB364_378.out; have hcz43_0 : w41.cell? ⟨gb378, 0, none⟩ = some (.string (⟨#[]⟩ : ByteArray)) := (bc_ BK378.out 0).trans rfl; have hcz43_1 : w41.cell? ⟨gb378, 1, none⟩ = some (.string (⟨#[]⟩ : ByteArray)) := (bc_ BK378.out 1).trans rfl; have hcz43_2 : w41.cell? ⟨gb378, 2, none⟩ = some (.string (⟨#[]⟩ : ByteArray)) := (bc_ BK378.out 2).trans rfl; have hcz43_3 : w41.cell? ⟨gb378, 3, none⟩ = some (.int .u8 0) := (bc_ BK378.out 3).trans rfl; have hcz43_4 : w41.cell? ⟨gb378, 4, none⟩ = some (.int .i64 0) := (bc_ BK378.out 4).trans rfl; have hcz43_5 : w41.cell? ⟨gb378, 5, none⟩ = some (.int .i64 0) := (bc_ BK378.out 5).trans rfl; have hcz43_6 : w41.cell? ⟨gb378, 6, none⟩ = some (.int .i64 0) := (bc_ BK378.out 6).trans rfl; have hcz43_7 : w41.cell? ⟨gb378, 7, none⟩ = some (.int .i64 0) := (bc_ BK378.out 7).trans rfl; have hcz43_8 : w41.cell? ⟨gb378, 8, none⟩ = some (.slice none 0 0) := (bc_ BK378.out 8).trans rfl; have hfz43_0 := bf_ BK378.out 0; have hfz43_1 := bf_ BK378.out 1; have hfz43_2 := bf_ BK378.out 2; have hfz43_3 := bf_ BK378.out 3; have hfz43_4 := bf_ BK378.out 4; have hfz43_5 := bf_ BK378.out 5; have hfz43_6 := bf_ BK378.out 6; have hfz43_7 := bf_ BK378.out 7; have hfz43_8 := bf_ BK378.out 8; obtain ⟨Ao44, co44, eo44⟩ := Kd.V_slice HO376.out; subst eo44))
     (try simp only [Act.put, List.setIfInBounds_toArray, List.set_cons_zero, List.set_cons_succ])
     go_cut [81] (fun v81 wc => ∃ (kq : Nat) (x81_32 : Bool), v81 = .bool x81_32 ∧ Aside0 (bindlelaw19_UnionLast.j2 kq l0 l1 t347 x7_2 x8_2 t377 x81_32 = some r) ∧ Aside0 (kq ≤ k2) ∧ Aside0 (Kd.V k38 38 wc w.heap.size (fun k_ => ((P0_ k_ ∨ P1_ k_) ∨ w.heap.size ≤ k_) ∧ k_ ≠ gb364 ∧ k_ ≠ gb378) (.slice (some ad351) l0.length c0) l0) ∧ Aside0 (Kd.V k38 38 wc w.heap.size (fun k_ => ((P0_ k_ ∨ P1_ k_) ∨ w.heap.size ≤ k_) ∧ k_ ≠ gb364 ∧ k_ ≠ gb378) (.slice A1 l1.length c1) l1) ∧ Aside0 (Kd.V k38 38 wc w.heap.size (fun k_ => ((P0_ k_ ∨ P1_ k_) ∨ w.heap.size ≤ k_) ∧ k_ ≠ gb364 ∧ k_ ≠ gb378) (.slice Ao34 t347.length co34) t347) ∧ Aside0 (Kd.V (Kd.int .u8) 5 wc w.heap.size (fun k_ => ((P0_ k_ ∨ P1_ k_) ∨ w.heap.size ≤ k_) ∧ k_ ≠ gb364 ∧ k_ ≠ gb378) (.slice Ao38 t360.length co38) t360) ∧ Aside0 (Kd.V (Kd.int .u8) 5 wc w.heap.size (fun k_ => ((P0_ k_ ∨ P1_ k_) ∨ w.heap.size ≤ k_) ∧ k_ ≠ gb364 ∧ k_ ≠ gb378) (.slice Ao44 t374.length co44) t374) ∧ Aside0 (wc.heap[gb364]? = some (.cells #[.string t352, .string t353, .string t354, .int .u8 t355, .int .i64 t356, .int .i64 t357, .int .i64 t358, .int .i64 t359, (.slice Ao38 t360.length co38)] 38 (0, 0))) ∧ Aside0 (wc.heap[gb378]? = some (.cells #[.string t366, .string t367, .string t368, .int .u8 t369, .int .i64 t370, .int .i64 t371, .int .i64 t372, .int .i64 t373, (.slice Ao44 t374.length co44)] 38 (0, 0))) ∧ Aside0 (Below w.heap.size w wc))
     case first =>
      have H := HC33.out
      clear HC33
      by_cases c45 : t363 = true
      rotate_left
      ·replace c45 := Bool.eq_false_iff.mpr c45
       subst c45
       have H1 : (bindlelaw19_UnionLast.j2 k2 l0 l1 t347 x7_2 x8_2 t377 true) = some r := by rw [if_neg (show ¬ (false = true) by decide)] at H; exact H
       clear H
       have H := H1
       clear H1
       have H' := A0_ H
       clear H
       try go_wp2
       have n0_ : Aside0 (Kd.V k38 38 (((((((((w41.setCell ⟨gb378, 0, none⟩ (.string t366)).setCell ⟨gb378, 1, none⟩ (.string t367)).setCell ⟨gb378, 2, none⟩ (.string t368)).setCell ⟨gb378, 3, none⟩ (.int .u8 t369)).setCell ⟨gb378, 4, none⟩ (.int .i64 t370)).setCell ⟨gb378, 5, none⟩ (.int .i64 t371)).setCell ⟨gb378, 6, none⟩ (.int .i64 t372)).setCell ⟨gb378, 7, none⟩ (.int .i64 t373)).setCell ⟨gb378, 8, none⟩ (.slice Ao44 t374.length co44)) w.heap.size (fun k_ => ((P0_ k_ ∨ P1_ k_) ∨ w.heap.size ≤ k_) ∧ k_ ≠ gb364 ∧ k_ ≠ gb378) (.slice (some ad351) l0.length c0) l0) := ⟨by (with_reducible repeat (first | apply Va_ | apply VN_ | apply V1_)); exact Kd.V_mono (Kd.V_far (p := ⟨gb378, 8, none⟩) (Kd.V_far (p := ⟨gb378, 7, none⟩) (Kd.V_far (p := ⟨gb378, 6, none⟩) (Kd.V_far (p := ⟨gb378, 5, none⟩) (Kd.V_far (p := ⟨gb378, 4, none⟩) (Kd.V_far (p := ⟨gb378, 3, none⟩) (Kd.V_far (p := ⟨gb378, 2, none⟩) (Kd.V_far (p := ⟨gb378, 1, none⟩) (Kd.V_far (p := ⟨gb378, 0, none⟩) (Kd.V_mono HO_0.out (fun k_ hk => (⟨hk, hk.2⟩ : _ ∧ k_ ≠ gb378))) (fun _ hk => hk.2) (.string t366)) (fun _ hk => hk.2) (.string t367)) (fun _ hk => hk.2) (.string t368)) (fun _ hk => hk.2) (.int .u8 t369)) (fun _ hk => hk.2) (.int .i64 t370)) (fun _ hk => hk.2) (.int .i64 t371)) (fun _ hk => hk.2) (.int .i64 t372)) (fun _ hk => hk.2) (.int .i64 t373)) (fun _ hk => hk.2) (.slice Ao44 t374.length co44)) (fun _ hk => ⟨hk.1.1.1, ⟨hk.1.1.2, hk.1.2⟩⟩)⟩
       have n1_ : Aside0 (Kd.V k38 38 (((((((((w41.setCell ⟨gb378, 0, none⟩ (.string t366)).setCell ⟨gb378, 1, none⟩ (.string t367)).setCell ⟨gb378, 2, none⟩ (.string t368)).setCell ⟨gb378, 3, none⟩ (.int .u8 t369)).setCell ⟨gb378, 4, none⟩ (.int .i64 t370)).setCell ⟨gb378, 5, none⟩ (.int .i64 t371)).setCell ⟨gb378, 6, none⟩ (.int .i64 t372)).setCell ⟨gb378, 7, none⟩ (.int .i64 t373)).setCell ⟨gb378, 8, none⟩ (.slice Ao44 t374.length co44)) w.heap.size (fun k_ => ((P0_ k_ ∨ P1_ k_) ∨ w.heap.size ≤ k_) ∧ k_ ≠ gb364 ∧ k_ ≠ gb378) (.slice A1 l1.length c1) l1) := ⟨by (with_reducible repeat (first | apply Va_ | apply VN_ | apply V1_)); exact Kd.V_mono (Kd.V_far (p := ⟨gb378, 8, none⟩) (Kd.V_far (p := ⟨gb378, 7, none⟩) (Kd.V_far (p := ⟨gb378, 6, none⟩) (Kd.V_far (p := ⟨gb378, 5, none⟩) (Kd.V_far (p := ⟨gb378, 4, none⟩) (Kd.V_far (p := ⟨gb378, 3, none⟩) (Kd.V_far (p := ⟨gb378, 2, none⟩) (Kd.V_far (p := ⟨gb378, 1, none⟩) (Kd.V_far (p := ⟨gb378, 0, none⟩) (Kd.V_mono HO_1.out (fun k_ hk => (⟨hk, hk.2⟩ : _ ∧ k_ ≠ gb378))) (fun _ hk => hk.2) (.string t366)) (fun _ hk => hk.2) (.string t367)) (fun _ hk => hk.2) (.string t368)) (fun _ hk => hk.2) (.int .u8 t369)) (fun _ hk => hk.2) (.int .i64 t370)) (fun _ hk => hk.2) (.int .i64 t371)) (fun _ hk => hk.2) (.int .i64 t372)) (fun _ hk => hk.2) (.int .i64 t373)) (fun _ hk => hk.2) (.slice Ao44 t374.length co44)) (fun _ hk => ⟨hk.1.1.1, ⟨hk.1.1.2, hk.1.2⟩⟩)⟩
       have n2_ : Aside0 (Kd.V k38 38 (((((((((w41.setCell ⟨gb378, 0, none⟩ (.string t366)).setCell ⟨gb378, 1, none⟩ (.string t367)).setCell ⟨gb378, 2, none⟩ (.string t368)).setCell ⟨gb378, 3, none⟩ (.int .u8 t369)).setCell ⟨gb378, 4, none⟩ (.int .i64 t370)).setCell ⟨gb378, 5, none⟩ (.int .i64 t371)).setCell ⟨gb378, 6, none⟩ (.int .i64 t372)).setCell ⟨gb378, 7, none⟩ (.int .i64 t373)).setCell ⟨gb378, 8, none⟩ (.slice Ao44 t374.length co44)) w.heap.size (fun k_ => ((P0_ k_ ∨ P1_ k_) ∨ w.heap.size ≤ k_) ∧ k_ ≠ gb364 ∧ k_ ≠ gb378) (.slice Ao34 t347.length co34) t347) := ⟨by (with_reducible repeat (first | apply Va_ | apply VN_ | apply V1_)); exact Kd.V_mono (Kd.V_far (p := ⟨gb378, 8, none⟩) (Kd.V_far (p := ⟨gb378, 7, none⟩) (Kd.V_far (p := ⟨gb378, 6, none⟩) (Kd.V_far (p := ⟨gb378, 5, none⟩) (Kd.V_far (p := ⟨gb378, 4, none⟩) (Kd.V_far (p := ⟨gb378, 3, none⟩) (Kd.V_far (p := ⟨gb378, 2, none⟩) (Kd.V_far (p := ⟨gb378, 1, none⟩) (Kd.V_far (p := ⟨gb378, 0, none⟩) (Kd.V_mono HO_5.out (fun k_ hk => (⟨hk, hk.2⟩ : _ ∧ k_ ≠ gb378))) (fun _ hk => hk.2) (.string t366)) (fun _ hk => hk.2) (.string t367)) (fun _ hk => hk.2) (.string t368)) (fun _ hk => hk.2) (.int .u8 t369)) (fun _ hk => hk.2) (.int .i64 t370)) (fun _ hk => hk.2) (.int .i64 t371)) (fun _ hk => hk.2) (.int .i64 t372)) (fun _ hk => hk.2) (.int .i64 t373)) (fun _ hk => hk.2) (.slice Ao44 t374.length co44)) (fun _ hk => ⟨hk.1.1.1, ⟨hk.1.1.2, hk.1.2⟩⟩)⟩
       have n3_ : Aside0 (Kd.V (Kd.int .u8) 5 (((((((((w41.setCell ⟨gb378, 0, none⟩ (.string t366)).setCell ⟨gb378, 1, none⟩ (.string t367)).setCell ⟨gb378, 2, none⟩ (.string t368)).setCell ⟨gb378, 3, none⟩ (.int .u8 t369)).setCell ⟨gb378, 4, none⟩ (.int .i64 t370)).setCell ⟨gb378, 5, none⟩ (.int .i64 t371)).setCell ⟨gb378, 6, none⟩ (.int .i64 t372)).setCell ⟨gb378, 7, none⟩ (.int .i64 t373)).setCell ⟨gb378, 8, none⟩ (.slice Ao44 t374.length co44)) w.heap.size (fun k_ => ((P0_ k_ ∨ P1_ k_) ∨ w.heap.size ≤ k_) ∧ k_ ≠ gb364 ∧ k_ ≠ gb378) (.slice A351_8 ((rd_T38 l0 x8_2).f5).length c351_8) ((rd_T38 l0 x8_2).f5)) := ⟨by (with_reducible repeat (first | apply Va_ | apply VN_ | apply V1_)); exact Kd.V_mono (Kd.V_far (p := ⟨gb378, 8, none⟩) (Kd.V_far (p := ⟨gb378, 7, none⟩) (Kd.V_far (p := ⟨gb378, 6, none⟩) (Kd.V_far (p := ⟨gb378, 5, none⟩) (Kd.V_far (p := ⟨gb378, 4, none⟩) (Kd.V_far (p := ⟨gb378, 3, none⟩) (Kd.V_far (p := ⟨gb378, 2, none⟩) (Kd.V_far (p := ⟨gb378, 1, none⟩) (Kd.V_far (p := ⟨gb378, 0, none⟩) (Kd.V_mono HL351_8.out (fun k_ hk => (⟨hk, hk.2⟩ : _ ∧ k_ ≠ gb378))) (fun _ hk => hk.2) (.string t366)) (fun _ hk => hk.2) (.string t367)) (fun _ hk => hk.2) (.string t368)) (fun _ hk => hk.2) (.int .u8 t369)) (fun _ hk => hk.2) (.int .i64 t370)) (fun _ hk => hk.2) (.int .i64 t371)) (fun _ hk => hk.2) (.int .i64 t372)) (fun _ hk => hk.2) (.int .i64 t373)) (fun _ hk => hk.2) (.slice Ao44 t374.length co44)) (fun _ hk => ⟨hk.1.1.1, ⟨hk.1.1.2, hk.1.2⟩⟩)⟩
       have n4_ : Aside0 (Kd.V (Kd.int .u8) 5 (((((((((w41.setCell ⟨gb378, 0, none⟩ (.string t366)).setCell ⟨gb378, 1, none⟩ (.string t367)).setCell ⟨gb378, 2, none⟩ (.string t368)).setCell ⟨gb378, 3, none⟩ (.int .u8 t369)).setCell ⟨gb378, 4, none⟩ (.int .i64 t370)).setCell ⟨gb378, 5, none⟩ (.int .i64 t371)).setCell ⟨gb378, 6, none⟩ (.int .i64 t372)).setCell ⟨gb378, 7, none⟩ (.int .i64 t373)).setCell ⟨gb378, 8, none⟩ (.slice Ao44 t374.length co44)) w.heap.size (fun k_ => ((P0_ k_ ∨ P1_ k_) ∨ w.heap.size ≤ k_) ∧ k_ ≠ gb364 ∧ k_ ≠ gb378) (.slice Ao38 t360.length co38) t360) := ⟨by (with_reducible repeat (first | apply Va_ | apply VN_ | apply V1_)); exact Kd.V_mono (Kd.V_far (p := ⟨gb378, 8, none⟩) (Kd.V_far (p := ⟨gb378, 7, none⟩) (Kd.V_far (p := ⟨gb378, 6, none⟩) (Kd.V_far (p := ⟨gb378, 5, none⟩) (Kd.V_far (p := ⟨gb378, 4, none⟩) (Kd.V_far (p := ⟨gb378, 3, none⟩) (Kd.V_far (p := ⟨gb378, 2, none⟩) (Kd.V_far (p := ⟨gb378, 1, none⟩) (Kd.V_far (p := ⟨gb378, 0, none⟩) (Kd.V_mono HO362.out (fun k_ hk => (⟨hk, hk.2⟩ : _ ∧ k_ ≠ gb378))) (fun _ hk => hk.2) (.string t366)) (fun _ hk => hk.2) (.string t367)) (fun _ hk => hk.2) (.string t368)) (fun _ hk => hk.2) (.int .u8 t369)) (fun _ hk => hk.2) (.int .i64 t370)) (fun _ hk => hk.2) (.int .i64 t371)) (fun _ hk => hk.2) (.int .i64 t372)) (fun _ hk => hk.2) (.int .i64 t373)) (fun _ hk => hk.2) (.slice Ao44 t374.length co44)) (fun _ hk => ⟨hk.1.1.1, ⟨hk.1.1.2, hk.1.2⟩⟩)⟩
       have n5_ : Aside0 (Kd.V (Kd.int .u8) 5 (((((((((w41.setCell ⟨gb378, 0, none⟩ (.string t366)).setCell ⟨gb378, 1, none⟩ (.string t367)).setCell ⟨gb378, 2, none⟩ (.string t368)).setCell ⟨gb378, 3, none⟩ (.int .u8 t369)).setCell ⟨gb378, 4, none⟩ (.int .i64 t370)).setCell ⟨gb378, 5, none⟩ (.int .i64 t371)).setCell ⟨gb378, 6, none⟩ (.int .i64 t372)).setCell ⟨gb378, 7, none⟩ (.int .i64 t373)).setCell ⟨gb378, 8, none⟩ (.slice Ao44 t374.length co44)) w.heap.size (fun k_ => ((P0_ k_ ∨ P1_ k_) ∨ w.heap.size ≤ k_) ∧ k_ ≠ gb364 ∧ k_ ≠ gb378) (.slice A365_8 ((rd_T38 l0 x8_2).f5).length c365_8) ((rd_T38 l0 x8_2).f5)) := ⟨by (with_reducible repeat (first | apply Va_ | apply VN_ | apply V1_)); exact Kd.V_mono (Kd.V_far (p := ⟨gb378, 8, none⟩) (Kd.V_far (p := ⟨gb378, 7, none⟩) (Kd.V_far (p := ⟨gb378, 6, none⟩) (Kd.V_far (p := ⟨gb378, 5, none⟩) (Kd.V_far (p := ⟨gb378, 4, none⟩) (Kd.V_far (p := ⟨gb378, 3, none⟩) (Kd.V_far (p := ⟨gb378, 2, none⟩) (Kd.V_far (p := ⟨gb378, 1, none⟩) (Kd.V_far (p := ⟨gb378, 0, none⟩) (Kd.V_mono HL365_8.out (fun k_ hk => (⟨hk, hk.2⟩ : _ ∧ k_ ≠ gb378))) (fun _ hk => hk.2) (.string t366)) (fun _ hk => hk.2) (.string t367)) (fun _ hk => hk.2) (.string t368)) (fun _ hk => hk.2) (.int .u8 t369)) (fun _ hk => hk.2) (.int .i64 t370)) (fun _ hk => hk.2) (.int .i64 t371)) (fun _ hk => hk.2) (.int .i64 t372)) (fun _ hk => hk.2) (.int .i64 t373)) (fun _ hk => hk.2) (.slice Ao44 t374.length co44)) (fun _ hk => ⟨hk.1.1.1, ⟨hk.1.1.2, hk.1.2⟩⟩)⟩
       have n6_ : Aside0 (Kd.V (Kd.int .u8) 5 (((((((((w41.setCell ⟨gb378, 0, none⟩ (.string t366)).setCell ⟨gb378, 1, none⟩ (.string t367)).setCell ⟨gb378, 2, none⟩ (.string t368)).setCell ⟨gb378, 3, none⟩ (.int .u8 t369)).setCell ⟨gb378, 4, none⟩ (.int .i64 t370)).setCell ⟨gb378, 5, none⟩ (.int .i64 t371)).setCell ⟨gb378, 6, none⟩ (.int .i64 t372)).setCell ⟨gb378, 7, none⟩ (.int .i64 t373)).setCell ⟨gb378, 8, none⟩ (.slice Ao44 t374.length co44)) w.heap.size (fun k_ => ((P0_ k_ ∨ P1_ k_) ∨ w.heap.size ≤ k_) ∧ k_ ≠ gb364 ∧ k_ ≠ gb378) (.slice Ao44 t374.length co44) t374) := ⟨by (with_reducible repeat (first | apply Va_ | apply VN_ | apply V1_)); exact Kd.V_mono (Kd.V_far (p := ⟨gb378, 8, none⟩) (Kd.V_far (p := ⟨gb378, 7, none⟩) (Kd.V_far (p := ⟨gb378, 6, none⟩) (Kd.V_far (p := ⟨gb378, 5, none⟩) (Kd.V_far (p := ⟨gb378, 4, none⟩) (Kd.V_far (p := ⟨gb378, 3, none⟩) (Kd.V_far (p := ⟨gb378, 2, none⟩) (Kd.V_far (p := ⟨gb378, 1, none⟩) (Kd.V_far (p := ⟨gb378, 0, none⟩) (Kd.V_mono HO376.out (fun k_ hk => (⟨hk, hk.2⟩ : _ ∧ k_ ≠ gb378))) (fun _ hk => hk.2) (.string t366)) (fun _ hk => hk.2) (.string t367)) (fun _ hk => hk.2) (.string t368)) (fun _ hk => hk.2) (.int .u8 t369)) (fun _ hk => hk.2) (.int .i64 t370)) (fun _ hk => hk.2) (.int .i64 t371)) (fun _ hk => hk.2) (.int .i64 t372)) (fun _ hk => hk.2) (.int .i64 t373)) (fun _ hk => hk.2) (.slice Ao44 t374.length co44)) (fun _ hk => ⟨hk.1.1.1, ⟨hk.1.1.2, hk.1.2⟩⟩)⟩
       have n7_ : Aside0 ((((((((((w41.setCell ⟨gb378, 0, none⟩ (.string t366)).setCell ⟨gb378, 1, none⟩ (.string t367)).setCell ⟨gb378, 2, none⟩ (.string t368)).setCell ⟨gb378, 3, none⟩ (.int .u8 t369)).setCell ⟨gb378, 4, none⟩ (.int .i64 t370)).setCell ⟨gb378, 5, none⟩ (.int .i64 t371)).setCell ⟨gb378, 6, none⟩ (.int .i64 t372)).setCell ⟨gb378, 7, none⟩ (.int .i64 t373)).setCell ⟨gb378, 8, none⟩ (.slice Ao44 t374.length co44)).heap[gb364]? = some (.cells #[.string t352, .string t353, .string t354, .int .u8 t355, .int .i64 t356, .int .i64 t357, .int .i64 t358, .int .i64 t359, .slice Ao38 t360.length co38] 38 (0, 0))) := ⟨by (with_reducible repeat (first | refine blk_drewN ?_ _ | refine blk_drew ?_ | refine blk_alloc ?_ _)); refine blk_far ?_ NB364_378.out _; (with_reducible repeat (first | refine blk_drewN ?_ _ | refine blk_drew ?_ | refine blk_alloc ?_ _)); refine blk_far ?_ NB364_378.out _; (with_reducible repeat (first | refine blk_drewN ?_ _ | refine blk_drew ?_ | refine blk_alloc ?_ _)); refine blk_far ?_ NB364_378.out _; (with_reducible repeat (first | refine blk_drewN ?_ _ | refine blk_drew ?_ | refine blk_alloc ?_ _)); refine blk_far ?_ NB364_378.out _; (with_reducible repeat (first | refine blk_drewN ?_ _ | refine blk_drew ?_ | refine blk_alloc ?_ _)); refine blk_far ?_ NB364_378.out _; (with_reducible repeat (first | refine blk_drewN ?_ _ | refine blk_drew ?_ | refine blk_alloc ?_ _)); refine blk_far ?_ NB364_378.out _; (with_reducible repeat (first | refine blk_drewN ?_ _ | refine blk_drew ?_ | refine blk_alloc ?_ _)); refine blk_far ?_ NB364_378.out _; (with_reducible repeat (first | refine blk_drewN ?_ _ | refine blk_drew ?_ | refine blk_alloc ?_ _)); refine blk_far ?_ NB364_378.out _; (with_reducible repeat (first | refine blk_drewN ?_ _ | refine blk_drew ?_ | refine blk_alloc ?_ _)); refine blk_far ?_ NB364_378.out _; (with_reducible repeat (first | refine blk_drewN ?_ _ | refine blk_drew ?_ | refine blk_alloc ?_ _)); exact BK364.out⟩
       have n8_ : Aside0 ((((((((((w41.setCell ⟨gb378, 0, none⟩ (.string t366)).setCell ⟨gb378, 1, none⟩ (.string t367)).setCell ⟨gb378, 2, none⟩ (.string t368)).setCell ⟨gb378, 3, none⟩ (.int .u8 t369)).setCell ⟨gb378, 4, none⟩ (.int .i64 t370)).setCell ⟨gb378, 5, none⟩ (.int .i64 t371)).setCell ⟨gb378, 6, none⟩ (.int .i64 t372)).setCell ⟨gb378, 7, none⟩ (.int .i64 t373)).setCell ⟨gb378, 8, none⟩ (.slice Ao44 t374.length co44)).heap[gb378]? = some (.cells #[.string t366, .string t367, .string t368, .int .u8 t369, .int .i64 t370, .int .i64 t371, .int .i64 t372, .int .i64 t373, .slice Ao44 t374.length co44] 38 (0, 0))) := ⟨by (with_reducible repeat (first | refine blk_drewN ?_ _ | refine blk_drew ?_ | refine blk_alloc ?_ _)); refine blk_put (cs := #[.string t366, .string t367, .string t368, .int .u8 t369, .int .i64 t370, .int .i64 t371, .int .i64 t372, .int .i64 t373, .slice none 0 0]) ?_ 8 _ rfl; (with_reducible repeat (first | refine blk_drewN ?_ _ | refine blk_drew ?_ | refine blk_alloc ?_ _)); refine blk_put (cs := #[.string t366, .string t367, .string t368, .int .u8 t369, .int .i64 t370, .int .i64 t371, .int .i64 t372, .int .i64 0, .slice none 0 0]) ?_ 7 _ rfl; (with_reducible repeat (first | refine blk_drewN ?_ _ | refine blk_drew ?_ | refine blk_alloc ?_ _)); refine blk_put (cs := #[.string t366, .string t367, .string t368, .int .u8 t369, .int .i64 t370, .int .i64 t371, .int .i64 0, .int .i64 0, .slice none 0 0]) ?_ 6 _ rfl; (with_reducible repeat (first | refine blk_drewN ?_ _ | refine blk_drew ?_ | refine blk_alloc ?_ _)); refine blk_put (cs := #[.string t366, .string t367, .string t368, .int .u8 t369, .int .i64 t370, .int .i64 0, .int .i64 0, .int .i64 0, .slice none 0 0]) ?_ 5 _ rfl; (with_reducible repeat (first | refine blk_drewN ?_ _ | refine blk_drew ?_ | refine blk_alloc ?_ _)); refine blk_put (cs := #[.string t366, .string t367, .string t368, .int .u8 t369, .int .i64 0, .int .i64 0, .int .i64 0, .int .i64 0, .slice none 0 0]) ?_ 4 _ rfl; (with_reducible repeat (first | refine blk_drewN ?_ _ | refine blk_drew ?_ | refine blk_alloc ?_ _)); refine blk_put (cs := #[.string t366, .string t367, .string t368, .int .u8 0, .int .i64 0, .int .i64 0, .int .i64 0, .int .i64 0, .slice none 0 0]) ?_ 3 _ rfl; (with_reducible repeat (first | refine blk_drewN ?_ _ | refine blk_drew ?_ | refine blk_alloc ?_ _)); refine blk_put (cs := #[.string t366, .string t367, .string (⟨#[]⟩ : ByteArray), .int .u8 0, .int .i64 0, .int .i64 0, .int .i64 0, .int .i64 0, .slice none 0 0]) ?_ 2 _ rfl; (with_reducible repeat (first | refine blk_drewN ?_ _ | refine blk_drew ?_ | refine blk_alloc ?_ _)); refine blk_put (cs := #[.string t366, .string (⟨#[]⟩ : ByteArray), .string (⟨#[]⟩ : ByteArray), .int .u8 0, .int .i64 0, .int .i64 0, .int .i64 0, .int .i64 0, .slice none 0 0]) ?_ 1 _ rfl; (with_reducible repeat (first | refine blk_drewN ?_ _ | refine blk_drew ?_ | refine blk_alloc ?_ _)); refine blk_put (cs := #[.string (⟨#[]⟩ : ByteArray), .string (⟨#[]⟩ : ByteArray), .string (⟨#[]⟩ : ByteArray), .int .u8 0, .int .i64 0, .int .i64 0, .int .i64 0, .int .i64 0, .slice none 0 0]) ?_ 0 _ rfl; (with_reducible repeat (first | refine blk_drewN ?_ _ | refine blk_drew ?_ | refine blk_alloc ?_ _)); exact BK378.out⟩
       have n9_ : Aside0 (Below w.heap.size w (((((((((w41.setCell ⟨gb378, 0, none⟩ (.string t366)).setCell ⟨gb378, 1, none⟩ (.string t367)).setCell ⟨gb378, 2, none⟩ (.string t368)).setCell ⟨gb378, 3, none⟩ (.int .u8 t369)).setCell ⟨gb378, 4, none⟩ (.int .i64 t370)).setCell ⟨gb378, 5, none⟩ (.int .i64 t371)).setCell ⟨gb378, 6, none⟩ (.int .i64 t372)).setCell ⟨gb378, 7, none⟩ (.int .i64 t373)).setCell ⟨gb378, 8, none⟩ (.slice Ao44 t374.length co44))) := ⟨wb2_ HB.out GE364.out GE378.out⟩
       (try clear HO_0)
       (try clear HO_1)
       (try clear HO_5)
       (try clear HL351_8)
       (try clear HO362)
       (try clear HL365_8)
       (try clear HO376)
       (try clear BK364)
       (try clear BK378)
       (try clear HB)
       generalize (((((((((w41.setCell ⟨gb378, 0, none⟩ (.string t366)).setCell ⟨gb378, 1, none⟩ (.string t367)).setCell ⟨gb378, 2, none⟩ (.string t368)).setCell ⟨gb378, 3, none⟩ (.int .u8 t369)).setCell ⟨gb378, 4, none⟩ (.int .i64 t370)).setCell ⟨gb378, 5, none⟩ (.int .i64 t371)).setCell ⟨gb378, 6, none⟩ (.int .i64 t372)).setCell ⟨gb378, 7, none⟩ (.int .i64 t373)).setCell ⟨gb378, 8, none⟩ (.slice Ao44 t374.length co44)) = w53 at n0_ n1_ n2_ n3_ n4_ n5_ n6_ n7_ n8_ n9_ ⊢
       have HO_0 := n0_
       have HO_1 := n1_
       have HO_5 := n2_
       have HL351_8 := n3_
       have HO362 := n4_
       have HL365_8 := n5_
       have HO376 := n6_
       have BK364 := n7_
       have BK378 := n8_
       have HB := n9_
       clear n0_ n1_ n2_ n3_ n4_ n5_ n6_ n7_ n8_ n9_
       have n0_ := A0_ (V1_ HO_0.out)
       have n1_ := A0_ (V1_ HO_1.out)
       have n2_ := A0_ (V1_ HO_5.out)
       have n3_ := A0_ (V1_ HL351_8.out)
       have n4_ := A0_ (V1_ HO362.out)
       have n5_ := A0_ (V1_ HL365_8.out)
       have n6_ := A0_ (V1_ HO376.out)
       have n7_ := A0_ (blk_drew BK364.out)
       have n8_ := A0_ (blk_drew BK378.out)
       have n9_ := A0_ (b1_ HB.out)
       clear HO_0
       clear HO_1
       clear HO_5
       clear HL351_8
       clear HO362
       clear HL365_8
       clear HO376
       clear BK364
       clear BK378
       clear HB
       have HO_0 := n0_
       have HO_1 := n1_
       have HO_5 := n2_
       have HL351_8 := n3_
       have HO362 := n4_
       have HL365_8 := n5_
       have HO376 := n6_
       have BK364 := n7_
       have BK378 := n8_
       have HB := n9_
       clear n0_ n1_ n2_ n3_ n4_ n5_ n6_ n7_ n8_ n9_
       refine start_ (n := 15) (S := fun w' => True) (ds := []) q6_15 (by kernel_rfl) rfl rfl trivial (fun hHeld => ?_); refine with_tabW bindlelaw19_UnionLast.tab10 bindlelaw19_UnionLast.bits10 (fun HT_ HW_ => ?_)
       generalize w53.drew = w54 at HO_0 HO_1 HO_5 HL351_8 HO362 HL365_8 HO376 BK364 BK378 HB hHeld ⊢
       refine pur_ (i := 0) (N := some 67) q6_16 (any_of HT_.out (by kernel_rfl)) ?_
       refine pur_ (i := 1) (N := some 68) q6_17 (any_of HT_.out (by kernel_rfl)) ?_
       refine pur_ (i := 2) (N := some 69) q6_18 (any_of HT_.out (by kernel_rfl)) ?_
       refine puu_ (i := 3) (N := some 70) q6_19 (any_of HT_.out (by kernel_rfl)) ?_
       refine puu_ (i := 4) (N := some 71) q6_20 (any_of HT_.out (by kernel_rfl)) ?_
       refine puu_ (i := 5) (N := some 72) q6_21 (any_of HT_.out (by kernel_rfl)) ?_
       refine puu_ (i := 6) (N := some 73) q6_22 (any_of HT_.out (by kernel_rfl)) ?_
       refine puu_ (i := 7) (N := some 74) q6_23 (any_of HT_.out (by kernel_rfl)) ?_
       refine puu_ (i := 8) (N := some 75) q6_24 (any_of HT_.out (by kernel_rfl)) ?_
       refine puu_ (i := 9) (N := some 76) q6_25 (any_of HT_.out (by kernel_rfl)) ?_
       refine puu_ (i := 10) (N := some 77) q6_26 (any_of HT_.out (by kernel_rfl)) ?_
       refine puu_ (i := 11) (N := some 78) q6_27 (any_of HT_.out (by kernel_rfl)) ?_
       refine puu_ (i := 12) (N := some 79) q6_28 (any_of HT_.out (by kernel_rfl)) ?_
       refine puu_ (i := 13) (N := some 80) q6_29 (any_of HT_.out (by kernel_rfl)) ?_
       refine pur_ (i := 14) (N := some 81) q6_30 (any_of HT_.out (by kernel_rfl)) ?_
       refine done_ (done_of HT_.out (by kernel_rfl)) ?_
       try go_wp2
       go_meet
       case rel => exact ⟨_, (true), wr_, H', ⟨by have := HJ2.out; have := HK2.out; first | omega | exact Nat.le_refl _⟩, ⟨wV_ HO_0.out⟩, ⟨wV_ HO_1.out⟩, ⟨wV_ HO_5.out⟩, ⟨wV_ HO362.out⟩, ⟨wV_ HO376.out⟩, ⟨wB_ BK364.out⟩, ⟨wB_ BK378.out⟩, ⟨wb2_ HB.out GE364.out GE378.out⟩⟩
      subst c45
      have H1 : (if t377 = true then (bindlelaw19_UnionLast.j2 k2 l0 l1 t347 x7_2 x8_2 t377 false) else ((bindleref08_Equal.f t352 t353 t354 t355 t356 t357 t358 t359 t360 ((rd_T38 l0 x8_2).f0) ((rd_T38 l0 x8_2).f1) ((rd_T38 l0 x8_2).f2) ((rd_T38 l0 x8_2).f3) ((rd_T38 l0 x8_2).f4.f0) ((rd_T38 l0 x8_2).f4.f1) ((rd_T38 l0 x8_2).f4.f2) ((rd_T38 l0 x8_2).f4.f3) ((rd_T38 l0 x8_2).f5)).bind fun t380 => (bindlelaw19_UnionLast.j2 k2 l0 l1 t347 x7_2 x8_2 t377 (!t380)))) = some r := by rw [if_pos rfl] at H; exact H
      clear H
      have H := H1
      clear H1
      by_cases c46 : t377 = true
      ·subst c46
       have H1 : (bindlelaw19_UnionLast.j2 k2 l0 l1 t347 x7_2 x8_2 true false) = some r := by rw [if_pos rfl] at H; exact H
       clear H
       have H := H1
       clear H1
       have H' := A0_ H
       clear H
       try go_wp2
       have n0_ : Aside0 (Kd.V k38 38 (((((((((w41.setCell ⟨gb378, 0, none⟩ (.string t366)).setCell ⟨gb378, 1, none⟩ (.string t367)).setCell ⟨gb378, 2, none⟩ (.string t368)).setCell ⟨gb378, 3, none⟩ (.int .u8 t369)).setCell ⟨gb378, 4, none⟩ (.int .i64 t370)).setCell ⟨gb378, 5, none⟩ (.int .i64 t371)).setCell ⟨gb378, 6, none⟩ (.int .i64 t372)).setCell ⟨gb378, 7, none⟩ (.int .i64 t373)).setCell ⟨gb378, 8, none⟩ (.slice Ao44 t374.length co44)) w.heap.size (fun k_ => ((P0_ k_ ∨ P1_ k_) ∨ w.heap.size ≤ k_) ∧ k_ ≠ gb364 ∧ k_ ≠ gb378) (.slice (some ad351) l0.length c0) l0) := ⟨by (with_reducible repeat (first | apply Va_ | apply VN_ | apply V1_)); exact Kd.V_mono (Kd.V_far (p := ⟨gb378, 8, none⟩) (Kd.V_far (p := ⟨gb378, 7, none⟩) (Kd.V_far (p := ⟨gb378, 6, none⟩) (Kd.V_far (p := ⟨gb378, 5, none⟩) (Kd.V_far (p := ⟨gb378, 4, none⟩) (Kd.V_far (p := ⟨gb378, 3, none⟩) (Kd.V_far (p := ⟨gb378, 2, none⟩) (Kd.V_far (p := ⟨gb378, 1, none⟩) (Kd.V_far (p := ⟨gb378, 0, none⟩) (Kd.V_mono HO_0.out (fun k_ hk => (⟨hk, hk.2⟩ : _ ∧ k_ ≠ gb378))) (fun _ hk => hk.2) (.string t366)) (fun _ hk => hk.2) (.string t367)) (fun _ hk => hk.2) (.string t368)) (fun _ hk => hk.2) (.int .u8 t369)) (fun _ hk => hk.2) (.int .i64 t370)) (fun _ hk => hk.2) (.int .i64 t371)) (fun _ hk => hk.2) (.int .i64 t372)) (fun _ hk => hk.2) (.int .i64 t373)) (fun _ hk => hk.2) (.slice Ao44 t374.length co44)) (fun _ hk => ⟨hk.1.1.1, ⟨hk.1.1.2, hk.1.2⟩⟩)⟩
       have n1_ : Aside0 (Kd.V k38 38 (((((((((w41.setCell ⟨gb378, 0, none⟩ (.string t366)).setCell ⟨gb378, 1, none⟩ (.string t367)).setCell ⟨gb378, 2, none⟩ (.string t368)).setCell ⟨gb378, 3, none⟩ (.int .u8 t369)).setCell ⟨gb378, 4, none⟩ (.int .i64 t370)).setCell ⟨gb378, 5, none⟩ (.int .i64 t371)).setCell ⟨gb378, 6, none⟩ (.int .i64 t372)).setCell ⟨gb378, 7, none⟩ (.int .i64 t373)).setCell ⟨gb378, 8, none⟩ (.slice Ao44 t374.length co44)) w.heap.size (fun k_ => ((P0_ k_ ∨ P1_ k_) ∨ w.heap.size ≤ k_) ∧ k_ ≠ gb364 ∧ k_ ≠ gb378) (.slice A1 l1.length c1) l1) := ⟨by (with_reducible repeat (first | apply Va_ | apply VN_ | apply V1_)); exact Kd.V_mono (Kd.V_far (p := ⟨gb378, 8, none⟩) (Kd.V_far (p := ⟨gb378, 7, none⟩) (Kd.V_far (p := ⟨gb378, 6, none⟩) (Kd.V_far (p := ⟨gb378, 5, none⟩) (Kd.V_far (p := ⟨gb378, 4, none⟩) (Kd.V_far (p := ⟨gb378, 3, none⟩) (Kd.V_far (p := ⟨gb378, 2, none⟩) (Kd.V_far (p := ⟨gb378, 1, none⟩) (Kd.V_far (p := ⟨gb378, 0, none⟩) (Kd.V_mono HO_1.out (fun k_ hk => (⟨hk, hk.2⟩ : _ ∧ k_ ≠ gb378))) (fun _ hk => hk.2) (.string t366)) (fun _ hk => hk.2) (.string t367)) (fun _ hk => hk.2) (.string t368)) (fun _ hk => hk.2) (.int .u8 t369)) (fun _ hk => hk.2) (.int .i64 t370)) (fun _ hk => hk.2) (.int .i64 t371)) (fun _ hk => hk.2) (.int .i64 t372)) (fun _ hk => hk.2) (.int .i64 t373)) (fun _ hk => hk.2) (.slice Ao44 t374.length co44)) (fun _ hk => ⟨hk.1.1.1, ⟨hk.1.1.2, hk.1.2⟩⟩)⟩
       have n2_ : Aside0 (Kd.V k38 38 (((((((((w41.setCell ⟨gb378, 0, none⟩ (.string t366)).setCell ⟨gb378, 1, none⟩ (.string t367)).setCell ⟨gb378, 2, none⟩ (.string t368)).setCell ⟨gb378, 3, none⟩ (.int .u8 t369)).setCell ⟨gb378, 4, none⟩ (.int .i64 t370)).setCell ⟨gb378, 5, none⟩ (.int .i64 t371)).setCell ⟨gb378, 6, none⟩ (.int .i64 t372)).setCell ⟨gb378, 7, none⟩ (.int .i64 t373)).setCell ⟨gb378, 8, none⟩ (.slice Ao44 t374.length co44)) w.heap.size (fun k_ => ((P0_ k_ ∨ P1_ k_) ∨ w.heap.size ≤ k_) ∧ k_ ≠ gb364 ∧ k_ ≠ gb378) (.slice Ao34 t347.length co34) t347) := ⟨by (with_reducible repeat (first | apply Va_ | apply VN_ | apply V1_)); exact Kd.V_mono (Kd.V_far (p := ⟨gb378, 8, none⟩) (Kd.V_far (p := ⟨gb378, 7, none⟩) (Kd.V_far (p := ⟨gb378, 6, none⟩) (Kd.V_far (p := ⟨gb378, 5, none⟩) (Kd.V_far (p := ⟨gb378, 4, none⟩) (Kd.V_far (p := ⟨gb378, 3, none⟩) (Kd.V_far (p := ⟨gb378, 2, none⟩) (Kd.V_far (p := ⟨gb378, 1, none⟩) (Kd.V_far (p := ⟨gb378, 0, none⟩) (Kd.V_mono HO_5.out (fun k_ hk => (⟨hk, hk.2⟩ : _ ∧ k_ ≠ gb378))) (fun _ hk => hk.2) (.string t366)) (fun _ hk => hk.2) (.string t367)) (fun _ hk => hk.2) (.string t368)) (fun _ hk => hk.2) (.int .u8 t369)) (fun _ hk => hk.2) (.int .i64 t370)) (fun _ hk => hk.2) (.int .i64 t371)) (fun _ hk => hk.2) (.int .i64 t372)) (fun _ hk => hk.2) (.int .i64 t373)) (fun _ hk => hk.2) (.slice Ao44 t374.length co44)) (fun _ hk => ⟨hk.1.1.1, ⟨hk.1.1.2, hk.1.2⟩⟩)⟩
       have n3_ : Aside0 (Kd.V (Kd.int .u8) 5 (((((((((w41.setCell ⟨gb378, 0, none⟩ (.string t366)).setCell ⟨gb378, 1, none⟩ (.string t367)).setCell ⟨gb378, 2, none⟩ (.string t368)).setCell ⟨gb378, 3, none⟩ (.int .u8 t369)).setCell ⟨gb378, 4, none⟩ (.int .i64 t370)).setCell ⟨gb378, 5, none⟩ (.int .i64 t371)).setCell ⟨gb378, 6, none⟩ (.int .i64 t372)).setCell ⟨gb378, 7, none⟩ (.int .i64 t373)).setCell ⟨gb378, 8, none⟩ (.slice Ao44 t374.length co44)) w.heap.size (fun k_ => ((P0_ k_ ∨ P1_ k_) ∨ w.heap.size ≤ k_) ∧ k_ ≠ gb364 ∧ k_ ≠ gb378) (.slice A351_8 ((rd_T38 l0 x8_2).f5).length c351_8) ((rd_T38 l0 x8_2).f5)) := ⟨by (with_reducible repeat (first | apply Va_ | apply VN_ | apply V1_)); exact Kd.V_mono (Kd.V_far (p := ⟨gb378, 8, none⟩) (Kd.V_far (p := ⟨gb378, 7, none⟩) (Kd.V_far (p := ⟨gb378, 6, none⟩) (Kd.V_far (p := ⟨gb378, 5, none⟩) (Kd.V_far (p := ⟨gb378, 4, none⟩) (Kd.V_far (p := ⟨gb378, 3, none⟩) (Kd.V_far (p := ⟨gb378, 2, none⟩) (Kd.V_far (p := ⟨gb378, 1, none⟩) (Kd.V_far (p := ⟨gb378, 0, none⟩) (Kd.V_mono HL351_8.out (fun k_ hk => (⟨hk, hk.2⟩ : _ ∧ k_ ≠ gb378))) (fun _ hk => hk.2) (.string t366)) (fun _ hk => hk.2) (.string t367)) (fun _ hk => hk.2) (.string t368)) (fun _ hk => hk.2) (.int .u8 t369)) (fun _ hk => hk.2) (.int .i64 t370)) (fun _ hk => hk.2) (.int .i64 t371)) (fun _ hk => hk.2) (.int .i64 t372)) (fun _ hk => hk.2) (.int .i64 t373)) (fun _ hk => hk.2) (.slice Ao44 t374.length co44)) (fun _ hk => ⟨hk.1.1.1, ⟨hk.1.1.2, hk.1.2⟩⟩)⟩
       have n4_ : Aside0 (Kd.V (Kd.int .u8) 5 (((((((((w41.setCell ⟨gb378, 0, none⟩ (.string t366)).setCell ⟨gb378, 1, none⟩ (.string t367)).setCell ⟨gb378, 2, none⟩ (.string t368)).setCell ⟨gb378, 3, none⟩ (.int .u8 t369)).setCell ⟨gb378, 4, none⟩ (.int .i64 t370)).setCell ⟨gb378, 5, none⟩ (.int .i64 t371)).setCell ⟨gb378, 6, none⟩ (.int .i64 t372)).setCell ⟨gb378, 7, none⟩ (.int .i64 t373)).setCell ⟨gb378, 8, none⟩ (.slice Ao44 t374.length co44)) w.heap.size (fun k_ => ((P0_ k_ ∨ P1_ k_) ∨ w.heap.size ≤ k_) ∧ k_ ≠ gb364 ∧ k_ ≠ gb378) (.slice Ao38 t360.length co38) t360) := ⟨by (with_reducible repeat (first | apply Va_ | apply VN_ | apply V1_)); exact Kd.V_mono (Kd.V_far (p := ⟨gb378, 8, none⟩) (Kd.V_far (p := ⟨gb378, 7, none⟩) (Kd.V_far (p := ⟨gb378, 6, none⟩) (Kd.V_far (p := ⟨gb378, 5, none⟩) (Kd.V_far (p := ⟨gb378, 4, none⟩) (Kd.V_far (p := ⟨gb378, 3, none⟩) (Kd.V_far (p := ⟨gb378, 2, none⟩) (Kd.V_far (p := ⟨gb378, 1, none⟩) (Kd.V_far (p := ⟨gb378, 0, none⟩) (Kd.V_mono HO362.out (fun k_ hk => (⟨hk, hk.2⟩ : _ ∧ k_ ≠ gb378))) (fun _ hk => hk.2) (.string t366)) (fun _ hk => hk.2) (.string t367)) (fun _ hk => hk.2) (.string t368)) (fun _ hk => hk.2) (.int .u8 t369)) (fun _ hk => hk.2) (.int .i64 t370)) (fun _ hk => hk.2) (.int .i64 t371)) (fun _ hk => hk.2) (.int .i64 t372)) (fun _ hk => hk.2) (.int .i64 t373)) (fun _ hk => hk.2) (.slice Ao44 t374.length co44)) (fun _ hk => ⟨hk.1.1.1, ⟨hk.1.1.2, hk.1.2⟩⟩)⟩
       have n5_ : Aside0 (Kd.V (Kd.int .u8) 5 (((((((((w41.setCell ⟨gb378, 0, none⟩ (.string t366)).setCell ⟨gb378, 1, none⟩ (.string t367)).setCell ⟨gb378, 2, none⟩ (.string t368)).setCell ⟨gb378, 3, none⟩ (.int .u8 t369)).setCell ⟨gb378, 4, none⟩ (.int .i64 t370)).setCell ⟨gb378, 5, none⟩ (.int .i64 t371)).setCell ⟨gb378, 6, none⟩ (.int .i64 t372)).setCell ⟨gb378, 7, none⟩ (.int .i64 t373)).setCell ⟨gb378, 8, none⟩ (.slice Ao44 t374.length co44)) w.heap.size (fun k_ => ((P0_ k_ ∨ P1_ k_) ∨ w.heap.size ≤ k_) ∧ k_ ≠ gb364 ∧ k_ ≠ gb378) (.slice A365_8 ((rd_T38 l0 x8_2).f5).length c365_8) ((rd_T38 l0 x8_2).f5)) := ⟨by (with_reducible repeat (first | apply Va_ | apply VN_ | apply V1_)); exact Kd.V_mono (Kd.V_far (p := ⟨gb378, 8, none⟩) (Kd.V_far (p := ⟨gb378, 7, none⟩) (Kd.V_far (p := ⟨gb378, 6, none⟩) (Kd.V_far (p := ⟨gb378, 5, none⟩) (Kd.V_far (p := ⟨gb378, 4, none⟩) (Kd.V_far (p := ⟨gb378, 3, none⟩) (Kd.V_far (p := ⟨gb378, 2, none⟩) (Kd.V_far (p := ⟨gb378, 1, none⟩) (Kd.V_far (p := ⟨gb378, 0, none⟩) (Kd.V_mono HL365_8.out (fun k_ hk => (⟨hk, hk.2⟩ : _ ∧ k_ ≠ gb378))) (fun _ hk => hk.2) (.string t366)) (fun _ hk => hk.2) (.string t367)) (fun _ hk => hk.2) (.string t368)) (fun _ hk => hk.2) (.int .u8 t369)) (fun _ hk => hk.2) (.int .i64 t370)) (fun _ hk => hk.2) (.int .i64 t371)) (fun _ hk => hk.2) (.int .i64 t372)) (fun _ hk => hk.2) (.int .i64 t373)) (fun _ hk => hk.2) (.slice Ao44 t374.length co44)) (fun _ hk => ⟨hk.1.1.1, ⟨hk.1.1.2, hk.1.2⟩⟩)⟩
       have n6_ : Aside0 (Kd.V (Kd.int .u8) 5 (((((((((w41.setCell ⟨gb378, 0, none⟩ (.string t366)).setCell ⟨gb378, 1, none⟩ (.string t367)).setCell ⟨gb378, 2, none⟩ (.string t368)).setCell ⟨gb378, 3, none⟩ (.int .u8 t369)).setCell ⟨gb378, 4, none⟩ (.int .i64 t370)).setCell ⟨gb378, 5, none⟩ (.int .i64 t371)).setCell ⟨gb378, 6, none⟩ (.int .i64 t372)).setCell ⟨gb378, 7, none⟩ (.int .i64 t373)).setCell ⟨gb378, 8, none⟩ (.slice Ao44 t374.length co44)) w.heap.size (fun k_ => ((P0_ k_ ∨ P1_ k_) ∨ w.heap.size ≤ k_) ∧ k_ ≠ gb364 ∧ k_ ≠ gb378) (.slice Ao44 t374.length co44) t374) := ⟨by (with_reducible repeat (first | apply Va_ | apply VN_ | apply V1_)); exact Kd.V_mono (Kd.V_far (p := ⟨gb378, 8, none⟩) (Kd.V_far (p := ⟨gb378, 7, none⟩) (Kd.V_far (p := ⟨gb378, 6, none⟩) (Kd.V_far (p := ⟨gb378, 5, none⟩) (Kd.V_far (p := ⟨gb378, 4, none⟩) (Kd.V_far (p := ⟨gb378, 3, none⟩) (Kd.V_far (p := ⟨gb378, 2, none⟩) (Kd.V_far (p := ⟨gb378, 1, none⟩) (Kd.V_far (p := ⟨gb378, 0, none⟩) (Kd.V_mono HO376.out (fun k_ hk => (⟨hk, hk.2⟩ : _ ∧ k_ ≠ gb378))) (fun _ hk => hk.2) (.string t366)) (fun _ hk => hk.2) (.string t367)) (fun _ hk => hk.2) (.string t368)) (fun _ hk => hk.2) (.int .u8 t369)) (fun _ hk => hk.2) (.int .i64 t370)) (fun _ hk => hk.2) (.int .i64 t371)) (fun _ hk => hk.2) (.int .i64 t372)) (fun _ hk => hk.2) (.int .i64 t373)) (fun _ hk => hk.2) (.slice Ao44 t374.length co44)) (fun _ hk => ⟨hk.1.1.1, ⟨hk.1.1.2, hk.1.2⟩⟩)⟩
       have n7_ : Aside0 ((((((((((w41.setCell ⟨gb378, 0, none⟩ (.string t366)).setCell ⟨gb378, 1, none⟩ (.string t367)).setCell ⟨gb378, 2, none⟩ (.string t368)).setCell ⟨gb378, 3, none⟩ (.int .u8 t369)).setCell ⟨gb378, 4, none⟩ (.int .i64 t370)).setCell ⟨gb378, 5, none⟩ (.int .i64 t371)).setCell ⟨gb378, 6, none⟩ (.int .i64 t372)).setCell ⟨gb378, 7, none⟩ (.int .i64 t373)).setCell ⟨gb378, 8, none⟩ (.slice Ao44 t374.length co44)).heap[gb364]? = some (.cells #[.string t352, .string t353, .string t354, .int .u8 t355, .int .i64 t356, .int .i64 t357, .int .i64 t358, .int .i64 t359, .slice Ao38 t360.length co38] 38 (0, 0))) := ⟨by (with_reducible repeat (first | refine blk_drewN ?_ _ | refine blk_drew ?_ | refine blk_alloc ?_ _)); refine blk_far ?_ NB364_378.out _; (with_reducible repeat (first | refine blk_drewN ?_ _ | refine blk_drew ?_ | refine blk_alloc ?_ _)); refine blk_far ?_ NB364_378.out _; (with_reducible repeat (first | refine blk_drewN ?_ _ | refine blk_drew ?_ | refine blk_alloc ?_ _)); refine blk_far ?_ NB364_378.out _; (with_reducible repeat (first | refine blk_drewN ?_ _ | refine blk_drew ?_ | refine blk_alloc ?_ _)); refine blk_far ?_ NB364_378.out _; (with_reducible repeat (first | refine blk_drewN ?_ _ | refine blk_drew ?_ | refine blk_alloc ?_ _)); refine blk_far ?_ NB364_378.out _; (with_reducible repeat (first | refine blk_drewN ?_ _ | refine blk_drew ?_ | refine blk_alloc ?_ _)); refine blk_far ?_ NB364_378.out _; (with_reducible repeat (first | refine blk_drewN ?_ _ | refine blk_drew ?_ | refine blk_alloc ?_ _)); refine blk_far ?_ NB364_378.out _; (with_reducible repeat (first | refine blk_drewN ?_ _ | refine blk_drew ?_ | refine blk_alloc ?_ _)); refine blk_far ?_ NB364_378.out _; (with_reducible repeat (first | refine blk_drewN ?_ _ | refine blk_drew ?_ | refine blk_alloc ?_ _)); refine blk_far ?_ NB364_378.out _; (with_reducible repeat (first | refine blk_drewN ?_ _ | refine blk_drew ?_ | refine blk_alloc ?_ _)); exact BK364.out⟩
       have n8_ : Aside0 ((((((((((w41.setCell ⟨gb378, 0, none⟩ (.string t366)).setCell ⟨gb378, 1, none⟩ (.string t367)).setCell ⟨gb378, 2, none⟩ (.string t368)).setCell ⟨gb378, 3, none⟩ (.int .u8 t369)).setCell ⟨gb378, 4, none⟩ (.int .i64 t370)).setCell ⟨gb378, 5, none⟩ (.int .i64 t371)).setCell ⟨gb378, 6, none⟩ (.int .i64 t372)).setCell ⟨gb378, 7, none⟩ (.int .i64 t373)).setCell ⟨gb378, 8, none⟩ (.slice Ao44 t374.length co44)).heap[gb378]? = some (.cells #[.string t366, .string t367, .string t368, .int .u8 t369, .int .i64 t370, .int .i64 t371, .int .i64 t372, .int .i64 t373, .slice Ao44 t374.length co44] 38 (0, 0))) := ⟨by (with_reducible repeat (first | refine blk_drewN ?_ _ | refine blk_drew ?_ | refine blk_alloc ?_ _)); refine blk_put (cs := #[.string t366, .string t367, .string t368, .int .u8 t369, .int .i64 t370, .int .i64 t371, .int .i64 t372, .int .i64 t373, .slice none 0 0]) ?_ 8 _ rfl; (with_reducible repeat (first | refine blk_drewN ?_ _ | refine blk_drew ?_ | refine blk_alloc ?_ _)); refine blk_put (cs := #[.string t366, .string t367, .string t368, .int .u8 t369, .int .i64 t370, .int .i64 t371, .int .i64 t372, .int .i64 0, .slice none 0 0]) ?_ 7 _ rfl; (with_reducible repeat (first | refine blk_drewN ?_ _ | refine blk_drew ?_ | refine blk_alloc ?_ _)); refine blk_put (cs := #[.string t366, .string t367, .string t368, .int .u8 t369, .int .i64 t370, .int .i64 t371, .int .i64 0, .int .i64 0, .slice none 0 0]) ?_ 6 _ rfl; (with_reducible repeat (first | refine blk_drewN ?_ _ | refine blk_drew ?_ | refine blk_alloc ?_ _)); refine blk_put (cs := #[.string t366, .string t367, .string t368, .int .u8 t369, .int .i64 t370, .int .i64 0, .int .i64 0, .int .i64 0, .slice none 0 0]) ?_ 5 _ rfl; (with_reducible repeat (first | refine blk_drewN ?_ _ | refine blk_drew ?_ | refine blk_alloc ?_ _)); refine blk_put (cs := #[.string t366, .string t367, .string t368, .int .u8 t369, .int .i64 0, .int .i64 0, .int .i64 0, .int .i64 0, .slice none 0 0]) ?_ 4 _ rfl; (with_reducible repeat (first | refine blk_drewN ?_ _ | refine blk_drew ?_ | refine blk_alloc ?_ _)); refine blk_put (cs := #[.string t366, .string t367, .string t368, .int .u8 0, .int .i64 0, .int .i64 0, .int .i64 0, .int .i64 0, .slice none 0 0]) ?_ 3 _ rfl; (with_reducible repeat (first | refine blk_drewN ?_ _ | refine blk_drew ?_ | refine blk_alloc ?_ _)); refine blk_put (cs := #[.string t366, .string t367, .string (⟨#[]⟩ : ByteArray), .int .u8 0, .int .i64 0, .int .i64 0, .int .i64 0, .int .i64 0, .slice none 0 0]) ?_ 2 _ rfl; (with_reducible repeat (first | refine blk_drewN ?_ _ | refine blk_drew ?_ | refine blk_alloc ?_ _)); refine blk_put (cs := #[.string t366, .string (⟨#[]⟩ : ByteArray), .string (⟨#[]⟩ : ByteArray), .int .u8 0, .int .i64 0, .int .i64 0, .int .i64 0, .int .i64 0, .slice none 0 0]) ?_ 1 _ rfl; (with_reducible repeat (first | refine blk_drewN ?_ _ | refine blk_drew ?_ | refine blk_alloc ?_ _)); refine blk_put (cs := #[.string (⟨#[]⟩ : ByteArray), .string (⟨#[]⟩ : ByteArray), .string (⟨#[]⟩ : ByteArray), .int .u8 0, .int .i64 0, .int .i64 0, .int .i64 0, .int .i64 0, .slice none 0 0]) ?_ 0 _ rfl; (with_reducible repeat (first | refine blk_drewN ?_ _ | refine blk_drew ?_ | refine blk_alloc ?_ _)); exact BK378.out⟩
       have n9_ : Aside0 (Below w.heap.size w (((((((((w41.setCell ⟨gb378, 0, none⟩ (.string t366)).setCell ⟨gb378, 1, none⟩ (.string t367)).setCell ⟨gb378, 2, none⟩ (.string t368)).setCell ⟨gb378, 3, none⟩ (.int .u8 t369)).setCell ⟨gb378, 4, none⟩ (.int .i64 t370)).setCell ⟨gb378, 5, none⟩ (.int .i64 t371)).setCell ⟨gb378, 6, none⟩ (.int .i64 t372)).setCell ⟨gb378, 7, none⟩ (.int .i64 t373)).setCell ⟨gb378, 8, none⟩ (.slice Ao44 t374.length co44))) := ⟨wb2_ HB.out GE364.out GE378.out⟩
       (try clear HO_0)
       (try clear HO_1)
       (try clear HO_5)
       (try clear HL351_8)
       (try clear HO362)
       (try clear HL365_8)
       (try clear HO376)
       (try clear BK364)
       (try clear BK378)
       (try clear HB)
       generalize (((((((((w41.setCell ⟨gb378, 0, none⟩ (.string t366)).setCell ⟨gb378, 1, none⟩ (.string t367)).setCell ⟨gb378, 2, none⟩ (.string t368)).setCell ⟨gb378, 3, none⟩ (.int .u8 t369)).setCell ⟨gb378, 4, none⟩ (.int .i64 t370)).setCell ⟨gb378, 5, none⟩ (.int .i64 t371)).setCell ⟨gb378, 6, none⟩ (.int .i64 t372)).setCell ⟨gb378, 7, none⟩ (.int .i64 t373)).setCell ⟨gb378, 8, none⟩ (.slice Ao44 t374.length co44)) = w47 at n0_ n1_ n2_ n3_ n4_ n5_ n6_ n7_ n8_ n9_ ⊢
       have HO_0 := n0_
       have HO_1 := n1_
       have HO_5 := n2_
       have HL351_8 := n3_
       have HO362 := n4_
       have HL365_8 := n5_
       have HO376 := n6_
       have BK364 := n7_
       have BK378 := n8_
       have HB := n9_
       clear n0_ n1_ n2_ n3_ n4_ n5_ n6_ n7_ n8_ n9_
       have n0_ := A0_ (V1_ HO_0.out)
       have n1_ := A0_ (V1_ HO_1.out)
       have n2_ := A0_ (V1_ HO_5.out)
       have n3_ := A0_ (V1_ HL351_8.out)
       have n4_ := A0_ (V1_ HO362.out)
       have n5_ := A0_ (V1_ HL365_8.out)
       have n6_ := A0_ (V1_ HO376.out)
       have n7_ := A0_ (blk_drew BK364.out)
       have n8_ := A0_ (blk_drew BK378.out)
       have n9_ := A0_ (b1_ HB.out)
       clear HO_0
       clear HO_1
       clear HO_5
       clear HL351_8
       clear HO362
       clear HL365_8
       clear HO376
       clear BK364
       clear BK378
       clear HB
       have HO_0 := n0_
       have HO_1 := n1_
       have HO_5 := n2_
       have HL351_8 := n3_
       have HO362 := n4_
       have HL365_8 := n5_
       have HO376 := n6_
       have BK364 := n7_
       have BK378 := n8_
       have HB := n9_
       clear n0_ n1_ n2_ n3_ n4_ n5_ n6_ n7_ n8_ n9_
       refine start_ (n := 15) (S := fun w' => True) (ds := []) q6_15 (by kernel_rfl) rfl rfl trivial (fun hHeld => ?_); refine with_tabW bindlelaw19_UnionLast.tab10 bindlelaw19_UnionLast.bits10 (fun HT_ HW_ => ?_)
       generalize w47.drew = w48 at HO_0 HO_1 HO_5 HL351_8 HO362 HL365_8 HO376 BK364 BK378 HB hHeld ⊢
       refine pur_ (i := 0) (N := some 67) q6_16 (any_of HT_.out (by kernel_rfl)) ?_
       refine pur_ (i := 1) (N := some 68) q6_17 (any_of HT_.out (by kernel_rfl)) ?_
       refine pur_ (i := 2) (N := some 69) q6_18 (any_of HT_.out (by kernel_rfl)) ?_
       refine pur_ (i := 3) (N := some 70) q6_19 (any_of HT_.out (by kernel_rfl)) ?_
       refine pur_ (i := 4) (N := some 71) q6_20 (any_of HT_.out (by kernel_rfl)) ?_
       refine pur_ (i := 5) (N := some 72) q6_21 (any_of HT_.out (by kernel_rfl)) ?_
       refine puu_ (i := 6) (N := some 73) q6_22 (any_of HT_.out (by kernel_rfl)) ?_
       refine puu_ (i := 7) (N := some 74) q6_23 (any_of HT_.out (by kernel_rfl)) ?_
       refine puu_ (i := 8) (N := some 75) q6_24 (any_of HT_.out (by kernel_rfl)) ?_
       refine puu_ (i := 9) (N := some 76) q6_25 (any_of HT_.out (by kernel_rfl)) ?_
       refine puu_ (i := 10) (N := some 77) q6_26 (any_of HT_.out (by kernel_rfl)) ?_
       refine puu_ (i := 11) (N := some 78) q6_27 (any_of HT_.out (by kernel_rfl)) ?_
       refine puu_ (i := 12) (N := some 79) q6_28 (any_of HT_.out (by kernel_rfl)) ?_
       refine pur_ (i := 13) (N := some 80) q6_29 (any_of HT_.out (by kernel_rfl)) ?_
       refine pur_ (i := 14) (N := some 81) q6_30 (any_of HT_.out (by kernel_rfl)) ?_
       refine done_ (done_of HT_.out (by kernel_rfl)) ?_
       try go_wp2
       go_meet
       case rel => exact ⟨_, (false), wr_, H', ⟨by have := HJ2.out; have := HK2.out; first | omega | exact Nat.le_refl _⟩, ⟨wV_ HO_0.out⟩, ⟨wV_ HO_1.out⟩, ⟨wV_ HO_5.out⟩, ⟨wV_ HO362.out⟩, ⟨wV_ HO376.out⟩, ⟨wB_ BK364.out⟩, ⟨wB_ BK378.out⟩, ⟨wb2_ HB.out GE364.out GE378.out⟩⟩
      replace c46 := Bool.eq_false_iff.mpr c46
      subst c46
      have H1 : ((bindleref08_Equal.f t352 t353 t354 t355 t356 t357 t358 t359 t360 ((rd_T38 l0 x8_2).f0) ((rd_T38 l0 x8_2).f1) ((rd_T38 l0 x8_2).f2) ((rd_T38 l0 x8_2).f3) ((rd_T38 l0 x8_2).f4.f0) ((rd_T38 l0 x8_2).f4.f1) ((rd_T38 l0 x8_2).f4.f2) ((rd_T38 l0 x8_2).f4.f3) ((rd_T38 l0 x8_2).f5)).bind fun t380 => (bindlelaw19_UnionLast.j2 k2 l0 l1 t347 x7_2 x8_2 false (!t380))) = some r := by rw [if_neg (show ¬ (false = true) by decide)] at H; exact H
      clear H
      have H := H1
      clear H1
      replace H := Option.bind_eq_some_iff.mp H
      obtain ⟨t380, A490, H⟩ := H
      replace H : (bindlelaw19_UnionLast.j2 k2 l0 l1 t347 x7_2 x8_2 false (!t380)) = some r := H
      have A49 := A0_ A490
      clear A490
      have H' := A0_ H
      clear H
      try go_wp2
      have n0_ : Aside0 (Kd.V k38 38 (((((((((w41.setCell ⟨gb378, 0, none⟩ (.string t366)).setCell ⟨gb378, 1, none⟩ (.string t367)).setCell ⟨gb378, 2, none⟩ (.string t368)).setCell ⟨gb378, 3, none⟩ (.int .u8 t369)).setCell ⟨gb378, 4, none⟩ (.int .i64 t370)).setCell ⟨gb378, 5, none⟩ (.int .i64 t371)).setCell ⟨gb378, 6, none⟩ (.int .i64 t372)).setCell ⟨gb378, 7, none⟩ (.int .i64 t373)).setCell ⟨gb378, 8, none⟩ (.slice Ao44 t374.length co44)) w.heap.size (fun k_ => ((P0_ k_ ∨ P1_ k_) ∨ w.heap.size ≤ k_) ∧ k_ ≠ gb364 ∧ k_ ≠ gb378) (.slice (some ad351) l0.length c0) l0) := ⟨by (with_reducible repeat (first | apply Va_ | apply VN_ | apply V1_)); exact Kd.V_mono (Kd.V_far (p := ⟨gb378, 8, none⟩) (Kd.V_far (p := ⟨gb378, 7, none⟩) (Kd.V_far (p := ⟨gb378, 6, none⟩) (Kd.V_far (p := ⟨gb378, 5, none⟩) (Kd.V_far (p := ⟨gb378, 4, none⟩) (Kd.V_far (p := ⟨gb378, 3, none⟩) (Kd.V_far (p := ⟨gb378, 2, none⟩) (Kd.V_far (p := ⟨gb378, 1, none⟩) (Kd.V_far (p := ⟨gb378, 0, none⟩) (Kd.V_mono HO_0.out (fun k_ hk => (⟨hk, hk.2⟩ : _ ∧ k_ ≠ gb378))) (fun _ hk => hk.2) (.string t366)) (fun _ hk => hk.2) (.string t367)) (fun _ hk => hk.2) (.string t368)) (fun _ hk => hk.2) (.int .u8 t369)) (fun _ hk => hk.2) (.int .i64 t370)) (fun _ hk => hk.2) (.int .i64 t371)) (fun _ hk => hk.2) (.int .i64 t372)) (fun _ hk => hk.2) (.int .i64 t373)) (fun _ hk => hk.2) (.slice Ao44 t374.length co44)) (fun _ hk => ⟨hk.1.1.1, ⟨hk.1.1.2, hk.1.2⟩⟩)⟩
      have n1_ : Aside0 (Kd.V k38 38 (((((((((w41.setCell ⟨gb378, 0, none⟩ (.string t366)).setCell ⟨gb378, 1, none⟩ (.string t367)).setCell ⟨gb378, 2, none⟩ (.string t368)).setCell ⟨gb378, 3, none⟩ (.int .u8 t369)).setCell ⟨gb378, 4, none⟩ (.int .i64 t370)).setCell ⟨gb378, 5, none⟩ (.int .i64 t371)).setCell ⟨gb378, 6, none⟩ (.int .i64 t372)).setCell ⟨gb378, 7, none⟩ (.int .i64 t373)).setCell ⟨gb378, 8, none⟩ (.slice Ao44 t374.length co44)) w.heap.size (fun k_ => ((P0_ k_ ∨ P1_ k_) ∨ w.heap.size ≤ k_) ∧ k_ ≠ gb364 ∧ k_ ≠ gb378) (.slice A1 l1.length c1) l1) := ⟨by (with_reducible repeat (first | apply Va_ | apply VN_ | apply V1_)); exact Kd.V_mono (Kd.V_far (p := ⟨gb378, 8, none⟩) (Kd.V_far (p := ⟨gb378, 7, none⟩) (Kd.V_far (p := ⟨gb378, 6, none⟩) (Kd.V_far (p := ⟨gb378, 5, none⟩) (Kd.V_far (p := ⟨gb378, 4, none⟩) (Kd.V_far (p := ⟨gb378, 3, none⟩) (Kd.V_far (p := ⟨gb378, 2, none⟩) (Kd.V_far (p := ⟨gb378, 1, none⟩) (Kd.V_far (p := ⟨gb378, 0, none⟩) (Kd.V_mono HO_1.out (fun k_ hk => (⟨hk, hk.2⟩ : _ ∧ k_ ≠ gb378))) (fun _ hk => hk.2) (.string t366)) (fun _ hk => hk.2) (.string t367)) (fun _ hk => hk.2) (.string t368)) (fun _ hk => hk.2) (.int .u8 t369)) (fun _ hk => hk.2) (.int .i64 t370)) (fun _ hk => hk.2) (.int .i64 t371)) (fun _ hk => hk.2) (.int .i64 t372)) (fun _ hk => hk.2) (.int .i64 t373)) (fun _ hk => hk.2) (.slice Ao44 t374.length co44)) (fun _ hk => ⟨hk.1.1.1, ⟨hk.1.1.2, hk.1.2⟩⟩)⟩
      have n2_ : Aside0 (Kd.V k38 38 (((((((((w41.setCell ⟨gb378, 0, none⟩ (.string t366)).setCell ⟨gb378, 1, none⟩ (.string t367)).setCell ⟨gb378, 2, none⟩ (.string t368)).setCell ⟨gb378, 3, none⟩ (.int .u8 t369)).setCell ⟨gb378, 4, none⟩ (.int .i64 t370)).setCell ⟨gb378, 5, none⟩ (.int .i64 t371)).setCell ⟨gb378, 6, none⟩ (.int .i64 t372)).setCell ⟨gb378, 7, none⟩ (.int .i64 t373)).setCell ⟨gb378, 8, none⟩ (.slice Ao44 t374.length co44)) w.heap.size (fun k_ => ((P0_ k_ ∨ P1_ k_) ∨ w.heap.size ≤ k_) ∧ k_ ≠ gb364 ∧ k_ ≠ gb378) (.slice Ao34 t347.length co34) t347) := ⟨by (with_reducible repeat (first | apply Va_ | apply VN_ | apply V1_)); exact Kd.V_mono (Kd.V_far (p := ⟨gb378, 8, none⟩) (Kd.V_far (p := ⟨gb378, 7, none⟩) (Kd.V_far (p := ⟨gb378, 6, none⟩) (Kd.V_far (p := ⟨gb378, 5, none⟩) (Kd.V_far (p := ⟨gb378, 4, none⟩) (Kd.V_far (p := ⟨gb378, 3, none⟩) (Kd.V_far (p := ⟨gb378, 2, none⟩) (Kd.V_far (p := ⟨gb378, 1, none⟩) (Kd.V_far (p := ⟨gb378, 0, none⟩) (Kd.V_mono HO_5.out (fun k_ hk => (⟨hk, hk.2⟩ : _ ∧ k_ ≠ gb378))) (fun _ hk => hk.2) (.string t366)) (fun _ hk => hk.2) (.string t367)) (fun _ hk => hk.2) (.string t368)) (fun _ hk => hk.2) (.int .u8 t369)) (fun _ hk => hk.2) (.int .i64 t370)) (fun _ hk => hk.2) (.int .i64 t371)) (fun _ hk => hk.2) (.int .i64 t372)) (fun _ hk => hk.2) (.int .i64 t373)) (fun _ hk => hk.2) (.slice Ao44 t374.length co44)) (fun _ hk => ⟨hk.1.1.1, ⟨hk.1.1.2, hk.1.2⟩⟩)⟩
      have n3_ : Aside0 (Kd.V (Kd.int .u8) 5 (((((((((w41.setCell ⟨gb378, 0, none⟩ (.string t366)).setCell ⟨gb378, 1, none⟩ (.string t367)).setCell ⟨gb378, 2, none⟩ (.string t368)).setCell ⟨gb378, 3, none⟩ (.int .u8 t369)).setCell ⟨gb378, 4, none⟩ (.int .i64 t370)).setCell ⟨gb378, 5, none⟩ (.int .i64 t371)).setCell ⟨gb378, 6, none⟩ (.int .i64 t372)).setCell ⟨gb378, 7, none⟩ (.int .i64 t373)).setCell ⟨gb378, 8, none⟩ (.slice Ao44 t374.length co44)) w.heap.size (fun k_ => ((P0_ k_ ∨ P1_ k_) ∨ w.heap.size ≤ k_) ∧ k_ ≠ gb364 ∧ k_ ≠ gb378) (.slice A351_8 ((rd_T38 l0 x8_2).f5).length c351_8) ((rd_T38 l0 x8_2).f5)) := ⟨by (with_reducible repeat (first | apply Va_ | apply VN_ | apply V1_)); exact Kd.V_mono (Kd.V_far (p := ⟨gb378, 8, none⟩) (Kd.V_far (p := ⟨gb378, 7, none⟩) (Kd.V_far (p := ⟨gb378, 6, none⟩) (Kd.V_far (p := ⟨gb378, 5, none⟩) (Kd.V_far (p := ⟨gb378, 4, none⟩) (Kd.V_far (p := ⟨gb378, 3, none⟩) (Kd.V_far (p := ⟨gb378, 2, none⟩) (Kd.V_far (p := ⟨gb378, 1, none⟩) (Kd.V_far (p := ⟨gb378, 0, none⟩) (Kd.V_mono HL351_8.out (fun k_ hk => (⟨hk, hk.2⟩ : _ ∧ k_ ≠ gb378))) (fun _ hk => hk.2) (.string t366)) (fun _ hk => hk.2) (.string t367)) (fun _ hk => hk.2) (.string t368)) (fun _ hk => hk.2) (.int .u8 t369)) (fun _ hk => hk.2) (.int .i64 t370)) (fun _ hk => hk.2) (.int .i64 t371)) (fun _ hk => hk.2) (.int .i64 t372)) (fun _ hk => hk.2) (.int .i64 t373)) (fun _ hk => hk.2) (.slice Ao44 t374.length co44)) (fun _ hk => ⟨hk.1.1.1, ⟨hk.1.1.2, hk.1.2⟩⟩)⟩
      have n4_ : Aside0 (Kd.V (Kd.int .u8) 5 (((((((((w41.setCell ⟨gb378, 0, none⟩ (.string t366)).setCell ⟨gb378, 1, none⟩ (.string t367)).setCell ⟨gb378, 2, none⟩ (.string t368)).setCell ⟨gb378, 3, none⟩ (.int .u8 t369)).setCell ⟨gb378, 4, none⟩ (.int .i64 t370)).setCell ⟨gb378, 5, none⟩ (.int .i64 t371)).setCell ⟨gb378, 6, none⟩ (.int .i64 t372)).setCell ⟨gb378, 7, none⟩ (.int .i64 t373)).setCell ⟨gb378, 8, none⟩ (.slice Ao44 t374.length co44)) w.heap.size (fun k_ => ((P0_ k_ ∨ P1_ k_) ∨ w.heap.size ≤ k_) ∧ k_ ≠ gb364 ∧ k_ ≠ gb378) (.slice Ao38 t360.length co38) t360) := ⟨by (with_reducible repeat (first | apply Va_ | apply VN_ | apply V1_)); exact Kd.V_mono (Kd.V_far (p := ⟨gb378, 8, none⟩) (Kd.V_far (p := ⟨gb378, 7, none⟩) (Kd.V_far (p := ⟨gb378, 6, none⟩) (Kd.V_far (p := ⟨gb378, 5, none⟩) (Kd.V_far (p := ⟨gb378, 4, none⟩) (Kd.V_far (p := ⟨gb378, 3, none⟩) (Kd.V_far (p := ⟨gb378, 2, none⟩) (Kd.V_far (p := ⟨gb378, 1, none⟩) (Kd.V_far (p := ⟨gb378, 0, none⟩) (Kd.V_mono HO362.out (fun k_ hk => (⟨hk, hk.2⟩ : _ ∧ k_ ≠ gb378))) (fun _ hk => hk.2) (.string t366)) (fun _ hk => hk.2) (.string t367)) (fun _ hk => hk.2) (.string t368)) (fun _ hk => hk.2) (.int .u8 t369)) (fun _ hk => hk.2) (.int .i64 t370)) (fun _ hk => hk.2) (.int .i64 t371)) (fun _ hk => hk.2) (.int .i64 t372)) (fun _ hk => hk.2) (.int .i64 t373)) (fun _ hk => hk.2) (.slice Ao44 t374.length co44)) (fun _ hk => ⟨hk.1.1.1, ⟨hk.1.1.2, hk.1.2⟩⟩)⟩
      have n5_ : Aside0 (Kd.V (Kd.int .u8) 5 (((((((((w41.setCell ⟨gb378, 0, none⟩ (.string t366)).setCell ⟨gb378, 1, none⟩ (.string t367)).setCell ⟨gb378, 2, none⟩ (.string t368)).setCell ⟨gb378, 3, none⟩ (.int .u8 t369)).setCell ⟨gb378, 4, none⟩ (.int .i64 t370)).setCell ⟨gb378, 5, none⟩ (.int .i64 t371)).setCell ⟨gb378, 6, none⟩ (.int .i64 t372)).setCell ⟨gb378, 7, none⟩ (.int .i64 t373)).setCell ⟨gb378, 8, none⟩ (.slice Ao44 t374.length co44)) w.heap.size (fun k_ => ((P0_ k_ ∨ P1_ k_) ∨ w.heap.size ≤ k_) ∧ k_ ≠ gb364 ∧ k_ ≠ gb378) (.slice A365_8 ((rd_T38 l0 x8_2).f5).length c365_8) ((rd_T38 l0 x8_2).f5)) := ⟨by (with_reducible repeat (first | apply Va_ | apply VN_ | apply V1_)); exact Kd.V_mono (Kd.V_far (p := ⟨gb378, 8, none⟩) (Kd.V_far (p := ⟨gb378, 7, none⟩) (Kd.V_far (p := ⟨gb378, 6, none⟩) (Kd.V_far (p := ⟨gb378, 5, none⟩) (Kd.V_far (p := ⟨gb378, 4, none⟩) (Kd.V_far (p := ⟨gb378, 3, none⟩) (Kd.V_far (p := ⟨gb378, 2, none⟩) (Kd.V_far (p := ⟨gb378, 1, none⟩) (Kd.V_far (p := ⟨gb378, 0, none⟩) (Kd.V_mono HL365_8.out (fun k_ hk => (⟨hk, hk.2⟩ : _ ∧ k_ ≠ gb378))) (fun _ hk => hk.2) (.string t366)) (fun _ hk => hk.2) (.string t367)) (fun _ hk => hk.2) (.string t368)) (fun _ hk => hk.2) (.int .u8 t369)) (fun _ hk => hk.2) (.int .i64 t370)) (fun _ hk => hk.2) (.int .i64 t371)) (fun _ hk => hk.2) (.int .i64 t372)) (fun _ hk => hk.2) (.int .i64 t373)) (fun _ hk => hk.2) (.slice Ao44 t374.length co44)) (fun _ hk => ⟨hk.1.1.1, ⟨hk.1.1.2, hk.1.2⟩⟩)⟩
      have n6_ : Aside0 (Kd.V (Kd.int .u8) 5 (((((((((w41.setCell ⟨gb378, 0, none⟩ (.string t366)).setCell ⟨gb378, 1, none⟩ (.string t367)).setCell ⟨gb378, 2, none⟩ (.string t368)).setCell ⟨gb378, 3, none⟩ (.int .u8 t369)).setCell ⟨gb378, 4, none⟩ (.int .i64 t370)).setCell ⟨gb378, 5, none⟩ (.int .i64 t371)).setCell ⟨gb378, 6, none⟩ (.int .i64 t372)).setCell ⟨gb378, 7, none⟩ (.int .i64 t373)).setCell ⟨gb378, 8, none⟩ (.slice Ao44 t374.length co44)) w.heap.size (fun k_ => ((P0_ k_ ∨ P1_ k_) ∨ w.heap.size ≤ k_) ∧ k_ ≠ gb364 ∧ k_ ≠ gb378) (.slice Ao44 t374.length co44) t374) := ⟨by (with_reducible repeat (first | apply Va_ | apply VN_ | apply V1_)); exact Kd.V_mono (Kd.V_far (p := ⟨gb378, 8, none⟩) (Kd.V_far (p := ⟨gb378, 7, none⟩) (Kd.V_far (p := ⟨gb378, 6, none⟩) (Kd.V_far (p := ⟨gb378, 5, none⟩) (Kd.V_far (p := ⟨gb378, 4, none⟩) (Kd.V_far (p := ⟨gb378, 3, none⟩) (Kd.V_far (p := ⟨gb378, 2, none⟩) (Kd.V_far (p := ⟨gb378, 1, none⟩) (Kd.V_far (p := ⟨gb378, 0, none⟩) (Kd.V_mono HO376.out (fun k_ hk => (⟨hk, hk.2⟩ : _ ∧ k_ ≠ gb378))) (fun _ hk => hk.2) (.string t366)) (fun _ hk => hk.2) (.string t367)) (fun _ hk => hk.2) (.string t368)) (fun _ hk => hk.2) (.int .u8 t369)) (fun _ hk => hk.2) (.int .i64 t370)) (fun _ hk => hk.2) (.int .i64 t371)) (fun _ hk => hk.2) (.int .i64 t372)) (fun _ hk => hk.2) (.int .i64 t373)) (fun _ hk => hk.2) (.slice Ao44 t374.length co44)) (fun _ hk => ⟨hk.1.1.1, ⟨hk.1.1.2, hk.1.2⟩⟩)⟩
      have n7_ : Aside0 ((((((((((w41.setCell ⟨gb378, 0, none⟩ (.string t366)).setCell ⟨gb378, 1, none⟩ (.string t367)).setCell ⟨gb378, 2, none⟩ (.string t368)).setCell ⟨gb378, 3, none⟩ (.int .u8 t369)).setCell ⟨gb378, 4, none⟩ (.int .i64 t370)).setCell ⟨gb378, 5, none⟩ (.int .i64 t371)).setCell ⟨gb378, 6, none⟩ (.int .i64 t372)).setCell ⟨gb378, 7, none⟩ (.int .i64 t373)).setCell ⟨gb378, 8, none⟩ (.slice Ao44 t374.length co44)).heap[gb364]? = some (.cells #[.string t352, .string t353, .string t354, .int .u8 t355, .int .i64 t356, .int .i64 t357, .int .i64 t358, .int .i64 t359, .slice Ao38 t360.length co38] 38 (0, 0))) := ⟨by (with_reducible repeat (first | refine blk_drewN ?_ _ | refine blk_drew ?_ | refine blk_alloc ?_ _)); refine blk_far ?_ NB364_378.out _; (with_reducible repeat (first | refine blk_drewN ?_ _ | refine blk_drew ?_ | refine blk_alloc ?_ _)); refine blk_far ?_ NB364_378.out _; (with_reducible repeat (first | refine blk_drewN ?_ _ | refine blk_drew ?_ | refine blk_alloc ?_ _)); refine blk_far ?_ NB364_378.out _; (with_reducible repeat (first | refine blk_drewN ?_ _ | refine blk_drew ?_ | refine blk_alloc ?_ _)); refine blk_far ?_ NB364_378.out _; (with_reducible repeat (first | refine blk_drewN ?_ _ | refine blk_drew ?_ | refine blk_alloc ?_ _)); refine blk_far ?_ NB364_378.out _; (with_reducible repeat (first | refine blk_drewN ?_ _ | refine blk_drew ?_ | refine blk_alloc ?_ _)); refine blk_far ?_ NB364_378.out _; (with_reducible repeat (first | refine blk_drewN ?_ _ | refine blk_drew ?_ | refine blk_alloc ?_ _)); refine blk_far ?_ NB364_378.out _; (with_reducible repeat (first | refine blk_drewN ?_ _ | refine blk_drew ?_ | refine blk_alloc ?_ _)); refine blk_far ?_ NB364_378.out _; (with_reducible repeat (first | refine blk_drewN ?_ _ | refine blk_drew ?_ | refine blk_alloc ?_ _)); refine blk_far ?_ NB364_378.out _; (with_reducible repeat (first | refine blk_drewN ?_ _ | refine blk_drew ?_ | refine blk_alloc ?_ _)); exact BK364.out⟩
      have n8_ : Aside0 ((((((((((w41.setCell ⟨gb378, 0, none⟩ (.string t366)).setCell ⟨gb378, 1, none⟩ (.string t367)).setCell ⟨gb378, 2, none⟩ (.string t368)).setCell ⟨gb378, 3, none⟩ (.int .u8 t369)).setCell ⟨gb378, 4, none⟩ (.int .i64 t370)).setCell ⟨gb378, 5, none⟩ (.int .i64 t371)).setCell ⟨gb378, 6, none⟩ (.int .i64 t372)).setCell ⟨gb378, 7, none⟩ (.int .i64 t373)).setCell ⟨gb378, 8, none⟩ (.slice Ao44 t374.length co44)).heap[gb378]? = some (.cells #[.string t366, .string t367, .string t368, .int .u8 t369, .int .i64 t370, .int .i64 t371, .int .i64 t372, .int .i64 t373, .slice Ao44 t374.length co44] 38 (0, 0))) := ⟨by (with_reducible repeat (first | refine blk_drewN ?_ _ | refine blk_drew ?_ | refine blk_alloc ?_ _)); refine blk_put (cs := #[.string t366, .string t367, .string t368, .int .u8 t369, .int .i64 t370, .int .i64 t371, .int .i64 t372, .int .i64 t373, .slice none 0 0]) ?_ 8 _ rfl; (with_reducible repeat (first | refine blk_drewN ?_ _ | refine blk_drew ?_ | refine blk_alloc ?_ _)); refine blk_put (cs := #[.string t366, .string t367, .string t368, .int .u8 t369, .int .i64 t370, .int .i64 t371, .int .i64 t372, .int .i64 0, .slice none 0 0]) ?_ 7 _ rfl; (with_reducible repeat (first | refine blk_drewN ?_ _ | refine blk_drew ?_ | refine blk_alloc ?_ _)); refine blk_put (cs := #[.string t366, .string t367, .string t368, .int .u8 t369, .int .i64 t370, .int .i64 t371, .int .i64 0, .int .i64 0, .slice none 0 0]) ?_ 6 _ rfl; (with_reducible repeat (first | refine blk_drewN ?_ _ | refine blk_drew ?_ | refine blk_alloc ?_ _)); refine blk_put (cs := #[.string t366, .string t367, .string t368, .int .u8 t369, .int .i64 t370, .int .i64 0, .int .i64 0, .int .i64 0, .slice none 0 0]) ?_ 5 _ rfl; (with_reducible repeat (first | refine blk_drewN ?_ _ | refine blk_drew ?_ | refine blk_alloc ?_ _)); refine blk_put (cs := #[.string t366, .string t367, .string t368, .int .u8 t369, .int .i64 0, .int .i64 0, .int .i64 0, .int .i64 0, .slice none 0 0]) ?_ 4 _ rfl; (with_reducible repeat (first | refine blk_drewN ?_ _ | refine blk_drew ?_ | refine blk_alloc ?_ _)); refine blk_put (cs := #[.string t366, .string t367, .string t368, .int .u8 0, .int .i64 0, .int .i64 0, .int .i64 0, .int .i64 0, .slice none 0 0]) ?_ 3 _ rfl; (with_reducible repeat (first | refine blk_drewN ?_ _ | refine blk_drew ?_ | refine blk_alloc ?_ _)); refine blk_put (cs := #[.string t366, .string t367, .string (⟨#[]⟩ : ByteArray), .int .u8 0, .int .i64 0, .int .i64 0, .int .i64 0, .int .i64 0, .slice none 0 0]) ?_ 2 _ rfl; (with_reducible repeat (first | refine blk_drewN ?_ _ | refine blk_drew ?_ | refine blk_alloc ?_ _)); refine blk_put (cs := #[.string t366, .string (⟨#[]⟩ : ByteArray), .string (⟨#[]⟩ : ByteArray), .int .u8 0, .int .i64 0, .int .i64 0, .int .i64 0, .int .i64 0, .slice none 0 0]) ?_ 1 _ rfl; (with_reducible repeat (first | refine blk_drewN ?_ _ | refine blk_drew ?_ | refine blk_alloc ?_ _)); refine blk_put (cs := #[.string (⟨#[]⟩ : ByteArray), .string (⟨#[]⟩ : ByteArray), .string (⟨#[]⟩ : ByteArray), .int .u8 0, .int .i64 0, .int .i64 0, .int .i64 0, .int .i64 0, .slice none 0 0]) ?_ 0 _ rfl; (with_reducible repeat (first | refine blk_drewN ?_ _ | refine blk_drew ?_ | refine blk_alloc ?_ _)); exact BK378.out⟩
      have n9_ : Aside0 (Below w.heap.size w (((((((((w41.setCell ⟨gb378, 0, none⟩ (.string t366)).setCell ⟨gb378, 1, none⟩ (.string t367)).setCell ⟨gb378, 2, none⟩ (.string t368)).setCell ⟨gb378, 3, none⟩ (.int .u8 t369)).setCell ⟨gb378, 4, none⟩ (.int .i64 t370)).setCell ⟨gb378, 5, none⟩ (.int .i64 t371)).setCell ⟨gb378, 6, none⟩ (.int .i64 t372)).setCell ⟨gb378, 7, none⟩ (.int .i64 t373)).setCell ⟨gb378, 8, none⟩ (.slice Ao44 t374.length co44))) := ⟨wb2_ HB.out GE364.out GE378.out⟩
      (try clear HO_0)
      (try clear HO_1)
      (try clear HO_5)
      (try clear HL351_8)
      (try clear HO362)
      (try clear HL365_8)
      (try clear HO376)
      (try clear BK364)
      (try clear BK378)
      (try clear HB)
      generalize (((((((((w41.setCell ⟨gb378, 0, none⟩ (.string t366)).setCell ⟨gb378, 1, none⟩ (.string t367)).setCell ⟨gb378, 2, none⟩ (.string t368)).setCell ⟨gb378, 3, none⟩ (.int .u8 t369)).setCell ⟨gb378, 4, none⟩ (.int .i64 t370)).setCell ⟨gb378, 5, none⟩ (.int .i64 t371)).setCell ⟨gb378, 6, none⟩ (.int .i64 t372)).setCell ⟨gb378, 7, none⟩ (.int .i64 t373)).setCell ⟨gb378, 8, none⟩ (.slice Ao44 t374.length co44)) = w50 at n0_ n1_ n2_ n3_ n4_ n5_ n6_ n7_ n8_ n9_ ⊢
      have HO_0 := n0_
      have HO_1 := n1_
      have HO_5 := n2_
      have HL351_8 := n3_
      have HO362 := n4_
      have HL365_8 := n5_
      have HO376 := n6_
      have BK364 := n7_
      have BK378 := n8_
      have HB := n9_
      clear n0_ n1_ n2_ n3_ n4_ n5_ n6_ n7_ n8_ n9_
      have n0_ := A0_ (V1_ HO_0.out)
      have n1_ := A0_ (V1_ HO_1.out)
      have n2_ := A0_ (V1_ HO_5.out)
      have n3_ := A0_ (V1_ HL351_8.out)
      have n4_ := A0_ (V1_ HO362.out)
      have n5_ := A0_ (V1_ HL365_8.out)
      have n6_ := A0_ (V1_ HO376.out)
      have n7_ := A0_ (blk_drew BK364.out)
      have n8_ := A0_ (blk_drew BK378.out)
      have n9_ := A0_ (b1_ HB.out)
      clear HO_0
      clear HO_1
      clear HO_5
      clear HL351_8
      clear HO362
      clear HL365_8
      clear HO376
      clear BK364
      clear BK378
      clear HB
      have HO_0 := n0_
      have HO_1 := n1_
      have HO_5 := n2_
      have HL351_8 := n3_
      have HO362 := n4_
      have HL365_8 := n5_
      have HO376 := n6_
      have BK364 := n7_
      have BK378 := n8_
      have HB := n9_
      clear n0_ n1_ n2_ n3_ n4_ n5_ n6_ n7_ n8_ n9_
      have p379 : 0 ≤ (x8_2 : Int) := wd_
      have q379 : x8_2 < (l0.length : Int) := wd_
      obtain ⟨ad379, A379_8, c379_8, e379, hx379_0, hx379_1, hx379_2, hx379_3, hx379_4, hx379_5, hx379_6, hx379_7, hx379_8, hl379_8, hi379_8⟩ := at_T38 (Kd.V_reads' HO_0.out).2.2 x8_2 p379 q379
      obtain rfl : ad351 = ad379 := (by injection e379)
      obtain ⟨ce379, hce379, hMe379, hcc379⟩ := Kd.V_get HO_0.out z38 x8_2 p379 (by first | exact q379 | exact wd_ | (have e_ := (Kd.V_reads' HO_0.out).1; omega))
      obtain ⟨ua379_8, uc379_8, rfl, ul379_8, ge379_8⟩ := k38_openF hMe379
      have hv379_8 := hcc379 8 _ rfl
      rw [add_field _ _ 8 (by omega)] at hv379_8
      replace hv379_8 := Option.some.inj (hv379_8.symm.trans hx379_8)
      injection hv379_8 with hva_ hvn_ hvc_
      rw [hva_] at ge379_8
      rw [hvc_] at ul379_8
      have HL379_8 := A0_ (show Kd.V (Kd.int .u8) 5 _ w.heap.size _ _ ((rd_T38 l0 x8_2).f5) from Kd.V_mk ul379_8 ge379_8)
      clear hva_ hvn_ hvc_ ge379_8 ul379_8
      clear hcc379 hce379
      have HR379_8 := A0_ hi379_8
      have HC379_8 := A0_ hl379_8
      clear hi379_8 hl379_8
      replace p379 := eq_true p379
      replace q379 := eq_true q379
      refine start_ (n := 15) (S := fun w' => w'.cell? ⟨gb364, 0, none⟩ = some (.string t352) ∧ w'.cell? ⟨gb364, 1, none⟩ = some (.string t353) ∧ w'.cell? ⟨gb364, 2, none⟩ = some (.string t354) ∧ w'.cell? ⟨gb364, 3, none⟩ = some (.int .u8 t355) ∧ w'.cell? ⟨gb364, 4, none⟩ = some (.int .i64 t356) ∧ w'.cell? ⟨gb364, 5, none⟩ = some (.int .i64 t357) ∧ w'.cell? ⟨gb364, 6, none⟩ = some (.int .i64 t358) ∧ w'.cell? ⟨gb364, 7, none⟩ = some (.int .i64 t359) ∧ w'.cell? ⟨gb364, 8, none⟩ = some (.slice Ao38 t360.length co38) ∧ w'.cell? (ad351.add ((x8_2).toNat * 9)) = some (.string ((rd_T38 l0 x8_2).f0)) ∧ w'.cell? ⟨(ad351.add ((x8_2).toNat * 9)).block, (ad351.add ((x8_2).toNat * 9)).off + 1, none⟩ = some (.string ((rd_T38 l0 x8_2).f1)) ∧ w'.cell? ⟨(ad351.add ((x8_2).toNat * 9)).block, (ad351.add ((x8_2).toNat * 9)).off + 2, none⟩ = some (.string ((rd_T38 l0 x8_2).f2)) ∧ w'.cell? ⟨(ad351.add ((x8_2).toNat * 9)).block, (ad351.add ((x8_2).toNat * 9)).off + 3, none⟩ = some (.int .u8 ((rd_T38 l0 x8_2).f3)) ∧ w'.cell? ⟨(ad351.add ((x8_2).toNat * 9)).block, (ad351.add ((x8_2).toNat * 9)).off + 4, none⟩ = some (.int .i64 ((rd_T38 l0 x8_2).f4.f0)) ∧ w'.cell? ⟨(ad351.add ((x8_2).toNat * 9)).block, (ad351.add ((x8_2).toNat * 9)).off + 5, none⟩ = some (.int .i64 ((rd_T38 l0 x8_2).f4.f1)) ∧ w'.cell? ⟨(ad351.add ((x8_2).toNat * 9)).block, (ad351.add ((x8_2).toNat * 9)).off + 6, none⟩ = some (.int .i64 ((rd_T38 l0 x8_2).f4.f2)) ∧ w'.cell? ⟨(ad351.add ((x8_2).toNat * 9)).block, (ad351.add ((x8_2).toNat * 9)).off + 7, none⟩ = some (.int .i64 ((rd_T38 l0 x8_2).f4.f3)) ∧ w'.cell? ⟨(ad351.add ((x8_2).toNat * 9)).block, (ad351.add ((x8_2).toNat * 9)).off + 8, none⟩ = some (.slice A379_8 ((rd_T38 l0 x8_2).f5).length c379_8)) (ds := []) q6_15 (by kernel_rfl) rfl rfl ⟨(bc_ BK364.out 0).trans rfl, (bc_ BK364.out 1).trans rfl, (bc_ BK364.out 2).trans rfl, (bc_ BK364.out 3).trans rfl, (bc_ BK364.out 4).trans rfl, (bc_ BK364.out 5).trans rfl, (bc_ BK364.out 6).trans rfl, (bc_ BK364.out 7).trans rfl, (bc_ BK364.out 8).trans rfl, hx379_0, hx379_1, hx379_2, hx379_3, hx379_4, hx379_5, hx379_6, hx379_7, hx379_8⟩ (fun hHeld => ?_); refine with_tabW bindlelaw19_UnionLast.tab10 bindlelaw19_UnionLast.bits10 (fun HT_ HW_ => ?_)
      generalize w50.drew = w51 at HO_0 HO_1 HO_5 HL351_8 HO362 HL365_8 HO376 BK364 BK378 HB HL379_8 HR379_8 hx379_0 hx379_1 hx379_2 hx379_3 hx379_4 hx379_5 hx379_6 hx379_7 hx379_8 hHeld ⊢
      refine pur_ (i := 0) (N := some 67) q6_16 (any_of HT_.out (by kernel_rfl)) ?_
      refine pur_ (i := 1) (N := some 68) q6_17 (any_of HT_.out (by kernel_rfl)) ?_
      refine pur_ (i := 2) (N := some 69) q6_18 (any_of HT_.out (by kernel_rfl)) ?_
      refine pur_ (i := 3) (N := some 70) q6_19 (any_of HT_.out (by kernel_rfl)) ?_
      refine pur_ (i := 4) (N := some 71) q6_20 (any_of HT_.out (by kernel_rfl)) ?_
      refine pur_ (i := 5) (N := some 72) q6_21 (any_of HT_.out (by kernel_rfl)) ?_
      refine pur_ (i := 7) (N := some 74) q6_31 (any_of HT_.out (by kernel_rfl)) ?_
      refine pur_ (i := 8) (N := some 75) q6_32 (any_of HT_.out (by kernel_rfl)) ?_
      refine pur_ (i := 9) (N := some 76) q6_33 (any_of HT_.out (by kernel_rfl)) ?_
      refine take_ (i := 6) (N := some 73) (v := ?_) (a' := ?_) q6_25 rfl rfl (take_ofW HT_.out HW_.out (by kernel_rfl)) (fun _ _ _ h => h) (Or.inl ⟨by rfl, ?_⟩) hHeld ?_ ?_
      rotate_left
      ·rintro w' ⟨s0, s1, s2, s3, s4, s5, s6, s7, s8, s9, s10, s11, s12, s13, s14, s15, s16, s17⟩
       go_simp
       with_reducible rfl
      rotate_left
      ·simp only [Act.put, List.setIfInBounds_toArray, List.set_cons_zero, List.set_cons_succ, i64_w, i32_w]
       rfl
      refine take_ (i := 10) (N := some 77) (v := ?_) (a' := ?_) q6_26 rfl rfl (take_ofW HT_.out HW_.out (by kernel_rfl)) (fun _ _ _ h => h) (Or.inl ⟨by rfl, ?_⟩) hHeld ?_ ?_
      rotate_left
      ·rintro w' ⟨s0, s1, s2, s3, s4, s5, s6, s7, s8, s9, s10, s11, s12, s13, s14, s15, s16, s17⟩
       go_simp
       with_reducible rfl
      rotate_left
      ·simp only [Act.put, List.setIfInBounds_toArray, List.set_cons_zero, List.set_cons_succ, i64_w, i32_w]
       rfl
      refine one_ (i := 11) (N := some 78) q6_27 rfl rfl (one_of HT_.out (by kernel_rfl)) (by decide) (fun K hK => ?_)
      refine goes_ Tryd.func20 (by kernel_rfl) rfl #[.agg #[.string t352, .string t353, .string t354, .int .u8 t355, .int .i64 t356, .int .i64 t357, .int .i64 t358, .int .i64 t359, .slice Ao38 t360.length co38], .agg #[.string ((rd_T38 l0 x8_2).f0), .string ((rd_T38 l0 x8_2).f1), .string ((rd_T38 l0 x8_2).f2), .int .u8 ((rd_T38 l0 x8_2).f3), .int .i64 ((rd_T38 l0 x8_2).f4.f0), .int .i64 ((rd_T38 l0 x8_2).f4.f1), .int .i64 ((rd_T38 l0 x8_2).f4.f2), .int .i64 ((rd_T38 l0 x8_2).f4.f3), .slice A379_8 ((rd_T38 l0 x8_2).f5).length c379_8]] (by rfl) rfl rfl wm_ ?_
      with_reducible refine (bindleref08_Equal.calls t352 t353 t354 t355 t356 t357 t358 t359 _ _ t360 ((rd_T38 l0 x8_2).f0) ((rd_T38 l0 x8_2).f1) ((rd_T38 l0 x8_2).f2) ((rd_T38 l0 x8_2).f3) ((rd_T38 l0 x8_2).f4.f0) ((rd_T38 l0 x8_2).f4.f1) ((rd_T38 l0 x8_2).f4.f2) ((rd_T38 l0 x8_2).f4.f3) _ _ ((rd_T38 l0 x8_2).f5) t380 _ ?side1 ?side2 ?side3 ?side4 A49.out).mono ?_
      (case side1 => exact wc_ (Kd.V_reads' HO362.out).2.2)
      (case side2 => exact (Kd.V_reads' HO362.out).2.1)
      (case side3 => repeat (first | exact (by repeat (first | (with_reducible exact HR379_8.out) | (with_reducible refine Ca_ ?_ _) | (with_reducible refine CN_ ?_ _) | (with_reducible refine C1_ ?_) | exact HR379_8.out)) | (with_reducible refine Ca_ ?_ _) | (with_reducible refine CN_ ?_ _) | (with_reducible refine C1_ ?_)))
      (case side4 => exact HC379_8.out)
      rintro e w52 ⟨rfl, hb⟩
      have HS9_ := (hb.cell (World.block_lt_of_cell? _ _ (hHeld.2.2.2.2.2.2.2.2.2.1))).trans (hHeld.2.2.2.2.2.2.2.2.2.1)
      have HS10_ := (hb.cell (World.block_lt_of_cell? _ _ (hHeld.2.2.2.2.2.2.2.2.2.2.1))).trans (hHeld.2.2.2.2.2.2.2.2.2.2.1)
      have HS11_ := (hb.cell (World.block_lt_of_cell? _ _ (hHeld.2.2.2.2.2.2.2.2.2.2.2.1))).trans (hHeld.2.2.2.2.2.2.2.2.2.2.2.1)
      have HS12_ := (hb.cell (World.block_lt_of_cell? _ _ (hHeld.2.2.2.2.2.2.2.2.2.2.2.2.1))).trans (hHeld.2.2.2.2.2.2.2.2.2.2.2.2.1)
      have HS13_ := (hb.cell (World.block_lt_of_cell? _ _ (hHeld.2.2.2.2.2.2.2.2.2.2.2.2.2.1))).trans (hHeld.2.2.2.2.2.2.2.2.2.2.2.2.2.1)
      have HS14_ := (hb.cell (World.block_lt_of_cell? _ _ (hHeld.2.2.2.2.2.2.2.2.2.2.2.2.2.2.1))).trans (hHeld.2.2.2.2.2.2.2.2.2.2.2.2.2.2.1)
      have HS15_ := (hb.cell (World.block_lt_of_cell? _ _ (hHeld.2.2.2.2.2.2.2.2.2.2.2.2.2.2.2.1))).trans (hHeld.2.2.2.2.2.2.2.2.2.2.2.2.2.2.2.1)
      have HS16_ := (hb.cell (World.block_lt_of_cell? _ _ (hHeld.2.2.2.2.2.2.2.2.2.2.2.2.2.2.2.2.1))).trans (hHeld.2.2.2.2.2.2.2.2.2.2.2.2.2.2.2.2.1)
      have HS17_ := (hb.cell (World.block_lt_of_cell? _ _ (hHeld.2.2.2.2.2.2.2.2.2.2.2.2.2.2.2.2.2))).trans (hHeld.2.2.2.2.2.2.2.2.2.2.2.2.2.2.2.2.2)
      refine ⟨_, rfl, ?_⟩
      have n0_ := A0_ (Vb_ (wV_ HO_0.out) hb)
      have n1_ := A0_ (Vb_ (wV_ HO_1.out) hb)
      have n2_ := A0_ (Vb_ (wV_ HO_5.out) hb)
      have n3_ := A0_ (Vb_ (wV_ HL351_8.out) hb)
      have n4_ := A0_ (Vb_ (wV_ HO362.out) hb)
      have n5_ := A0_ (Vb_ (wV_ HL365_8.out) hb)
      have n6_ := A0_ (Vb_ (wV_ HO376.out) hb)
      have n7_ := A0_ (Vb_ (wV_ HL379_8.out) hb)
      have n8_ := A0_ (blk_below (g := gb364) (o := .cells #[.string t352, .string t353, .string t354, .int .u8 t355, .int .i64 t356, .int .i64 t357, .int .i64 t358, .int .i64 t359, .slice Ao38 t360.length co38] 38 (0, 0)) (wB_ BK364.out) hb)
      have n9_ := A0_ (blk_below (g := gb378) (o := .cells #[.string t366, .string t367, .string t368, .int .u8 t369, .int .i64 t370, .int .i64 t371, .int .i64 t372, .int .i64 t373, .slice Ao44 t374.length co44] 38 (0, 0)) (wB_ BK378.out) hb)
      (first | have n10_ := A0_ (Kd.C_below (by repeat (first | (with_reducible exact HR379_8.out) | (with_reducible refine Ca_ ?_ _) | (with_reducible refine CN_ ?_ _) | (with_reducible refine C1_ ?_) | exact HR379_8.out)) hb) | have n10_ : Aside0 True := ⟨trivial⟩)
      have n11_ := A0_ (below_step (wb2_ HB.out GE364.out GE378.out) hb)
      clear HO_0
      clear HO_1
      clear HO_5
      clear HL351_8
      clear HO362
      clear HL365_8
      clear HO376
      clear HL379_8
      clear BK364
      clear BK378
      clear HR379_8
      clear HB
      have HO_0 := n0_
      have HO_1 := n1_
      have HO_5 := n2_
      have HL351_8 := n3_
      have HO362 := n4_
      have HL365_8 := n5_
      have HO376 := n6_
      have HL379_8 := n7_
      have BK364 := n8_
      have BK378 := n9_
      have HR379_8 := n10_
      have HB := n11_
      clear n0_ n1_ n2_ n3_ n4_ n5_ n6_ n7_ n8_ n9_ n10_ n11_
      (try clear hb)
      (try clear hb2)
      (try clear hk)
      (try clear hi)
      refine hK.out _ _ ⟨(bc_ BK364.out 0).trans rfl, (bc_ BK364.out 1).trans rfl, (bc_ BK364.out 2).trans rfl, (bc_ BK364.out 3).trans rfl, (bc_ BK364.out 4).trans rfl, (bc_ BK364.out 5).trans rfl, (bc_ BK364.out 6).trans rfl, (bc_ BK364.out 7).trans rfl, (bc_ BK364.out 8).trans rfl, HS9_, HS10_, HS11_, HS12_, HS13_, HS14_, HS15_, HS16_, HS17_⟩ (fun hHeld => ?_)
      clear hK K
      refine norm_ (a' := ?_) ?_ ?_
      rotate_left
      ·show Act.put _ (some 78) _ = _
       simp only [Act.put, List.setIfInBounds_toArray, List.set_cons_zero, List.set_cons_succ, i64_w, i32_w]
       rfl
      refine pur_ (i := 12) (N := some 79) q6_28 (any_of HT_.out (by kernel_rfl)) ?_
      refine pur_ (i := 13) (N := some 80) q6_29 (any_of HT_.out (by kernel_rfl)) ?_
      refine pur_ (i := 14) (N := some 81) q6_30 (any_of HT_.out (by kernel_rfl)) ?_
      refine done_ (done_of HT_.out (by kernel_rfl)) ?_
      try go_wp2
      go_meet
      case rel => exact ⟨_, (!t380), wr_, H', ⟨by have := HJ2.out; have := HK2.out; first | omega | exact Nat.le_refl _⟩, ⟨wV_ HO_0.out⟩, ⟨wV_ HO_1.out⟩, ⟨wV_ HO_5.out⟩, ⟨wV_ HO362.out⟩, ⟨wV_ HO376.out⟩, ⟨wB_ BK364.out⟩, ⟨wB_ BK378.out⟩, ⟨wb2_ HB.out GE364.out GE378.out⟩⟩
     case rest =>
      clear HC33
      try clear c1
      try clear c2
      try clear p2
      try clear c3
      try clear p3
      try clear q3
      try clear hx3
      try clear c4
      try clear c20
      try clear c35
      try clear c36
      try clear c37
      try clear p37
      try clear q37
      try clear hx37
      try clear c45
      try clear c46
      try clear hx379_0
      try clear hx379_1
      try clear hx379_2
      try clear hx379_3
      try clear hx379_4
      try clear hx379_5
      try clear hx379_6
      try clear hx379_7
      try clear hx379_8
      try clear p379
      try clear q379
      obtain ⟨kq, x81_32, rfl, HA, HJ32, HO_0, HO_1, HO_5, HO_365008, HO_379008, BK364, BK378, HB⟩ := hcut
      cases kq with
      | zero => exact absurd HA.out (by simp [bindlelaw19_UnionLast.j2])
      | succ kj32 =>
       have H := HA.out
       clear HA
       simp only [bindlelaw19_UnionLast.j2] at H
       by_cases c55 : x81_32 = true
       ·subst c55
        have H1 : (some false) = some r := by rw [if_pos rfl] at H; exact H
        clear H
        have H := H1
        clear H1
        obtain rfl := Option.some.inj H
        go_wp2
        go_ret
        exact ⟨we_, wb2_ HB.out GE364.out GE378.out⟩
       replace c55 := Bool.eq_false_iff.mpr c55
       subst c55
       have H1 : (if t377 = true then (bindlelaw19_UnionLast.l0 kj32 l0 l1 t347 x7_2 (wrap64 (x8_2 + 1))) else (bindlelaw19_UnionLast.l0 kj32 l0 l1 t347 (wrap64 (x7_2 + 1)) (wrap64 (x8_2 + 1)))) = some r := by rw [if_neg (show ¬ (false = true) by decide)] at H; exact H
       clear H
       have H := H1
       clear H1
       by_cases c56 : t377 = true
       ·subst c56
        have H1 : (bindlelaw19_UnionLast.l0 kj32 l0 l1 t347 x7_2 (wrap64 (x8_2 + 1))) = some r := by rw [if_pos rfl] at H; exact H
        clear H
        have H := H1
        clear H1
        have H' := A0_ H
        clear H
        go_wp2
        go_roundg kj32
        case measure => have := HJ2.out; have := HK2.out; have := HJ32.out; omega
        case rel => exact ⟨(x7_2), (wrap64 (x8_2 + 1)), wr_, wr_, H', ⟨by have := HJ2.out; have := HK2.out; have := HJ32.out; omega⟩, ⟨by (with_reducible repeat (first | apply Va_ | apply VN_ | apply V1_)); exact Kd.V_mono HO_0.out (fun _ hk => hk.1)⟩, ⟨by (with_reducible repeat (first | apply Va_ | apply VN_ | apply V1_)); exact Kd.V_mono HO_1.out (fun _ hk => hk.1)⟩, ⟨by (with_reducible repeat (first | apply Va_ | apply VN_ | apply V1_)); exact Kd.V_mono HO_5.out (fun _ hk => hk.1)⟩, ⟨wb2_ HB.out GE364.out GE378.out⟩⟩
       replace c56 := Bool.eq_false_iff.mpr c56
       subst c56
       have H1 : (bindlelaw19_UnionLast.l0 kj32 l0 l1 t347 (wrap64 (x7_2 + 1)) (wrap64 (x8_2 + 1))) = some r := by rw [if_neg (show ¬ (false = true) by decide)] at H; exact H
       clear H
       have H := H1
       clear H1
       have H' := A0_ H
       clear H
       go_wp2
       go_roundg kj32
       case measure => have := HJ2.out; have := HK2.out; have := HJ32.out; omega
       case rel => exact ⟨(wrap64 (x7_2 + 1)), (wrap64 (x8_2 + 1)), wr_, wr_, H', ⟨by have := HJ2.out; have := HK2.out; have := HJ32.out; omega⟩, ⟨by (with_reducible repeat (first | apply Va_ | apply VN_ | apply V1_)); exact Kd.V_mono HO_0.out (fun _ hk => hk.1)⟩, ⟨by (with_reducible repeat (first | apply Va_ | apply VN_ | apply V1_)); exact Kd.V_mono HO_1.out (fun _ hk => hk.1)⟩, ⟨by (with_reducible repeat (first | apply Va_ | apply VN_ | apply V1_)); exact Kd.V_mono HO_5.out (fun _ hk => hk.1)⟩, ⟨wb2_ HB.out GE364.out GE378.out⟩⟩
end Go.Proofs.YtfmphccoeinhcaaDoor.Print

namespace Go.Proofs.YtfmphccoeinhcaaDoor
open Go.RowKit Go.Proofs.YtfmphccoeinhcaaDoor.Print Go.Proofs.YtfmphccoeinhcaaDoorW.PrintWords
set_option linter.unusedVariables false
theorem uokl_z {ls : List (List Node)} (h : OkL ls) (hz : ∀ t ∈ ls, ∀ x ∈ t, NodeZ x) : ∀ t ∈ ls, TreeZ t ∧ t.length ≤ 60 := fun t ht => by
 obtain ⟨h1, h2⟩ := h t ht
 refine ⟨treeZ_of (by omega) (fun x hx => ?_), h1⟩
 have h3 := h2 x hx
 have h4 : szN x = x.f5.length + x.f0.size + x.f1.size := rfl
 exact ⟨hz t ht x hx, by omega, by omega⟩
theorem urgood_f {l : List Node} (h : TreeZ l) : bindleref08_GoodTree.f l = some (goodTree l) := by
 unfold bindleref08_GoodTree.f
 rw [if_pos ((nodesZ_iff l).2 h.2.1)]
theorem uunion_f {ls : List (List Node)} (hl : ls.length ≤ 10000) (h : ∀ t ∈ ls, TreeZ t) : union_Union.f ls = some (unionF ls) := by
 unfold union_Union.f
 rw [if_pos ((treesZB_iff ls).2 ⟨hl, h⟩)]
theorem mem2 {P : List Node → Prop} {a b : List Node} (ha : P a) (hb : P b) : ∀ t ∈ [a, b], P t := fun t ht => by
 rcases List.mem_cons.1 ht with rfl | ht
 ·exact ha
 ·rw [List.mem_singleton] at ht; rw [ht]; exact hb
theorem last_ans (a b : List Node) : Ev (fun k => bindlelaw19_UnionLast.j0 k a b true) true :=
 Ev.step (f := fun _ => some true) (fun k => by rw [bindlelaw19_UnionLast.j0, if_pos rfl, bindlelaw19_answers.val]; rfl) (Ev.now _)
theorem join_b {a b : List Node} (gb : goodTree b = true) {x : Node} (hx : x ∈ b) : joinS (srcT a) (srcT b) x.f0 = some (.inr x.f2, x) := by
 unfold joinS srcT
 rw [findF_here (good_parts gb).1 hx]
 rfl
theorem join_a {a b : List Node} (ga : goodTree a = true) {x : Node} (hx : x ∈ a) (hb : findF b x.f0 = none) : joinS (srcT a) (srcT b) x.f0 = some (.inl x.f2, x) := by
 unfold joinS srcT
 rw [findF_here (good_parts ga).1 hx, hb]
 rfl
theorem last_count {a b : List Node} (ga : goodTree a = true) (gb : goodTree b = true) (hl : a.length + b.length ≤ 4096) : (unionF [a, b]).1.length = b.length + (a.filter (fun x => hasNo b x.f0)).length := by
 have h := (union_two ga gb hl).2
 have nd : ((unionF [a, b]).1.map (fun x => x.f0)).Nodup := paths_nodup (good_parts h.good).1
 have nd2 : (b.map (fun x => x.f0) ++ (a.filter (fun x => hasNo b x.f0)).map (fun x => x.f0)).Nodup := by
  rw [List.nodup_append]
  refine ⟨paths_nodup (good_parts gb).1, (paths_nodup (good_parts ga).1).sublist (List.filter_sublist.map _), fun p hp q hq e => ?_⟩
  subst e
  obtain ⟨x, hx, rfl⟩ := List.mem_map.1 hq
  have h2 := (List.mem_filter.1 hx).2
  rw [← findF_is] at hp
  unfold hasNo at h2
  rw [Option.isNone_iff_eq_none] at h2
  rw [h2] at hp
  cases hp
 have hperm := (List.perm_ext_iff_of_nodup nd nd2).2 (fun p => by
  rw [← findF_is, from_is h p, List.mem_append, ← findF_is (l := b), List.mem_map]
  unfold joinS
  constructor
  ·intro hs
   cases hb : findF b p with
   | some y => exact .inl rfl
   | none =>
    have e : srcT b p = none := by unfold srcT; rw [hb]; rfl
    rw [e] at hs
    simp only [Option.isSome_map, srcT_isSome] at hs
    rw [findF_is, List.mem_map] at hs
    obtain ⟨x, hx, rfl⟩ := hs
    exact .inr ⟨x, List.mem_filter.2 ⟨hx, by unfold hasNo; rw [hb]; rfl⟩, rfl⟩
  ·rintro (hs | ⟨x, hx, rfl⟩)
   ·cases hb : findF b p with
    | some y =>
     have e : srcT b p = some (y.f2, y) := by unfold srcT; rw [hb]; rfl
     rw [e]
     rfl
    | none => rw [hb] at hs; cases hs
   ·obtain ⟨h1, h2⟩ := List.mem_filter.1 hx
    unfold hasNo at h2
    rw [Option.isNone_iff_eq_none] at h2
    have e : srcT b x.f0 = none := by unfold srcT; rw [h2]; rfl
    rw [e]
    simp only [Option.isSome_map, srcT_isSome]
    rw [findF_is]
    exact List.mem_map.2 ⟨x, h1, rfl⟩)
 have := hperm.length_eq
 rw [List.length_append, List.length_map, List.length_map, List.length_map] at this
 exact this
theorem last_l1 {a b : List Node} (ga : goodTree a = true) (gb : goodTree b = true) (hla : a.length ≤ 60) (hlb : b.length ≤ 60) : ∀ (d i : Nat), i + d = b.length → Ev (fun k => bindlelaw19_UnionLast.l1 k b (unionF [a, b]).1 ((unionF [a, b]).1.length : Int) (i : Int)) true := by
 have h := (union_two ga gb (by omega)).2
 have hlt : (unionF [a, b]).1.length ≤ 4096 := (good_parts h.good).2.2.1
 intro d
 induction d with
 | zero =>
  intro i hi
  refine Ev.step (f := fun _ => some true) (fun k => ?_) (Ev.now true)
  rw [bindlelaw19_UnionLast.l1, if_neg (by omega), bindlelaw19_answers.val, Option.bind_some, if_pos rfl]
  simp
 | succ d ih =>
  intro i hi
  have hib : i < b.length := by omega
  obtain ⟨y, hy, he⟩ := h.yes _ _ _ (join_b (a := a) gb (List.getElem_mem hib))
  refine Ev.step (f := fun k => (bindleref08_Find.f k (unionF [a, b]).1 b[i].f0).bind fun bt => _) (fun k => by rw [bindlelaw19_UnionLast.l1, if_pos (by omega), if_pos (by omega), rdN_n b i hib]) ?_
  refine Ev.bind (rfind_eq (unionF [a, b]).1 b[i].f0 (by omega)) ?_
  rw [hy]
  refine Ev.congr (fun k => ?_) (ih (i + 1) (by omega))
  rw [if_pos (by rfl)]
  show (bindleref08_Equal.f y.f0 y.f1 y.f2 y.f3 y.f4.f0 y.f4.f1 y.f4.f2 y.f4.f3 y.f5 _ _ _ _ _ _ _ _ _).bind _ = _
  rw [requal_f, he, Option.bind_some, if_pos rfl, w_one i (by omega)]
theorem last_l0 {a b : List Node} (ga : goodTree a = true) (gb : goodTree b = true) (hla : a.length ≤ 60) (hlb : b.length ≤ 60) : ∀ (d i : Nat), i + d = a.length → Ev (fun k => bindlelaw19_UnionLast.l0 k a b (unionF [a, b]).1 ((b.length + ((a.take i).filter (fun x => hasNo b x.f0)).length : Nat) : Int) (i : Int)) true := by
 have h := (union_two ga gb (by omega)).2
 have hlt : (unionF [a, b]).1.length ≤ 4096 := (good_parts h.good).2.2.1
 intro d
 induction d with
 | zero =>
  intro i hi
  refine Ev.step (fun k => ?_) (last_l1 ga gb hla hlb b.length 0 (by omega))
  rw [bindlelaw19_UnionLast.l0, if_neg (by omega), List.take_of_length_le (by omega), ← last_count ga gb (by omega)]
  rfl
 | succ d ih =>
  intro i hi
  have hia : i < a.length := by omega
  have hxm : a[i] ∈ a := List.getElem_mem hia
  have hle : ((a.take i).filter (fun x => hasNo b x.f0)).length ≤ 60 := Nat.le_trans (List.length_filter_le _ _) (by rw [List.length_take]; omega)
  have hnext := ih (i + 1) (by omega)
  rw [List.take_succ_eq_append_getElem hia, List.filter_append, List.length_append] at hnext
  refine Ev.step (f := fun k => (bindleref08_Find.f k (unionF [a, b]).1 a[i].f0).bind fun bt => _) (fun k => by rw [bindlelaw19_UnionLast.l0, if_pos (by omega), if_pos (by omega), rdN_n a i hia]) ?_
  refine Ev.bind (rfind_eq (unionF [a, b]).1 a[i].f0 (by omega)) ?_
  refine Ev.bind (rfind_eq b a[i].f0 (by omega)) ?_
  cases hfb : findF b a[i].f0 with
  | some z =>
   obtain ⟨hzb, hz0⟩ := findF_mem hfb
   obtain ⟨y, hy, _⟩ := h.yes _ _ _ (join_b (a := a) gb hzb)
   rw [hz0] at hy
   have hno : hasNo b a[i].f0 = false := by unfold hasNo; rw [hfb]; rfl
   rw [List.filter_cons_of_neg (p := fun x : Node => hasNo b x.f0) (by rw [hno]; decide)] at hnext
   rw [hy]
   refine Ev.congr (f := fun k => bindlelaw19_UnionLast.j2 k a b (unionF [a, b]).1 ((b.length + ((a.take i).filter (fun x => hasNo b x.f0)).length : Nat) : Int) (i : Int) true false) (fun k => ?_) ?_
   ·rw [if_pos (by rfl), if_pos (by rfl)]
    rfl
   ·refine Ev.step (fun k => ?_) hnext
    rw [bindlelaw19_UnionLast.j2, if_neg (by decide), if_pos rfl, w_one i (by omega)]
    rfl
  | none =>
   obtain ⟨y, hy, he⟩ := h.yes _ _ _ (join_a ga hxm hfb)
   have hno : hasNo b a[i].f0 = true := by unfold hasNo; rw [hfb]; rfl
   rw [List.filter_cons_of_pos (p := fun x : Node => hasNo b x.f0) hno] at hnext
   rw [hy]
   refine Ev.congr (f := fun k => bindlelaw19_UnionLast.j2 k a b (unionF [a, b]).1 ((b.length + ((a.take i).filter (fun x => hasNo b x.f0)).length : Nat) : Int) (i : Int) false false) (fun k => ?_) ?_
   ·rw [if_pos (by rfl), if_neg (by simp [tupN])]
    show (bindleref08_Equal.f y.f0 y.f1 y.f2 y.f3 y.f4.f0 y.f4.f1 y.f4.f2 y.f4.f3 y.f5 _ _ _ _ _ _ _ _ _).bind _ = _
    rw [requal_f, he, Option.bind_some]
    rfl
   ·refine Ev.step (fun k => ?_) hnext
    rw [bindlelaw19_UnionLast.j2, if_neg (by decide), if_neg (by decide), w_one i (by omega), w_one _ (by omega)]
    rfl
theorem UnionLast_true (a b : List Node) (ha : ∀ x ∈ a, NodeZ x) (hb : ∀ x ∈ b, NodeZ x) : Ev (fun k => bindlelaw19_UnionLast.f k a b) true := by
 have hzs : ∀ t ∈ [a, b], ∀ x ∈ t, NodeZ x := mem2 (P := fun t => ∀ x ∈ t, NodeZ x) ha hb
 obtain ⟨r, h1, h2⟩ := light19_eq [a, b] hzs
 unfold bindlelaw19_UnionLast.f
 refine Ev.bind h1 ?_
 cases r with
 | false => exact Ev.congr (fun k => by rw [if_neg (by decide)]) (last_ans a b)
 | true =>
  have hz := uokl_z (h2 rfl).1 hzs
  have za := hz a (by simp)
  have zb := hz b (by simp)
  refine Ev.congr (fun k => by rw [if_pos rfl, urgood_f za.1, Option.bind_some]) ?_
  cases ga : goodTree a with
  | false => exact Ev.congr (fun k => by rw [if_neg (by decide)]) (last_ans a b)
  | true =>
   refine Ev.congr (fun k => by rw [if_pos rfl, urgood_f zb.1, Option.bind_some]) ?_
   cases gb : goodTree b with
   | false => exact last_ans a b
   | true =>
    refine Ev.step (fun k => ?_) (last_l0 ga gb za.2 zb.2 a.length 0 (by omega))
    rw [bindlelaw19_UnionLast.j0, if_neg (by decide), uunion_f (by simp) (mem2 za.1 zb.1), Option.bind_some]
    rfl
end Go.Proofs.YtfmphccoeinhcaaDoor

namespace Go.Proofs.YtfmphccoeinhcaaDoor
open Go.RowKit Go.Lib Go.Proofs.YtfmphccoeinhcaaDoorW.PrintWords
theorem laidOut : laidOutB Tryd.prog = true := by kernel_rfl
end Go.Proofs.YtfmphccoeinhcaaDoor
