/-
  Part of the proof that TreeFinds answers true: texts put together (wip/bundle.py).
-/
import Derived.Test.YtfljbidecljlcaaDoorCTreeFinds4
namespace Go.Proofs.YtfljbidecljlcaaDoor.Print
open Go.RowKit Go.Proofs.YtfljbidecljlcaaDoorW.PrintWords Go.Proofs.YtfljbidecljlcaaDoorW.PrintLast Go.Proofs.YtfljbidecljlcaaDoorW.PrintMore
attribute [local go_sem] max2_int min2_int max_two min_two max_three min_three max_four min_four   -- for this text's walks alone
set_option linter.unusedVariables false
set_option linter.unusedSimpArgs false
attribute [local go_sem high] eqA38
def bindleref08_Equal.f (a0_0 : ByteArray) (a0_1 : ByteArray) (a0_2 : ByteArray) (a0_3 : Int) (a0_4 : Int) (a0_5 : Int) (a0_6 : Int) (a0_7 : Int) (l0_8 : List Int) (a1_0 : ByteArray) (a1_1 : ByteArray) (a1_2 : ByteArray) (a1_3 : Int) (a1_4 : Int) (a1_5 : Int) (a1_6 : Int) (a1_7 : Int) (l1_8 : List Int) : Option (Bool) := if a0_0.toList = a1_0.toList then (if a0_3 = a1_3 then (if (a0_4 == a1_4 && (a0_5 == a1_5 && (a0_6 == a1_6 && (a0_7 == a1_7)))) = true then (if a0_1.toList = a1_1.toList then (some ((strOfNums l0_8).toList == (strOfNums l1_8).toList)) else (some false)) else (some false)) else (some false)) else (some false)
set_option maxHeartbeats 8000000 in
set_option maxRecDepth 100000 in
theorem bindleref08_Equal.calls (a0_0 : ByteArray) (a0_1 : ByteArray) (a0_2 : ByteArray) (a0_3 : Int) (a0_4 : Int) (a0_5 : Int) (a0_6 : Int) (a0_7 : Int) (A0_8 : Option Addr) (c0_8 : Nat) (l0_8 : List Int) (a1_0 : ByteArray) (a1_1 : ByteArray) (a1_2 : ByteArray) (a1_3 : Int) (a1_4 : Int) (a1_5 : Int) (a1_6 : Int) (a1_7 : Int) (A1_8 : Option Addr) (c1_8 : Nat) (l1_8 : List Int) (r : Bool) (w : World) (hr0_8 : Kd.C (Kd.int .u8) w A0_8 l0_8.length l0_8) (hc0_8 : l0_8.length ≤ c0_8) (hr1_8 : Kd.C (Kd.int .u8) w A1_8 l1_8.length l1_8) (hc1_8 : l1_8.length ≤ c1_8) (h : bindleref08_Equal.f a0_0 a0_1 a0_2 a0_3 a0_4 a0_5 a0_6 a0_7 l0_8 a1_0 a1_1 a1_2 a1_3 a1_4 a1_5 a1_6 a1_7 l1_8 = some r) :
  Calls Tryd.prog 35 #[.agg #[.string a0_0, .string a0_1, .string a0_2, .int .u8 a0_3, .int .i64 a0_4, .int .i64 a0_5, .int .i64 a0_6, .int .i64 a0_7, .slice A0_8 l0_8.length c0_8], .agg #[.string a1_0, .string a1_1, .string a1_2, .int .u8 a1_3, .int .i64 a1_4, .int .i64 a1_5, .int .i64 a1_6, .int .i64 a1_7, .slice A1_8 l1_8.length c1_8]] w fun e w' => e = .returned (.bool r) ∧ Below w.heap.size w w' := by
 have hu40 := Tryd.underlying40
 have hu38 := Tryd.underlying38
 have HR0_8 := A0_ hr0_8
 have HC0_8 := A0_ hc0_8
 clear hr0_8 hc0_8
 have HR1_8 := A0_ hr1_8
 have HC1_8 := A0_ hc1_8
 clear hr1_8 hc1_8
 have HB := A0_ (Below.refl w.heap.size w)
 have H : (if a0_0.toList = a1_0.toList then (if a0_3 = a1_3 then (if (a0_4 == a1_4 && (a0_5 == a1_5 && (a0_6 == a1_6 && (a0_7 == a1_7)))) = true then (if a0_1.toList = a1_1.toList then (some ((strOfNums l0_8).toList == (strOfNums l1_8).toList)) else (some false)) else (some false)) else (some false)) else (some false)) = some r := h
 clear h
 by_cases c3 : a0_0.toList = a1_0.toList
 rotate_left
 ·rw [if_neg c3] at H
  have c3b0 : (a0_0.toList == a1_0.toList) = false := beq_eq_false_iff_ne.mpr c3
  have c3b1 : (a0_0.toList != a1_0.toList) = true := bne_iff_ne.mpr c3
  obtain rfl := Option.some.inj H
  go_enter Tryd.func35, Tryd.ntmps35
  go_wp2_with (first | ((with_reducible refine gate_dst (N := 2) rfl ?_); refine box_event ?hg (N := 2) ?hd (cs := #[.string a0_0, .string a0_1, .string a0_2, .int .u8 a0_3, .int .i64 a0_4, .int .i64 a0_5, .int .i64 a0_6, .int .i64 a0_7, .slice A0_8 l0_8.length c0_8]) (t := 40) ?hr ?_; (case hd => rfl); (case hg => rfl); (case hr => first | (go_simp; done) | (go_simp; rfl)); intro gb391 hg w29 hbox hb; have n0_ := A0_ (below_step (wb_ HB.out) hb); have n1_ := A0_ (hbox); have n2_ := A0_ ((by rw [hg]; exact (below_size (wb_ HB.out)) : w.heap.size ≤ gb391)); have n3_ := A0_ ((by rw [hg]; exact (below_size (wb_ HB.out)) : w.heap.size ≤ gb391)); clear HB; have HB := n0_; have BK391 := n1_; have GW391 := n2_; have GE391 := n3_; clear n0_ n1_ n2_ n3_; clear hb hbox hg) | ((with_reducible refine gate_dst (N := 3) rfl ?_); refine box_event ?hg (N := 3) ?hd (cs := #[.string a1_0, .string a1_1, .string a1_2, .int .u8 a1_3, .int .i64 a1_4, .int .i64 a1_5, .int .i64 a1_6, .int .i64 a1_7, .slice A1_8 l1_8.length c1_8]) (t := 40) ?hr ?_; (case hd => rfl); (case hg => rfl); (case hr => first | (go_simp; done) | (go_simp; rfl)); intro gb392 hg w30 hbox hb; have n0_ := A0_ (blk_below (g := gb391) (o := .cells #[.string a0_0, .string a0_1, .string a0_2, .int .u8 a0_3, .int .i64 a0_4, .int .i64 a0_5, .int .i64 a0_6, .int .i64 a0_7, .slice A0_8 l0_8.length c0_8] 40 (0, 0)) (wB_ BK391.out) hb); have n1_ := A0_ (below_step (wb1_ HB.out GE391.out) hb); have n2_ := A0_ (hbox); have n3_ := A0_ ((by rw [hg]; exact (below_size (wb1_ HB.out GE391.out)) : w.heap.size ≤ gb392)); have n4_ := A0_ ((by rw [hg]; exact (below_size (wb1_ HB.out GE391.out)) : w.heap.size ≤ gb392)); have n5_ := A0_ ((by rw [hg]; exact Nat.ne_of_lt (blk_lt (g := gb391) (o := .cells #[.string a0_0, .string a0_1, .string a0_2, .int .u8 a0_3, .int .i64 a0_4, .int .i64 a0_5, .int .i64 a0_6, .int .i64 a0_7, .slice A0_8 l0_8.length c0_8] 40 (0, 0)) (wB_ BK391.out)) : gb391 ≠ gb392)); have n6_ := A0_ ((by rw [hg]; exact Nat.ne_of_gt (blk_lt (g := gb391) (o := .cells #[.string a0_0, .string a0_1, .string a0_2, .int .u8 a0_3, .int .i64 a0_4, .int .i64 a0_5, .int .i64 a0_6, .int .i64 a0_7, .slice A0_8 l0_8.length c0_8] 40 (0, 0)) (wB_ BK391.out)) : gb392 ≠ gb391)); clear BK391; clear HB; have BK391 := n0_; have HB := n1_; have BK392 := n2_; have GW392 := n3_; have GE392 := n4_; have NB391_392 := n5_; have NB392_391 := n6_; clear n0_ n1_ n2_ n3_ n4_ n5_ n6_; clear hb hbox hg; have hnb31 := NB391_392.out; have hnc31 := NB392_391.out; have hcz32_0 : w30.cell? ⟨gb391, 0, none⟩ = some (.string a0_0) := (bc_ BK391.out 0).trans rfl; have hcz32_1 : w30.cell? ⟨gb391, 1, none⟩ = some (.string a0_1) := (bc_ BK391.out 1).trans rfl; have hcz32_2 : w30.cell? ⟨gb391, 2, none⟩ = some (.string a0_2) := (bc_ BK391.out 2).trans rfl; have hcz32_3 : w30.cell? ⟨gb391, 3, none⟩ = some (.int .u8 a0_3) := (bc_ BK391.out 3).trans rfl; have hcz32_4 : w30.cell? ⟨gb391, 4, none⟩ = some (.int .i64 a0_4) := (bc_ BK391.out 4).trans rfl; have hcz32_5 : w30.cell? ⟨gb391, 5, none⟩ = some (.int .i64 a0_5) := (bc_ BK391.out 5).trans rfl; have hcz32_6 : w30.cell? ⟨gb391, 6, none⟩ = some (.int .i64 a0_6) := (bc_ BK391.out 6).trans rfl; have hcz32_7 : w30.cell? ⟨gb391, 7, none⟩ = some (.int .i64 a0_7) := (bc_ BK391.out 7).trans rfl; have hcz32_8 : w30.cell? ⟨gb391, 8, none⟩ = some (.slice A0_8 l0_8.length c0_8) := (bc_ BK391.out 8).trans rfl; have hfz32_0 := bf_ BK391.out 0; have hfz32_1 := bf_ BK391.out 1; have hfz32_2 := bf_ BK391.out 2; have hfz32_3 := bf_ BK391.out 3; have hfz32_4 := bf_ BK391.out 4; have hfz32_5 := bf_ BK391.out 5; have hfz32_6 := bf_ BK391.out 6; have hfz32_7 := bf_ BK391.out 7; have hfz32_8 := bf_ BK391.out 8; have hcz33_0 : w30.cell? ⟨gb392, 0, none⟩ = some (.string a1_0) := (bc_ BK392.out 0).trans rfl; have hcz33_1 : w30.cell? ⟨gb392, 1, none⟩ = some (.string a1_1) := (bc_ BK392.out 1).trans rfl; have hcz33_2 : w30.cell? ⟨gb392, 2, none⟩ = some (.string a1_2) := (bc_ BK392.out 2).trans rfl; have hcz33_3 : w30.cell? ⟨gb392, 3, none⟩ = some (.int .u8 a1_3) := (bc_ BK392.out 3).trans rfl; have hcz33_4 : w30.cell? ⟨gb392, 4, none⟩ = some (.int .i64 a1_4) := (bc_ BK392.out 4).trans rfl; have hcz33_5 : w30.cell? ⟨gb392, 5, none⟩ = some (.int .i64 a1_5) := (bc_ BK392.out 5).trans rfl; have hcz33_6 : w30.cell? ⟨gb392, 6, none⟩ = some (.int .i64 a1_6) := (bc_ BK392.out 6).trans rfl; have hcz33_7 : w30.cell? ⟨gb392, 7, none⟩ = some (.int .i64 a1_7) := (bc_ BK392.out 7).trans rfl; have hcz33_8 : w30.cell? ⟨gb392, 8, none⟩ = some (.slice A1_8 l1_8.length c1_8) := (bc_ BK392.out 8).trans rfl; have hfz33_0 := bf_ BK392.out 0; have hfz33_1 := bf_ BK392.out 1; have hfz33_2 := bf_ BK392.out 2; have hfz33_3 := bf_ BK392.out 3; have hfz33_4 := bf_ BK392.out 4; have hfz33_5 := bf_ BK392.out 5; have hfz33_6 := bf_ BK392.out 6; have hfz33_7 := bf_ BK392.out 7; have hfz33_8 := bf_ BK392.out 8))
  go_ret
  exact ⟨we_, wb2_ HB.out GE391.out GE392.out⟩
 rw [if_pos c3] at H
 have c3b0 : (a0_0.toList == a1_0.toList) = true := beq_iff_eq.mpr c3
 have c3b1 : (a0_0.toList != a1_0.toList) = false := bne_eq_false_iff_eq.mpr c3
 clear c3
 by_cases c4 : a0_3 = a1_3
 rotate_left
 ·rw [if_neg c4] at H
  have c4b0 : (a0_3 == a1_3) = false := beq_eq_false_iff_ne.mpr c4
  have c4b1 : (a0_3 != a1_3) = true := bne_iff_ne.mpr c4
  obtain rfl := Option.some.inj H
  go_enter Tryd.func35, Tryd.ntmps35
  go_wp2_with (first | ((with_reducible refine gate_dst (N := 2) rfl ?_); refine box_event ?hg (N := 2) ?hd (cs := #[.string a0_0, .string a0_1, .string a0_2, .int .u8 a0_3, .int .i64 a0_4, .int .i64 a0_5, .int .i64 a0_6, .int .i64 a0_7, .slice A0_8 l0_8.length c0_8]) (t := 40) ?hr ?_; (case hd => rfl); (case hg => rfl); (case hr => first | (go_simp; done) | (go_simp; rfl)); intro gb391 hg w24 hbox hb; have n0_ := A0_ (below_step (wb_ HB.out) hb); have n1_ := A0_ (hbox); have n2_ := A0_ ((by rw [hg]; exact (below_size (wb_ HB.out)) : w.heap.size ≤ gb391)); have n3_ := A0_ ((by rw [hg]; exact (below_size (wb_ HB.out)) : w.heap.size ≤ gb391)); clear HB; have HB := n0_; have BK391 := n1_; have GW391 := n2_; have GE391 := n3_; clear n0_ n1_ n2_ n3_; clear hb hbox hg) | ((with_reducible refine gate_dst (N := 3) rfl ?_); refine box_event ?hg (N := 3) ?hd (cs := #[.string a1_0, .string a1_1, .string a1_2, .int .u8 a1_3, .int .i64 a1_4, .int .i64 a1_5, .int .i64 a1_6, .int .i64 a1_7, .slice A1_8 l1_8.length c1_8]) (t := 40) ?hr ?_; (case hd => rfl); (case hg => rfl); (case hr => first | (go_simp; done) | (go_simp; rfl)); intro gb392 hg w25 hbox hb; have n0_ := A0_ (blk_below (g := gb391) (o := .cells #[.string a0_0, .string a0_1, .string a0_2, .int .u8 a0_3, .int .i64 a0_4, .int .i64 a0_5, .int .i64 a0_6, .int .i64 a0_7, .slice A0_8 l0_8.length c0_8] 40 (0, 0)) (wB_ BK391.out) hb); have n1_ := A0_ (below_step (wb1_ HB.out GE391.out) hb); have n2_ := A0_ (hbox); have n3_ := A0_ ((by rw [hg]; exact (below_size (wb1_ HB.out GE391.out)) : w.heap.size ≤ gb392)); have n4_ := A0_ ((by rw [hg]; exact (below_size (wb1_ HB.out GE391.out)) : w.heap.size ≤ gb392)); have n5_ := A0_ ((by rw [hg]; exact Nat.ne_of_lt (blk_lt (g := gb391) (o := .cells #[.string a0_0, .string a0_1, .string a0_2, .int .u8 a0_3, .int .i64 a0_4, .int .i64 a0_5, .int .i64 a0_6, .int .i64 a0_7, .slice A0_8 l0_8.length c0_8] 40 (0, 0)) (wB_ BK391.out)) : gb391 ≠ gb392)); have n6_ := A0_ ((by rw [hg]; exact Nat.ne_of_gt (blk_lt (g := gb391) (o := .cells #[.string a0_0, .string a0_1, .string a0_2, .int .u8 a0_3, .int .i64 a0_4, .int .i64 a0_5, .int .i64 a0_6, .int .i64 a0_7, .slice A0_8 l0_8.length c0_8] 40 (0, 0)) (wB_ BK391.out)) : gb392 ≠ gb391)); clear BK391; clear HB; have BK391 := n0_; have HB := n1_; have BK392 := n2_; have GW392 := n3_; have GE392 := n4_; have NB391_392 := n5_; have NB392_391 := n6_; clear n0_ n1_ n2_ n3_ n4_ n5_ n6_; clear hb hbox hg; have hnb26 := NB391_392.out; have hnc26 := NB392_391.out; have hcz27_0 : w25.cell? ⟨gb391, 0, none⟩ = some (.string a0_0) := (bc_ BK391.out 0).trans rfl; have hcz27_1 : w25.cell? ⟨gb391, 1, none⟩ = some (.string a0_1) := (bc_ BK391.out 1).trans rfl; have hcz27_2 : w25.cell? ⟨gb391, 2, none⟩ = some (.string a0_2) := (bc_ BK391.out 2).trans rfl; have hcz27_3 : w25.cell? ⟨gb391, 3, none⟩ = some (.int .u8 a0_3) := (bc_ BK391.out 3).trans rfl; have hcz27_4 : w25.cell? ⟨gb391, 4, none⟩ = some (.int .i64 a0_4) := (bc_ BK391.out 4).trans rfl; have hcz27_5 : w25.cell? ⟨gb391, 5, none⟩ = some (.int .i64 a0_5) := (bc_ BK391.out 5).trans rfl; have hcz27_6 : w25.cell? ⟨gb391, 6, none⟩ = some (.int .i64 a0_6) := (bc_ BK391.out 6).trans rfl; have hcz27_7 : w25.cell? ⟨gb391, 7, none⟩ = some (.int .i64 a0_7) := (bc_ BK391.out 7).trans rfl; have hcz27_8 : w25.cell? ⟨gb391, 8, none⟩ = some (.slice A0_8 l0_8.length c0_8) := (bc_ BK391.out 8).trans rfl; have hfz27_0 := bf_ BK391.out 0; have hfz27_1 := bf_ BK391.out 1; have hfz27_2 := bf_ BK391.out 2; have hfz27_3 := bf_ BK391.out 3; have hfz27_4 := bf_ BK391.out 4; have hfz27_5 := bf_ BK391.out 5; have hfz27_6 := bf_ BK391.out 6; have hfz27_7 := bf_ BK391.out 7; have hfz27_8 := bf_ BK391.out 8; have hcz28_0 : w25.cell? ⟨gb392, 0, none⟩ = some (.string a1_0) := (bc_ BK392.out 0).trans rfl; have hcz28_1 : w25.cell? ⟨gb392, 1, none⟩ = some (.string a1_1) := (bc_ BK392.out 1).trans rfl; have hcz28_2 : w25.cell? ⟨gb392, 2, none⟩ = some (.string a1_2) := (bc_ BK392.out 2).trans rfl; have hcz28_3 : w25.cell? ⟨gb392, 3, none⟩ = some (.int .u8 a1_3) := (bc_ BK392.out 3).trans rfl; have hcz28_4 : w25.cell? ⟨gb392, 4, none⟩ = some (.int .i64 a1_4) := (bc_ BK392.out 4).trans rfl; have hcz28_5 : w25.cell? ⟨gb392, 5, none⟩ = some (.int .i64 a1_5) := (bc_ BK392.out 5).trans rfl; have hcz28_6 : w25.cell? ⟨gb392, 6, none⟩ = some (.int .i64 a1_6) := (bc_ BK392.out 6).trans rfl; have hcz28_7 : w25.cell? ⟨gb392, 7, none⟩ = some (.int .i64 a1_7) := (bc_ BK392.out 7).trans rfl; have hcz28_8 : w25.cell? ⟨gb392, 8, none⟩ = some (.slice A1_8 l1_8.length c1_8) := (bc_ BK392.out 8).trans rfl; have hfz28_0 := bf_ BK392.out 0; have hfz28_1 := bf_ BK392.out 1; have hfz28_2 := bf_ BK392.out 2; have hfz28_3 := bf_ BK392.out 3; have hfz28_4 := bf_ BK392.out 4; have hfz28_5 := bf_ BK392.out 5; have hfz28_6 := bf_ BK392.out 6; have hfz28_7 := bf_ BK392.out 7; have hfz28_8 := bf_ BK392.out 8))
  go_ret
  exact ⟨we_, wb2_ HB.out GE391.out GE392.out⟩
 rw [if_pos c4] at H
 have c4b0 : (a0_3 == a1_3) = true := beq_iff_eq.mpr c4
 have c4b1 : (a0_3 != a1_3) = false := bne_eq_false_iff_eq.mpr c4
 clear c4
 by_cases c5 : (a0_4 == a1_4 && (a0_5 == a1_5 && (a0_6 == a1_6 && (a0_7 == a1_7)))) = true
 rotate_left
 ·rw [if_neg c5] at H
  have c5b0 : (a0_4 == a1_4 && (a0_5 == a1_5 && (a0_6 == a1_6 && (a0_7 == a1_7)))) = false := by simpa using c5
  (try (have c5b1 : decide (a0_4 = a1_4 && (a0_5 == a1_5 && (a0_6 == a1_6 && (a0_7 == a1_7)))) = false := by simpa using c5))
  (try (have c5b2 : (a0_4 == a1_4 && (a0_5 == a1_5 && (a0_6 == a1_6 && (a0_7 == a1_7)))) = false := by simpa using c5))
  (try (have c5b3 : ¬ (a0_4 = a1_4 && (a0_5 == a1_5 && (a0_6 == a1_6 && (a0_7 == a1_7)))) := by simpa using c5))
  clear c5
  obtain rfl := Option.some.inj H
  go_enter Tryd.func35, Tryd.ntmps35
  go_wp2_with (first | ((with_reducible refine gate_dst (N := 2) rfl ?_); refine box_event ?hg (N := 2) ?hd (cs := #[.string a0_0, .string a0_1, .string a0_2, .int .u8 a0_3, .int .i64 a0_4, .int .i64 a0_5, .int .i64 a0_6, .int .i64 a0_7, .slice A0_8 l0_8.length c0_8]) (t := 40) ?hr ?_; (case hd => rfl); (case hg => rfl); (case hr => first | (go_simp; done) | (go_simp; rfl)); intro gb391 hg w19 hbox hb; have n0_ := A0_ (below_step (wb_ HB.out) hb); have n1_ := A0_ (hbox); have n2_ := A0_ ((by rw [hg]; exact (below_size (wb_ HB.out)) : w.heap.size ≤ gb391)); have n3_ := A0_ ((by rw [hg]; exact (below_size (wb_ HB.out)) : w.heap.size ≤ gb391)); clear HB; have HB := n0_; have BK391 := n1_; have GW391 := n2_; have GE391 := n3_; clear n0_ n1_ n2_ n3_; clear hb hbox hg) | ((with_reducible refine gate_dst (N := 3) rfl ?_); refine box_event ?hg (N := 3) ?hd (cs := #[.string a1_0, .string a1_1, .string a1_2, .int .u8 a1_3, .int .i64 a1_4, .int .i64 a1_5, .int .i64 a1_6, .int .i64 a1_7, .slice A1_8 l1_8.length c1_8]) (t := 40) ?hr ?_; (case hd => rfl); (case hg => rfl); (case hr => first | (go_simp; done) | (go_simp; rfl)); intro gb392 hg w20 hbox hb; have n0_ := A0_ (blk_below (g := gb391) (o := .cells #[.string a0_0, .string a0_1, .string a0_2, .int .u8 a0_3, .int .i64 a0_4, .int .i64 a0_5, .int .i64 a0_6, .int .i64 a0_7, .slice A0_8 l0_8.length c0_8] 40 (0, 0)) (wB_ BK391.out) hb); have n1_ := A0_ (below_step (wb1_ HB.out GE391.out) hb); have n2_ := A0_ (hbox); have n3_ := A0_ ((by rw [hg]; exact (below_size (wb1_ HB.out GE391.out)) : w.heap.size ≤ gb392)); have n4_ := A0_ ((by rw [hg]; exact (below_size (wb1_ HB.out GE391.out)) : w.heap.size ≤ gb392)); have n5_ := A0_ ((by rw [hg]; exact Nat.ne_of_lt (blk_lt (g := gb391) (o := .cells #[.string a0_0, .string a0_1, .string a0_2, .int .u8 a0_3, .int .i64 a0_4, .int .i64 a0_5, .int .i64 a0_6, .int .i64 a0_7, .slice A0_8 l0_8.length c0_8] 40 (0, 0)) (wB_ BK391.out)) : gb391 ≠ gb392)); have n6_ := A0_ ((by rw [hg]; exact Nat.ne_of_gt (blk_lt (g := gb391) (o := .cells #[.string a0_0, .string a0_1, .string a0_2, .int .u8 a0_3, .int .i64 a0_4, .int .i64 a0_5, .int .i64 a0_6, .int .i64 a0_7, .slice A0_8 l0_8.length c0_8] 40 (0, 0)) (wB_ BK391.out)) : gb392 ≠ gb391)); clear BK391; clear HB; have BK391 := n0_; have HB := n1_; have BK392 := n2_; have GW392 := n3_; have GE392 := n4_; have NB391_392 := n5_; have NB392_391 := n6_; clear n0_ n1_ n2_ n3_ n4_ n5_ n6_; clear hb hbox hg; have hnb21 := NB391_392.out; have hnc21 := NB392_391.out; have hcz22_0 : w20.cell? ⟨gb391, 0, none⟩ = some (.string a0_0) := (bc_ BK391.out 0).trans rfl; have hcz22_1 : w20.cell? ⟨gb391, 1, none⟩ = some (.string a0_1) := (bc_ BK391.out 1).trans rfl; have hcz22_2 : w20.cell? ⟨gb391, 2, none⟩ = some (.string a0_2) := (bc_ BK391.out 2).trans rfl; have hcz22_3 : w20.cell? ⟨gb391, 3, none⟩ = some (.int .u8 a0_3) := (bc_ BK391.out 3).trans rfl; have hcz22_4 : w20.cell? ⟨gb391, 4, none⟩ = some (.int .i64 a0_4) := (bc_ BK391.out 4).trans rfl; have hcz22_5 : w20.cell? ⟨gb391, 5, none⟩ = some (.int .i64 a0_5) := (bc_ BK391.out 5).trans rfl; have hcz22_6 : w20.cell? ⟨gb391, 6, none⟩ = some (.int .i64 a0_6) := (bc_ BK391.out 6).trans rfl; have hcz22_7 : w20.cell? ⟨gb391, 7, none⟩ = some (.int .i64 a0_7) := (bc_ BK391.out 7).trans rfl; have hcz22_8 : w20.cell? ⟨gb391, 8, none⟩ = some (.slice A0_8 l0_8.length c0_8) := (bc_ BK391.out 8).trans rfl; have hfz22_0 := bf_ BK391.out 0; have hfz22_1 := bf_ BK391.out 1; have hfz22_2 := bf_ BK391.out 2; have hfz22_3 := bf_ BK391.out 3; have hfz22_4 := bf_ BK391.out 4; have hfz22_5 := bf_ BK391.out 5; have hfz22_6 := bf_ BK391.out 6; have hfz22_7 := bf_ BK391.out 7; have hfz22_8 := bf_ BK391.out 8; have hcz23_0 : w20.cell? ⟨gb392, 0, none⟩ = some (.string a1_0) := (bc_ BK392.out 0).trans rfl; have hcz23_1 : w20.cell? ⟨gb392, 1, none⟩ = some (.string a1_1) := (bc_ BK392.out 1).trans rfl; have hcz23_2 : w20.cell? ⟨gb392, 2, none⟩ = some (.string a1_2) := (bc_ BK392.out 2).trans rfl; have hcz23_3 : w20.cell? ⟨gb392, 3, none⟩ = some (.int .u8 a1_3) := (bc_ BK392.out 3).trans rfl; have hcz23_4 : w20.cell? ⟨gb392, 4, none⟩ = some (.int .i64 a1_4) := (bc_ BK392.out 4).trans rfl; have hcz23_5 : w20.cell? ⟨gb392, 5, none⟩ = some (.int .i64 a1_5) := (bc_ BK392.out 5).trans rfl; have hcz23_6 : w20.cell? ⟨gb392, 6, none⟩ = some (.int .i64 a1_6) := (bc_ BK392.out 6).trans rfl; have hcz23_7 : w20.cell? ⟨gb392, 7, none⟩ = some (.int .i64 a1_7) := (bc_ BK392.out 7).trans rfl; have hcz23_8 : w20.cell? ⟨gb392, 8, none⟩ = some (.slice A1_8 l1_8.length c1_8) := (bc_ BK392.out 8).trans rfl; have hfz23_0 := bf_ BK392.out 0; have hfz23_1 := bf_ BK392.out 1; have hfz23_2 := bf_ BK392.out 2; have hfz23_3 := bf_ BK392.out 3; have hfz23_4 := bf_ BK392.out 4; have hfz23_5 := bf_ BK392.out 5; have hfz23_6 := bf_ BK392.out 6; have hfz23_7 := bf_ BK392.out 7; have hfz23_8 := bf_ BK392.out 8))
  go_ret
  exact ⟨we_, wb2_ HB.out GE391.out GE392.out⟩
 rw [if_pos c5] at H
 have c5b0 : (a0_4 == a1_4 && (a0_5 == a1_5 && (a0_6 == a1_6 && (a0_7 == a1_7)))) = true := c5
 (try (have c5b1 : decide (a0_4 = a1_4 && (a0_5 == a1_5 && (a0_6 == a1_6 && (a0_7 == a1_7)))) = true := by simpa using c5))
 (try (have c5b2 : (a0_4 == a1_4 && (a0_5 == a1_5 && (a0_6 == a1_6 && (a0_7 == a1_7)))) = true := by simpa using c5))
 clear c5
 by_cases c6 : a0_1.toList = a1_1.toList
 rotate_left
 ·rw [if_neg c6] at H
  have c6b0 : (a0_1.toList == a1_1.toList) = false := beq_eq_false_iff_ne.mpr c6
  have c6b1 : (a0_1.toList != a1_1.toList) = true := bne_iff_ne.mpr c6
  obtain rfl := Option.some.inj H
  go_enter Tryd.func35, Tryd.ntmps35
  go_wp2_with (first | ((with_reducible refine gate_dst (N := 2) rfl ?_); refine box_event ?hg (N := 2) ?hd (cs := #[.string a0_0, .string a0_1, .string a0_2, .int .u8 a0_3, .int .i64 a0_4, .int .i64 a0_5, .int .i64 a0_6, .int .i64 a0_7, .slice A0_8 l0_8.length c0_8]) (t := 40) ?hr ?_; (case hd => rfl); (case hg => rfl); (case hr => first | (go_simp; done) | (go_simp; rfl)); intro gb391 hg w14 hbox hb; have n0_ := A0_ (below_step (wb_ HB.out) hb); have n1_ := A0_ (hbox); have n2_ := A0_ ((by rw [hg]; exact (below_size (wb_ HB.out)) : w.heap.size ≤ gb391)); have n3_ := A0_ ((by rw [hg]; exact (below_size (wb_ HB.out)) : w.heap.size ≤ gb391)); clear HB; have HB := n0_; have BK391 := n1_; have GW391 := n2_; have GE391 := n3_; clear n0_ n1_ n2_ n3_; clear hb hbox hg) | ((with_reducible refine gate_dst (N := 3) rfl ?_); refine box_event ?hg (N := 3) ?hd (cs := #[.string a1_0, .string a1_1, .string a1_2, .int .u8 a1_3, .int .i64 a1_4, .int .i64 a1_5, .int .i64 a1_6, .int .i64 a1_7, .slice A1_8 l1_8.length c1_8]) (t := 40) ?hr ?_; (case hd => rfl); (case hg => rfl); (case hr => first | (go_simp; done) | (go_simp; rfl)); intro gb392 hg w15 hbox hb; have n0_ := A0_ (blk_below (g := gb391) (o := .cells #[.string a0_0, .string a0_1, .string a0_2, .int .u8 a0_3, .int .i64 a0_4, .int .i64 a0_5, .int .i64 a0_6, .int .i64 a0_7, .slice A0_8 l0_8.length c0_8] 40 (0, 0)) (wB_ BK391.out) hb); have n1_ := A0_ (below_step (wb1_ HB.out GE391.out) hb); have n2_ := A0_ (hbox); have n3_ := A0_ ((by rw [hg]; exact (below_size (wb1_ HB.out GE391.out)) : w.heap.size ≤ gb392)); have n4_ := A0_ ((by rw [hg]; exact (below_size (wb1_ HB.out GE391.out)) : w.heap.size ≤ gb392)); have n5_ := A0_ ((by rw [hg]; exact Nat.ne_of_lt (blk_lt (g := gb391) (o := .cells #[.string a0_0, .string a0_1, .string a0_2, .int .u8 a0_3, .int .i64 a0_4, .int .i64 a0_5, .int .i64 a0_6, .int .i64 a0_7, .slice A0_8 l0_8.length c0_8] 40 (0, 0)) (wB_ BK391.out)) : gb391 ≠ gb392)); have n6_ := A0_ ((by rw [hg]; exact Nat.ne_of_gt (blk_lt (g := gb391) (o := .cells #[.string a0_0, .string a0_1, .string a0_2, .int .u8 a0_3, .int .i64 a0_4, .int .i64 a0_5, .int .i64 a0_6, .int .i64 a0_7, .slice A0_8 l0_8.length c0_8] 40 (0, 0)) (wB_ BK391.out)) : gb392 ≠ gb391)); clear BK391; clear HB; have BK391 := n0_; have HB := n1_; have BK392 := n2_; have GW392 := n3_; have GE392 := n4_; have NB391_392 := n5_; have NB392_391 := n6_; clear n0_ n1_ n2_ n3_ n4_ n5_ n6_; clear hb hbox hg; have hnb16 := NB391_392.out; have hnc16 := NB392_391.out; have hcz17_0 : w15.cell? ⟨gb391, 0, none⟩ = some (.string a0_0) := (bc_ BK391.out 0).trans rfl; have hcz17_1 : w15.cell? ⟨gb391, 1, none⟩ = some (.string a0_1) := (bc_ BK391.out 1).trans rfl; have hcz17_2 : w15.cell? ⟨gb391, 2, none⟩ = some (.string a0_2) := (bc_ BK391.out 2).trans rfl; have hcz17_3 : w15.cell? ⟨gb391, 3, none⟩ = some (.int .u8 a0_3) := (bc_ BK391.out 3).trans rfl; have hcz17_4 : w15.cell? ⟨gb391, 4, none⟩ = some (.int .i64 a0_4) := (bc_ BK391.out 4).trans rfl; have hcz17_5 : w15.cell? ⟨gb391, 5, none⟩ = some (.int .i64 a0_5) := (bc_ BK391.out 5).trans rfl; have hcz17_6 : w15.cell? ⟨gb391, 6, none⟩ = some (.int .i64 a0_6) := (bc_ BK391.out 6).trans rfl; have hcz17_7 : w15.cell? ⟨gb391, 7, none⟩ = some (.int .i64 a0_7) := (bc_ BK391.out 7).trans rfl; have hcz17_8 : w15.cell? ⟨gb391, 8, none⟩ = some (.slice A0_8 l0_8.length c0_8) := (bc_ BK391.out 8).trans rfl; have hfz17_0 := bf_ BK391.out 0; have hfz17_1 := bf_ BK391.out 1; have hfz17_2 := bf_ BK391.out 2; have hfz17_3 := bf_ BK391.out 3; have hfz17_4 := bf_ BK391.out 4; have hfz17_5 := bf_ BK391.out 5; have hfz17_6 := bf_ BK391.out 6; have hfz17_7 := bf_ BK391.out 7; have hfz17_8 := bf_ BK391.out 8; have hcz18_0 : w15.cell? ⟨gb392, 0, none⟩ = some (.string a1_0) := (bc_ BK392.out 0).trans rfl; have hcz18_1 : w15.cell? ⟨gb392, 1, none⟩ = some (.string a1_1) := (bc_ BK392.out 1).trans rfl; have hcz18_2 : w15.cell? ⟨gb392, 2, none⟩ = some (.string a1_2) := (bc_ BK392.out 2).trans rfl; have hcz18_3 : w15.cell? ⟨gb392, 3, none⟩ = some (.int .u8 a1_3) := (bc_ BK392.out 3).trans rfl; have hcz18_4 : w15.cell? ⟨gb392, 4, none⟩ = some (.int .i64 a1_4) := (bc_ BK392.out 4).trans rfl; have hcz18_5 : w15.cell? ⟨gb392, 5, none⟩ = some (.int .i64 a1_5) := (bc_ BK392.out 5).trans rfl; have hcz18_6 : w15.cell? ⟨gb392, 6, none⟩ = some (.int .i64 a1_6) := (bc_ BK392.out 6).trans rfl; have hcz18_7 : w15.cell? ⟨gb392, 7, none⟩ = some (.int .i64 a1_7) := (bc_ BK392.out 7).trans rfl; have hcz18_8 : w15.cell? ⟨gb392, 8, none⟩ = some (.slice A1_8 l1_8.length c1_8) := (bc_ BK392.out 8).trans rfl; have hfz18_0 := bf_ BK392.out 0; have hfz18_1 := bf_ BK392.out 1; have hfz18_2 := bf_ BK392.out 2; have hfz18_3 := bf_ BK392.out 3; have hfz18_4 := bf_ BK392.out 4; have hfz18_5 := bf_ BK392.out 5; have hfz18_6 := bf_ BK392.out 6; have hfz18_7 := bf_ BK392.out 7; have hfz18_8 := bf_ BK392.out 8))
  go_ret
  exact ⟨we_, wb2_ HB.out GE391.out GE392.out⟩
 rw [if_pos c6] at H
 have c6b0 : (a0_1.toList == a1_1.toList) = true := beq_iff_eq.mpr c6
 have c6b1 : (a0_1.toList != a1_1.toList) = false := bne_eq_false_iff_eq.mpr c6
 clear c6
 obtain rfl := Option.some.inj H
 go_enter Tryd.func35, Tryd.ntmps35
 go_wp2_with (first | ((with_reducible refine gate_dst (N := 2) rfl ?_); refine box_event ?hg (N := 2) ?hd (cs := #[.string a0_0, .string a0_1, .string a0_2, .int .u8 a0_3, .int .i64 a0_4, .int .i64 a0_5, .int .i64 a0_6, .int .i64 a0_7, .slice A0_8 l0_8.length c0_8]) (t := 40) ?hr ?_; (case hd => rfl); (case hg => rfl); (case hr => first | (go_simp; done) | (go_simp; rfl)); intro gb391 hg w7 hbox hb; have n0_ := A0_ (below_step (wb_ HB.out) hb); have n1_ := A0_ (hbox); have n2_ := A0_ ((by rw [hg]; exact (below_size (wb_ HB.out)) : w.heap.size ≤ gb391)); have n3_ := A0_ ((by rw [hg]; exact (below_size (wb_ HB.out)) : w.heap.size ≤ gb391)); clear HB; have HB := n0_; have BK391 := n1_; have GW391 := n2_; have GE391 := n3_; clear n0_ n1_ n2_ n3_; clear hb hbox hg) | ((with_reducible refine gate_dst (N := 3) rfl ?_); refine box_event ?hg (N := 3) ?hd (cs := #[.string a1_0, .string a1_1, .string a1_2, .int .u8 a1_3, .int .i64 a1_4, .int .i64 a1_5, .int .i64 a1_6, .int .i64 a1_7, .slice A1_8 l1_8.length c1_8]) (t := 40) ?hr ?_; (case hd => rfl); (case hg => rfl); (case hr => first | (go_simp; done) | (go_simp; rfl)); intro gb392 hg w8 hbox hb; have n0_ := A0_ (blk_below (g := gb391) (o := .cells #[.string a0_0, .string a0_1, .string a0_2, .int .u8 a0_3, .int .i64 a0_4, .int .i64 a0_5, .int .i64 a0_6, .int .i64 a0_7, .slice A0_8 l0_8.length c0_8] 40 (0, 0)) (wB_ BK391.out) hb); have n1_ := A0_ (below_step (wb1_ HB.out GE391.out) hb); have n2_ := A0_ (hbox); have n3_ := A0_ ((by rw [hg]; exact (below_size (wb1_ HB.out GE391.out)) : w.heap.size ≤ gb392)); have n4_ := A0_ ((by rw [hg]; exact (below_size (wb1_ HB.out GE391.out)) : w.heap.size ≤ gb392)); have n5_ := A0_ ((by rw [hg]; exact Nat.ne_of_lt (blk_lt (g := gb391) (o := .cells #[.string a0_0, .string a0_1, .string a0_2, .int .u8 a0_3, .int .i64 a0_4, .int .i64 a0_5, .int .i64 a0_6, .int .i64 a0_7, .slice A0_8 l0_8.length c0_8] 40 (0, 0)) (wB_ BK391.out)) : gb391 ≠ gb392)); have n6_ := A0_ ((by rw [hg]; exact Nat.ne_of_gt (blk_lt (g := gb391) (o := .cells #[.string a0_0, .string a0_1, .string a0_2, .int .u8 a0_3, .int .i64 a0_4, .int .i64 a0_5, .int .i64 a0_6, .int .i64 a0_7, .slice A0_8 l0_8.length c0_8] 40 (0, 0)) (wB_ BK391.out)) : gb392 ≠ gb391)); clear BK391; clear HB; have BK391 := n0_; have HB := n1_; have BK392 := n2_; have GW392 := n3_; have GE392 := n4_; have NB391_392 := n5_; have NB392_391 := n6_; clear n0_ n1_ n2_ n3_ n4_ n5_ n6_; clear hb hbox hg; have hnb9 := NB391_392.out; have hnc9 := NB392_391.out; have hcz10_0 : w8.cell? ⟨gb391, 0, none⟩ = some (.string a0_0) := (bc_ BK391.out 0).trans rfl; have hcz10_1 : w8.cell? ⟨gb391, 1, none⟩ = some (.string a0_1) := (bc_ BK391.out 1).trans rfl; have hcz10_2 : w8.cell? ⟨gb391, 2, none⟩ = some (.string a0_2) := (bc_ BK391.out 2).trans rfl; have hcz10_3 : w8.cell? ⟨gb391, 3, none⟩ = some (.int .u8 a0_3) := (bc_ BK391.out 3).trans rfl; have hcz10_4 : w8.cell? ⟨gb391, 4, none⟩ = some (.int .i64 a0_4) := (bc_ BK391.out 4).trans rfl; have hcz10_5 : w8.cell? ⟨gb391, 5, none⟩ = some (.int .i64 a0_5) := (bc_ BK391.out 5).trans rfl; have hcz10_6 : w8.cell? ⟨gb391, 6, none⟩ = some (.int .i64 a0_6) := (bc_ BK391.out 6).trans rfl; have hcz10_7 : w8.cell? ⟨gb391, 7, none⟩ = some (.int .i64 a0_7) := (bc_ BK391.out 7).trans rfl; have hcz10_8 : w8.cell? ⟨gb391, 8, none⟩ = some (.slice A0_8 l0_8.length c0_8) := (bc_ BK391.out 8).trans rfl; have hfz10_0 := bf_ BK391.out 0; have hfz10_1 := bf_ BK391.out 1; have hfz10_2 := bf_ BK391.out 2; have hfz10_3 := bf_ BK391.out 3; have hfz10_4 := bf_ BK391.out 4; have hfz10_5 := bf_ BK391.out 5; have hfz10_6 := bf_ BK391.out 6; have hfz10_7 := bf_ BK391.out 7; have hfz10_8 := bf_ BK391.out 8; have hcz11_0 : w8.cell? ⟨gb392, 0, none⟩ = some (.string a1_0) := (bc_ BK392.out 0).trans rfl; have hcz11_1 : w8.cell? ⟨gb392, 1, none⟩ = some (.string a1_1) := (bc_ BK392.out 1).trans rfl; have hcz11_2 : w8.cell? ⟨gb392, 2, none⟩ = some (.string a1_2) := (bc_ BK392.out 2).trans rfl; have hcz11_3 : w8.cell? ⟨gb392, 3, none⟩ = some (.int .u8 a1_3) := (bc_ BK392.out 3).trans rfl; have hcz11_4 : w8.cell? ⟨gb392, 4, none⟩ = some (.int .i64 a1_4) := (bc_ BK392.out 4).trans rfl; have hcz11_5 : w8.cell? ⟨gb392, 5, none⟩ = some (.int .i64 a1_5) := (bc_ BK392.out 5).trans rfl; have hcz11_6 : w8.cell? ⟨gb392, 6, none⟩ = some (.int .i64 a1_6) := (bc_ BK392.out 6).trans rfl; have hcz11_7 : w8.cell? ⟨gb392, 7, none⟩ = some (.int .i64 a1_7) := (bc_ BK392.out 7).trans rfl; have hcz11_8 : w8.cell? ⟨gb392, 8, none⟩ = some (.slice A1_8 l1_8.length c1_8) := (bc_ BK392.out 8).trans rfl; have hfz11_0 := bf_ BK392.out 0; have hfz11_1 := bf_ BK392.out 1; have hfz11_2 := bf_ BK392.out 2; have hfz11_3 := bf_ BK392.out 3; have hfz11_4 := bf_ BK392.out 4; have hfz11_5 := bf_ BK392.out 5; have hfz11_6 := bf_ BK392.out 6; have hfz11_7 := bf_ BK392.out 7; have hfz11_8 := bf_ BK392.out 8; have hcv12 := Kd.C_string (P := Tryd.prog) (A := A0_8) (c := c0_8) Tryd.underlying23 Tryd.underlying5 Tryd.underlying9 (Kd.C_below HR0_8.out HB.out); have hcv13 := Kd.C_string (P := Tryd.prog) (A := A1_8) (c := c1_8) Tryd.underlying23 Tryd.underlying5 Tryd.underlying9 (Kd.C_below HR1_8.out HB.out)))
 go_ret
 exact ⟨we_, wb2_ HB.out GE391.out GE392.out⟩
end Go.Proofs.YtfljbidecljlcaaDoor.Print

namespace Go.Proofs.YtfljbidecljlcaaDoor.Print
open Go.RowKit Go.Proofs.YtfljbidecljlcaaDoorW.PrintWords Go.Proofs.YtfljbidecljlcaaDoorW.PrintLast Go.Proofs.YtfljbidecljlcaaDoorW.PrintMore
attribute [local go_sem] max2_int min2_int max_two min_two max_three min_three max_four min_four   -- for this text's walks alone
set_option linter.unusedVariables false
set_option linter.unusedSimpArgs false
abbrev q30_0 : Array Bool := #[false, false, false, false, false, false, false, false, false, false, false, false, false, false, false, false, false, false, false, false, false, false, false]
abbrev q30_1 : Array Bool := #[true, false, false, false, false, false, false, false, false, false, false, false, false, false, false, false, false, false, false, false, false, false, false]
abbrev q30_2 : Array Bool := #[true, true, false, false, false, false, false, false, false, false, false, false, false, false, false, false, false, false, false, false, false, false, false]
abbrev q30_3 : Array Bool := #[true, true, true, false, false, false, false, false, false, false, false, false, false, false, false, false, false, false, false, false, false, false, false]
abbrev q30_4 : Array Bool := #[true, true, true, true, false, false, false, false, false, false, false, false, false, false, false, false, false, false, false, false, false, false, false]
abbrev q30_5 : Array Bool := #[true, true, true, true, false, true, false, false, false, false, false, false, false, false, false, false, false, false, false, false, false, false, false]
abbrev q30_6 : Array Bool := #[true, true, true, true, false, true, true, false, false, false, false, false, false, false, false, false, false, false, false, false, false, false, false]
abbrev q30_7 : Array Bool := #[true, true, true, true, false, true, true, true, false, false, false, false, false, false, false, false, false, false, false, false, false, false, false]
abbrev q30_8 : Array Bool := #[true, true, true, true, false, true, true, true, true, false, false, false, false, false, false, false, false, false, false, false, false, false, false]
abbrev q30_9 : Array Bool := #[true, true, true, true, true, true, true, true, true, false, false, false, false, false, false, false, false, false, false, false, false, false, false]
abbrev q30_10 : Array Bool := #[true, true, true, true, true, true, true, true, true, true, false, false, false, false, false, false, false, false, false, false, false, false, false]
abbrev q30_11 : Array Bool := #[true, true, true, true, true, true, true, true, true, true, true, false, false, false, false, false, false, false, false, false, false, false, false]
abbrev q30_12 : Array Bool := #[true, true, true, true, true, true, true, true, true, true, true, true, false, false, false, false, false, false, false, false, false, false, false]
abbrev q30_13 : Array Bool := #[true, true, true, true, true, true, true, true, true, true, true, true, true, false, false, false, false, false, false, false, false, false, false]
abbrev q30_14 : Array Bool := #[true, true, true, true, true, true, true, true, true, true, true, true, true, true, false, false, false, false, false, false, false, false, false]
abbrev q30_15 : Array Bool := #[true, true, true, true, true, true, true, true, true, true, true, true, true, true, true, false, false, false, false, false, false, false, false]
abbrev q30_16 : Array Bool := #[true, true, true, true, true, true, true, true, true, true, true, true, true, true, true, true, false, false, false, false, false, false, false]
abbrev q30_17 : Array Bool := #[true, true, true, true, true, true, true, true, true, true, true, true, true, true, true, true, true, false, false, false, false, false, false]
abbrev q30_18 : Array Bool := #[true, true, true, true, true, true, true, true, true, true, true, true, true, true, true, true, true, true, false, false, false, false, false]
abbrev q30_19 : Array Bool := #[true, true, true, true, true, true, true, true, true, true, true, true, true, true, true, true, true, true, true, false, false, false, false]
abbrev q30_20 : Array Bool := #[true, true, true, true, true, true, true, true, true, true, true, true, true, true, true, true, true, true, true, true, false, false, false]
abbrev q30_21 : Array Bool := #[true, true, true, true, true, true, true, true, true, true, true, true, true, true, true, true, true, true, true, true, true, false, false]
abbrev q30_22 : Array Bool := #[true, true, true, true, true, true, true, true, true, true, true, true, true, true, true, true, true, true, true, true, true, true, false]
abbrev q30_23 : Array Bool := #[true, true, true, true, true, true, true, true, true, true, true, true, true, true, true, true, true, true, true, true, true, true, true]
abbrev q30_24 : Array Bool := #[true, true, true, true, true, true, true, true, true, true, true, true, true, true, true, false, true, false, false, false, false, false, false]
abbrev q30_25 : Array Bool := #[true, true, true, true, true, true, true, true, true, true, true, true, true, true, true, false, true, true, false, false, false, false, false]
abbrev q30_26 : Array Bool := #[true, true, true, true, true, true, true, true, true, true, true, true, true, true, true, false, true, true, true, false, false, false, false]
def bindleref08_SameTree.l0 : Nat → List (S40) → List (S40) → Int → Option (Bool)
 | 0, _, _, _ => none
 | k + 1, x0, x1, x5 => if x5 < (x0.length : Int) then (if 0 ≤ x5 then (if x5 < (x1.length : Int) then (if ((rd_T40 x0 x5).f2).toList = ((rd_T40 x1 x5).f2).toList then ((bindleref08_Equal.f ((rd_T40 x0 x5).f0) ((rd_T40 x0 x5).f1) ((rd_T40 x0 x5).f2) ((rd_T40 x0 x5).f3) ((rd_T40 x0 x5).f4.f0) ((rd_T40 x0 x5).f4.f1) ((rd_T40 x0 x5).f4.f2) ((rd_T40 x0 x5).f4.f3) ((rd_T40 x0 x5).f5) ((rd_T40 x1 x5).f0) ((rd_T40 x1 x5).f1) ((rd_T40 x1 x5).f2) ((rd_T40 x1 x5).f3) ((rd_T40 x1 x5).f4.f0) ((rd_T40 x1 x5).f4.f1) ((rd_T40 x1 x5).f4.f2) ((rd_T40 x1 x5).f4.f3) ((rd_T40 x1 x5).f5)).bind fun t397 => (if t397 = true then (bindleref08_SameTree.l0 k x0 x1 (wrap64 (x5 + 1))) else (some false))) else (some false)) else (none)) else (none)) else (some true)
def bindleref08_SameTree.f (k : Nat) (l0 : List (S40)) (l1 : List (S40)) : Option (Bool) := if (l0.length : Int) = (l1.length : Int) then (bindleref08_SameTree.l0 k l0 l1 0) else (some false)
def bindleref08_SameTree.T6 : Bool × List (List Nat × List Nat) := (true, [([], []), ([], []), ([0, 1], [0, 1]), ([2], [2]), ([3], [3]), ([], []), ([], []), ([5, 6], [5, 6]), ([7], [7]), ([8], [8]), ([4, 9], [4, 9]), ([10], [10]), ([11], [11]), ([11], [11]), ([12, 13, 11], [11, 12, 13]), ([14, 11], [11, 14]), ([11], [11]), ([11], [11]), ([16, 17, 11], [11, 16, 17]), ([18, 11], [11, 18]), ([15, 19, 11, 11], [11, 15, 19]), ([20, 11], [11, 20]), ([11, 21], [11, 21])])
def bindleref08_SameTree.B6 : List Nat := [0, 0, 3, 7, 15, 0, 0, 96, 224, 480, 1023, 2047, 4095, 4095, 16383, 32767, 4095, 4095, 200703, 462847, 1048575, 2097151, 4194303]
theorem bindleref08_SameTree.tab6 : rtab .any (opsOf Tryd.f30 6) = bindleref08_SameTree.T6 := by kernel_rfl
theorem bindleref08_SameTree.bits6 : waitsOk bindleref08_SameTree.T6.2 bindleref08_SameTree.B6 = true := by kernel_rfl
set_option maxHeartbeats 8000000 in
set_option maxRecDepth 100000 in
theorem bindleref08_SameTree.calls (k : Nat) (A0 : Option Addr) (c0 : Nat) (l0 : List (S40)) (A1 : Option Addr) (c1 : Nat) (l1 : List (S40)) (r : Bool) (w : World) (hr0 : Kd.C k40 w A0 l0.length l0) (hc0 : l0.length ≤ c0) (hr1 : Kd.C k40 w A1 l1.length l1) (hc1 : l1.length ≤ c1) (h : bindleref08_SameTree.f k l0 l1 = some r) :
  Calls Tryd.prog 30 #[.slice A0 l0.length c0, .slice A1 l1.length c1] w fun e w' => e = .returned (.bool r) ∧ Below w.heap.size w w' := by
 have hu40 := Tryd.underlying40
 have HR0 := A0_ hr0
 have HC0 := A0_ hc0
 clear hr0 hc0
 have HR1 := A0_ hr1
 have HC1 := A0_ hc1
 clear hr1 hc1
 have HB := A0_ (Below.refl w.heap.size w)
 have H : (if (l0.length : Int) = (l1.length : Int) then (bindleref08_SameTree.l0 k l0 l1 0) else (some false)) = some r := h
 clear h
 by_cases c3 : (l0.length : Int) = (l1.length : Int)
 rotate_left
 ·rw [if_neg c3] at H
  have c3b0 : ((l0.length : Int) == (l1.length : Int)) = false := beq_eq_false_iff_ne.mpr c3
  have c3b1 : ((l0.length : Int) != (l1.length : Int)) = true := bne_iff_ne.mpr c3
  have c3b2 : (l0.length == l1.length) = false := by first | simpa using c3 | (simp at c3 ⊢; omega)
  obtain rfl := Option.some.inj H
  go_enter Tryd.func30, Tryd.ntmps30
  go_wp2
  go_ret
  exact ⟨we_, wb_ HB.out⟩
 rw [if_pos c3] at H
 have c3b0 : ((l0.length : Int) == (l1.length : Int)) = true := beq_iff_eq.mpr c3
 have c3b1 : ((l0.length : Int) != (l1.length : Int)) = false := bne_eq_false_iff_eq.mpr c3
 have c3b2 : (l0.length == l1.length) = true := by first | simpa using c3 | (simp at c3 ⊢; omega)
 clear c3
 have H' := A0_ H
 clear H
 go_enter Tryd.func30, Tryd.ntmps30
 go_wp2
 go_loopg [5] k (fun kq v5 w' => ∃ (x5_1 : Int), v5 = .int .i64 x5_1 ∧ Aside0 (bindleref08_SameTree.l0 kq l0 l1 x5_1 = some r) ∧ Aside0 (kq ≤ k) ∧ Aside0 (Below w.heap.size w w'))
 case atStart => exact ⟨(0), wr_, H', ⟨Nat.le_refl _⟩, ⟨wb_ HB.out⟩⟩
 case round =>
  clear H'
  try clear c1
  try clear p2
  try clear c3
  try clear c3b0
  try clear c3b1
  try clear c3b2
  obtain ⟨x5_1, rfl, HA, HK1, HB⟩ := hrel
  cases gk with
  | zero => exact absurd HA.out (by simp [bindleref08_SameTree.l0])
  | succ k1 =>
   have H := HA.out
   clear HA
   simp only [bindleref08_SameTree.l0] at H
   by_cases c4 : x5_1 < (l0.length : Int)
   rotate_left
   ·rw [if_neg c4] at H
    have c4b0 : decide (x5_1 < (l0.length : Int)) = false := decide_eq_false c4
    clear c4
    obtain rfl := Option.some.inj H
    go_wp2
    go_ret
    exact ⟨we_, wb_ HB.out⟩
   rw [if_pos c4] at H
   have c4b0 : decide (x5_1 < (l0.length : Int)) = true := decide_eq_true c4
   clear c4
   by_cases c5 : 0 ≤ x5_1
   rotate_left
   ·rw [if_neg c5] at H
    exact absurd H (by simp)
   rw [if_pos c5] at H
   have c5b0 : decide (0 ≤ x5_1) = true := decide_eq_true c5
   clear c5
   by_cases c6 : x5_1 < (l1.length : Int)
   rotate_left
   ·rw [if_neg c6] at H
    exact absurd H (by simp)
   rw [if_pos c6] at H
   have c6b0 : decide (x5_1 < (l1.length : Int)) = true := decide_eq_true c6
   clear c6
   by_cases c7 : ((rd_T40 l0 x5_1).f2).toList = ((rd_T40 l1 x5_1).f2).toList
   rotate_left
   ·rw [if_neg c7] at H
    have c7b0 : (((rd_T40 l0 x5_1).f2).toList == ((rd_T40 l1 x5_1).f2).toList) = false := beq_eq_false_iff_ne.mpr c7
    have c7b1 : (((rd_T40 l0 x5_1).f2).toList != ((rd_T40 l1 x5_1).f2).toList) = true := bne_iff_ne.mpr c7
    obtain rfl := Option.some.inj H
    try go_wp2
    have n0_ := A0_ (b1_ HB.out)
    clear HB
    have HB := n0_
    clear n0_
    have p393 : 0 ≤ (x5_1 : Int) := wd_
    have q393 : x5_1 < (l0.length : Int) := wd_
    obtain ⟨ad393, A393_8, c393_8, e393, hx393_0, hx393_1, hx393_2, hx393_3, hx393_4, hx393_5, hx393_6, hx393_7, hx393_8, hl393_8, hi393_8⟩ := at_T40 HR0.out x5_1 p393 q393
    have hw393_8 := hx393_8
    have hw393_7 := hx393_7
    have hw393_6 := hx393_6
    have hw393_5 := hx393_5
    have hw393_4 := hx393_4
    have hw393_3 := hx393_3
    have hw393_2 := hx393_2
    have hw393_1 := hx393_1
    have hw393_0 := hx393_0
    cases e393
    replace hx393_0 := (HB.out.cell (World.block_lt_of_cell? w _ hx393_0)).trans hx393_0
    replace hx393_1 := (HB.out.cell (World.block_lt_of_cell? w _ hx393_1)).trans hx393_1
    replace hx393_2 := (HB.out.cell (World.block_lt_of_cell? w _ hx393_2)).trans hx393_2
    replace hx393_3 := (HB.out.cell (World.block_lt_of_cell? w _ hx393_3)).trans hx393_3
    replace hx393_4 := (HB.out.cell (World.block_lt_of_cell? w _ hx393_4)).trans hx393_4
    replace hx393_5 := (HB.out.cell (World.block_lt_of_cell? w _ hx393_5)).trans hx393_5
    replace hx393_6 := (HB.out.cell (World.block_lt_of_cell? w _ hx393_6)).trans hx393_6
    replace hx393_7 := (HB.out.cell (World.block_lt_of_cell? w _ hx393_7)).trans hx393_7
    replace hx393_8 := (HB.out.cell (World.block_lt_of_cell? w _ hx393_8)).trans hx393_8
    have HR393_8 := A0_ hi393_8
    have HC393_8 := A0_ hl393_8
    clear hi393_8 hl393_8
    replace p393 := eq_true p393
    replace q393 := eq_true q393
    have p394 : 0 ≤ (x5_1 : Int) := wd_
    have q394 : x5_1 < (l1.length : Int) := wd_
    obtain ⟨ad394, A394_8, c394_8, e394, hx394_0, hx394_1, hx394_2, hx394_3, hx394_4, hx394_5, hx394_6, hx394_7, hx394_8, hl394_8, hi394_8⟩ := at_T40 HR1.out x5_1 p394 q394
    have hw394_8 := hx394_8
    have hw394_7 := hx394_7
    have hw394_6 := hx394_6
    have hw394_5 := hx394_5
    have hw394_4 := hx394_4
    have hw394_3 := hx394_3
    have hw394_2 := hx394_2
    have hw394_1 := hx394_1
    have hw394_0 := hx394_0
    cases e394
    replace hx394_0 := (HB.out.cell (World.block_lt_of_cell? w _ hx394_0)).trans hx394_0
    replace hx394_1 := (HB.out.cell (World.block_lt_of_cell? w _ hx394_1)).trans hx394_1
    replace hx394_2 := (HB.out.cell (World.block_lt_of_cell? w _ hx394_2)).trans hx394_2
    replace hx394_3 := (HB.out.cell (World.block_lt_of_cell? w _ hx394_3)).trans hx394_3
    replace hx394_4 := (HB.out.cell (World.block_lt_of_cell? w _ hx394_4)).trans hx394_4
    replace hx394_5 := (HB.out.cell (World.block_lt_of_cell? w _ hx394_5)).trans hx394_5
    replace hx394_6 := (HB.out.cell (World.block_lt_of_cell? w _ hx394_6)).trans hx394_6
    replace hx394_7 := (HB.out.cell (World.block_lt_of_cell? w _ hx394_7)).trans hx394_7
    replace hx394_8 := (HB.out.cell (World.block_lt_of_cell? w _ hx394_8)).trans hx394_8
    have HR394_8 := A0_ hi394_8
    have HC394_8 := A0_ hl394_8
    clear hi394_8 hl394_8
    replace p394 := eq_true p394
    replace q394 := eq_true q394
    refine start_ (n := 23) (S := fun w' => w'.cell? (ad393.add ((x5_1).toNat * 9)) = some (.string ((rd_T40 l0 x5_1).f0)) ∧ w'.cell? ⟨(ad393.add ((x5_1).toNat * 9)).block, (ad393.add ((x5_1).toNat * 9)).off + 1, none⟩ = some (.string ((rd_T40 l0 x5_1).f1)) ∧ w'.cell? ⟨(ad393.add ((x5_1).toNat * 9)).block, (ad393.add ((x5_1).toNat * 9)).off + 2, none⟩ = some (.string ((rd_T40 l0 x5_1).f2)) ∧ w'.cell? ⟨(ad393.add ((x5_1).toNat * 9)).block, (ad393.add ((x5_1).toNat * 9)).off + 3, none⟩ = some (.int .u8 ((rd_T40 l0 x5_1).f3)) ∧ w'.cell? ⟨(ad393.add ((x5_1).toNat * 9)).block, (ad393.add ((x5_1).toNat * 9)).off + 4, none⟩ = some (.int .i64 ((rd_T40 l0 x5_1).f4.f0)) ∧ w'.cell? ⟨(ad393.add ((x5_1).toNat * 9)).block, (ad393.add ((x5_1).toNat * 9)).off + 5, none⟩ = some (.int .i64 ((rd_T40 l0 x5_1).f4.f1)) ∧ w'.cell? ⟨(ad393.add ((x5_1).toNat * 9)).block, (ad393.add ((x5_1).toNat * 9)).off + 6, none⟩ = some (.int .i64 ((rd_T40 l0 x5_1).f4.f2)) ∧ w'.cell? ⟨(ad393.add ((x5_1).toNat * 9)).block, (ad393.add ((x5_1).toNat * 9)).off + 7, none⟩ = some (.int .i64 ((rd_T40 l0 x5_1).f4.f3)) ∧ w'.cell? ⟨(ad393.add ((x5_1).toNat * 9)).block, (ad393.add ((x5_1).toNat * 9)).off + 8, none⟩ = some (.slice A393_8 ((rd_T40 l0 x5_1).f5).length c393_8) ∧ w'.cell? (ad394.add ((x5_1).toNat * 9)) = some (.string ((rd_T40 l1 x5_1).f0)) ∧ w'.cell? ⟨(ad394.add ((x5_1).toNat * 9)).block, (ad394.add ((x5_1).toNat * 9)).off + 1, none⟩ = some (.string ((rd_T40 l1 x5_1).f1)) ∧ w'.cell? ⟨(ad394.add ((x5_1).toNat * 9)).block, (ad394.add ((x5_1).toNat * 9)).off + 2, none⟩ = some (.string ((rd_T40 l1 x5_1).f2)) ∧ w'.cell? ⟨(ad394.add ((x5_1).toNat * 9)).block, (ad394.add ((x5_1).toNat * 9)).off + 3, none⟩ = some (.int .u8 ((rd_T40 l1 x5_1).f3)) ∧ w'.cell? ⟨(ad394.add ((x5_1).toNat * 9)).block, (ad394.add ((x5_1).toNat * 9)).off + 4, none⟩ = some (.int .i64 ((rd_T40 l1 x5_1).f4.f0)) ∧ w'.cell? ⟨(ad394.add ((x5_1).toNat * 9)).block, (ad394.add ((x5_1).toNat * 9)).off + 5, none⟩ = some (.int .i64 ((rd_T40 l1 x5_1).f4.f1)) ∧ w'.cell? ⟨(ad394.add ((x5_1).toNat * 9)).block, (ad394.add ((x5_1).toNat * 9)).off + 6, none⟩ = some (.int .i64 ((rd_T40 l1 x5_1).f4.f2)) ∧ w'.cell? ⟨(ad394.add ((x5_1).toNat * 9)).block, (ad394.add ((x5_1).toNat * 9)).off + 7, none⟩ = some (.int .i64 ((rd_T40 l1 x5_1).f4.f3)) ∧ w'.cell? ⟨(ad394.add ((x5_1).toNat * 9)).block, (ad394.add ((x5_1).toNat * 9)).off + 8, none⟩ = some (.slice A394_8 ((rd_T40 l1 x5_1).f5).length c394_8)) (ds := []) q30_0 (by kernel_rfl) rfl rfl ⟨((HB.out.cell (World.block_lt_of_cell? w _ hw393_0)).trans hw393_0), ((HB.out.cell (World.block_lt_of_cell? w _ hw393_1)).trans hw393_1), ((HB.out.cell (World.block_lt_of_cell? w _ hw393_2)).trans hw393_2), ((HB.out.cell (World.block_lt_of_cell? w _ hw393_3)).trans hw393_3), ((HB.out.cell (World.block_lt_of_cell? w _ hw393_4)).trans hw393_4), ((HB.out.cell (World.block_lt_of_cell? w _ hw393_5)).trans hw393_5), ((HB.out.cell (World.block_lt_of_cell? w _ hw393_6)).trans hw393_6), ((HB.out.cell (World.block_lt_of_cell? w _ hw393_7)).trans hw393_7), ((HB.out.cell (World.block_lt_of_cell? w _ hw393_8)).trans hw393_8), ((HB.out.cell (World.block_lt_of_cell? w _ hw394_0)).trans hw394_0), ((HB.out.cell (World.block_lt_of_cell? w _ hw394_1)).trans hw394_1), ((HB.out.cell (World.block_lt_of_cell? w _ hw394_2)).trans hw394_2), ((HB.out.cell (World.block_lt_of_cell? w _ hw394_3)).trans hw394_3), ((HB.out.cell (World.block_lt_of_cell? w _ hw394_4)).trans hw394_4), ((HB.out.cell (World.block_lt_of_cell? w _ hw394_5)).trans hw394_5), ((HB.out.cell (World.block_lt_of_cell? w _ hw394_6)).trans hw394_6), ((HB.out.cell (World.block_lt_of_cell? w _ hw394_7)).trans hw394_7), ((HB.out.cell (World.block_lt_of_cell? w _ hw394_8)).trans hw394_8)⟩ (fun hHeld => ?_); refine with_tabW bindleref08_SameTree.tab6 bindleref08_SameTree.bits6 (fun HT_ HW_ => ?_)
    generalize wr.drew = w14 at HB HR393_8 HR394_8 hx393_0 hx393_1 hx393_2 hx393_3 hx393_4 hx393_5 hx393_6 hx393_7 hx393_8 hx394_0 hx394_1 hx394_2 hx394_3 hx394_4 hx394_5 hx394_6 hx394_7 hx394_8 hHeld ⊢
    refine pur_ (i := 0) (N := some 17) q30_1 (any_of HT_.out (by kernel_rfl)) ?_
    refine pur_ (i := 1) (N := some 18) q30_2 (any_of HT_.out (by kernel_rfl)) ?_
    refine pur_ (i := 2) (N := some 19) q30_3 (any_of HT_.out (by kernel_rfl)) ?_
    refine pur_ (i := 3) (N := some 20) q30_4 (any_of HT_.out (by kernel_rfl)) ?_
    refine pur_ (i := 5) (N := some 22) q30_5 (any_of HT_.out (by kernel_rfl)) ?_
    refine pur_ (i := 6) (N := some 23) q30_6 (any_of HT_.out (by kernel_rfl)) ?_
    refine pur_ (i := 7) (N := some 24) q30_7 (any_of HT_.out (by kernel_rfl)) ?_
    refine pur_ (i := 8) (N := some 25) q30_8 (any_of HT_.out (by kernel_rfl)) ?_
    refine take_ (i := 4) (N := some 21) (v := ?_) (a' := ?_) q30_9 rfl rfl (take_ofW HT_.out HW_.out (by kernel_rfl)) (fun _ _ _ h => h) (Or.inl ⟨by rfl, ?_⟩) hHeld ?_ ?_
    rotate_left
    ·rintro w' ⟨s0, s1, s2, s3, s4, s5, s6, s7, s8, s9, s10, s11, s12, s13, s14, s15, s16, s17⟩
     go_simp
     with_reducible rfl
    rotate_left
    ·simp only [Act.put, List.setIfInBounds_toArray, List.set_cons_zero, List.set_cons_succ, i64_w, i32_w]
     rfl
    refine take_ (i := 9) (N := some 26) (v := ?_) (a' := ?_) q30_10 rfl rfl (take_ofW HT_.out HW_.out (by kernel_rfl)) (fun _ _ _ h => h) (Or.inl ⟨by rfl, ?_⟩) hHeld ?_ ?_
    rotate_left
    ·rintro w' ⟨s0, s1, s2, s3, s4, s5, s6, s7, s8, s9, s10, s11, s12, s13, s14, s15, s16, s17⟩
     go_simp
     with_reducible rfl
    rotate_left
    ·simp only [Act.put, List.setIfInBounds_toArray, List.set_cons_zero, List.set_cons_succ, i64_w, i32_w]
     rfl
    refine pur_ (i := 10) (N := some 27) q30_11 (any_of HT_.out (by kernel_rfl)) ?_
    refine pur_ (i := 11) (N := some 28) q30_12 (any_of HT_.out (by kernel_rfl)) ?_
    refine puu_ (i := 12) (N := some 29) q30_13 (any_of HT_.out (by kernel_rfl)) ?_
    refine puu_ (i := 13) (N := some 30) q30_14 (any_of HT_.out (by kernel_rfl)) ?_
    refine puu_ (i := 14) (N := some 31) q30_15 (any_of HT_.out (by kernel_rfl)) ?_
    refine puu_ (i := 15) (N := some 32) q30_16 (any_of HT_.out (by kernel_rfl)) ?_
    refine puu_ (i := 16) (N := some 33) q30_17 (any_of HT_.out (by kernel_rfl)) ?_
    refine puu_ (i := 17) (N := some 34) q30_18 (any_of HT_.out (by kernel_rfl)) ?_
    refine puu_ (i := 18) (N := some 35) q30_19 (any_of HT_.out (by kernel_rfl)) ?_
    refine puu_ (i := 19) (N := some 36) q30_20 (any_of HT_.out (by kernel_rfl)) ?_
    refine puu_ (i := 20) (N := some 37) q30_21 (any_of HT_.out (by kernel_rfl)) ?_
    refine puu_ (i := 21) (N := some 38) q30_22 (any_of HT_.out (by kernel_rfl)) ?_
    refine pur_ (i := 22) (N := some 39) q30_23 (any_of HT_.out (by kernel_rfl)) ?_
    refine done_ (done_of HT_.out (by kernel_rfl)) ?_
    try go_wp2
    go_ret
    exact ⟨we_, wb_ HB.out⟩
   rw [if_pos c7] at H
   have c7b0 : (((rd_T40 l0 x5_1).f2).toList == ((rd_T40 l1 x5_1).f2).toList) = true := beq_iff_eq.mpr c7
   have c7b1 : (((rd_T40 l0 x5_1).f2).toList != ((rd_T40 l1 x5_1).f2).toList) = false := bne_eq_false_iff_eq.mpr c7
   clear c7
   replace H := Option.bind_eq_some_iff.mp H
   obtain ⟨t397, A80, H⟩ := H
   replace H : (if t397 = true then (bindleref08_SameTree.l0 k1 l0 l1 (wrap64 (x5_1 + 1))) else (some false)) = some r := H
   have A8 := A0_ A80
   clear A80
   by_cases c9 : t397 = true
   rotate_left
   ·replace c9 := Bool.eq_false_iff.mpr c9
    subst c9
    have H1 : (some false) = some r := by rw [if_neg (show ¬ (false = true) by decide)] at H; exact H
    clear H
    have H := H1
    clear H1
    obtain rfl := Option.some.inj H
    try go_wp2
    have n0_ := A0_ (b1_ HB.out)
    clear HB
    have HB := n0_
    clear n0_
    have p393 : 0 ≤ (x5_1 : Int) := wd_
    have q393 : x5_1 < (l0.length : Int) := wd_
    obtain ⟨ad393, A393_8, c393_8, e393, hx393_0, hx393_1, hx393_2, hx393_3, hx393_4, hx393_5, hx393_6, hx393_7, hx393_8, hl393_8, hi393_8⟩ := at_T40 HR0.out x5_1 p393 q393
    have hw393_8 := hx393_8
    have hw393_7 := hx393_7
    have hw393_6 := hx393_6
    have hw393_5 := hx393_5
    have hw393_4 := hx393_4
    have hw393_3 := hx393_3
    have hw393_2 := hx393_2
    have hw393_1 := hx393_1
    have hw393_0 := hx393_0
    cases e393
    replace hx393_0 := (HB.out.cell (World.block_lt_of_cell? w _ hx393_0)).trans hx393_0
    replace hx393_1 := (HB.out.cell (World.block_lt_of_cell? w _ hx393_1)).trans hx393_1
    replace hx393_2 := (HB.out.cell (World.block_lt_of_cell? w _ hx393_2)).trans hx393_2
    replace hx393_3 := (HB.out.cell (World.block_lt_of_cell? w _ hx393_3)).trans hx393_3
    replace hx393_4 := (HB.out.cell (World.block_lt_of_cell? w _ hx393_4)).trans hx393_4
    replace hx393_5 := (HB.out.cell (World.block_lt_of_cell? w _ hx393_5)).trans hx393_5
    replace hx393_6 := (HB.out.cell (World.block_lt_of_cell? w _ hx393_6)).trans hx393_6
    replace hx393_7 := (HB.out.cell (World.block_lt_of_cell? w _ hx393_7)).trans hx393_7
    replace hx393_8 := (HB.out.cell (World.block_lt_of_cell? w _ hx393_8)).trans hx393_8
    have HR393_8 := A0_ hi393_8
    have HC393_8 := A0_ hl393_8
    clear hi393_8 hl393_8
    replace p393 := eq_true p393
    replace q393 := eq_true q393
    have p394 : 0 ≤ (x5_1 : Int) := wd_
    have q394 : x5_1 < (l1.length : Int) := wd_
    obtain ⟨ad394, A394_8, c394_8, e394, hx394_0, hx394_1, hx394_2, hx394_3, hx394_4, hx394_5, hx394_6, hx394_7, hx394_8, hl394_8, hi394_8⟩ := at_T40 HR1.out x5_1 p394 q394
    have hw394_8 := hx394_8
    have hw394_7 := hx394_7
    have hw394_6 := hx394_6
    have hw394_5 := hx394_5
    have hw394_4 := hx394_4
    have hw394_3 := hx394_3
    have hw394_2 := hx394_2
    have hw394_1 := hx394_1
    have hw394_0 := hx394_0
    cases e394
    replace hx394_0 := (HB.out.cell (World.block_lt_of_cell? w _ hx394_0)).trans hx394_0
    replace hx394_1 := (HB.out.cell (World.block_lt_of_cell? w _ hx394_1)).trans hx394_1
    replace hx394_2 := (HB.out.cell (World.block_lt_of_cell? w _ hx394_2)).trans hx394_2
    replace hx394_3 := (HB.out.cell (World.block_lt_of_cell? w _ hx394_3)).trans hx394_3
    replace hx394_4 := (HB.out.cell (World.block_lt_of_cell? w _ hx394_4)).trans hx394_4
    replace hx394_5 := (HB.out.cell (World.block_lt_of_cell? w _ hx394_5)).trans hx394_5
    replace hx394_6 := (HB.out.cell (World.block_lt_of_cell? w _ hx394_6)).trans hx394_6
    replace hx394_7 := (HB.out.cell (World.block_lt_of_cell? w _ hx394_7)).trans hx394_7
    replace hx394_8 := (HB.out.cell (World.block_lt_of_cell? w _ hx394_8)).trans hx394_8
    have HR394_8 := A0_ hi394_8
    have HC394_8 := A0_ hl394_8
    clear hi394_8 hl394_8
    replace p394 := eq_true p394
    replace q394 := eq_true q394
    have p395 : 0 ≤ (x5_1 : Int) := wd_
    have q395 : x5_1 < (l0.length : Int) := wd_
    obtain ⟨ad395, A395_8, c395_8, e395, hx395_0, hx395_1, hx395_2, hx395_3, hx395_4, hx395_5, hx395_6, hx395_7, hx395_8, hl395_8, hi395_8⟩ := at_T40 HR0.out x5_1 p395 q395
    have hw395_8 := hx395_8
    have hw395_7 := hx395_7
    have hw395_6 := hx395_6
    have hw395_5 := hx395_5
    have hw395_4 := hx395_4
    have hw395_3 := hx395_3
    have hw395_2 := hx395_2
    have hw395_1 := hx395_1
    have hw395_0 := hx395_0
    obtain rfl : ad393 = ad395 := (by injection e395)
    replace hx395_0 := (HB.out.cell (World.block_lt_of_cell? w _ hx395_0)).trans hx395_0
    replace hx395_1 := (HB.out.cell (World.block_lt_of_cell? w _ hx395_1)).trans hx395_1
    replace hx395_2 := (HB.out.cell (World.block_lt_of_cell? w _ hx395_2)).trans hx395_2
    replace hx395_3 := (HB.out.cell (World.block_lt_of_cell? w _ hx395_3)).trans hx395_3
    replace hx395_4 := (HB.out.cell (World.block_lt_of_cell? w _ hx395_4)).trans hx395_4
    replace hx395_5 := (HB.out.cell (World.block_lt_of_cell? w _ hx395_5)).trans hx395_5
    replace hx395_6 := (HB.out.cell (World.block_lt_of_cell? w _ hx395_6)).trans hx395_6
    replace hx395_7 := (HB.out.cell (World.block_lt_of_cell? w _ hx395_7)).trans hx395_7
    replace hx395_8 := (HB.out.cell (World.block_lt_of_cell? w _ hx395_8)).trans hx395_8
    have HR395_8 := A0_ hi395_8
    have HC395_8 := A0_ hl395_8
    clear hi395_8 hl395_8
    replace p395 := eq_true p395
    replace q395 := eq_true q395
    have ea_ := Option.some.inj (hx393_8.symm.trans hx395_8)
    injection ea_ with ea_ en_ ec_
    subst ea_
    subst ec_
    clear en_
    have p396 : 0 ≤ (x5_1 : Int) := wd_
    have q396 : x5_1 < (l1.length : Int) := wd_
    obtain ⟨ad396, A396_8, c396_8, e396, hx396_0, hx396_1, hx396_2, hx396_3, hx396_4, hx396_5, hx396_6, hx396_7, hx396_8, hl396_8, hi396_8⟩ := at_T40 HR1.out x5_1 p396 q396
    have hw396_8 := hx396_8
    have hw396_7 := hx396_7
    have hw396_6 := hx396_6
    have hw396_5 := hx396_5
    have hw396_4 := hx396_4
    have hw396_3 := hx396_3
    have hw396_2 := hx396_2
    have hw396_1 := hx396_1
    have hw396_0 := hx396_0
    obtain rfl : ad394 = ad396 := (by injection e396)
    replace hx396_0 := (HB.out.cell (World.block_lt_of_cell? w _ hx396_0)).trans hx396_0
    replace hx396_1 := (HB.out.cell (World.block_lt_of_cell? w _ hx396_1)).trans hx396_1
    replace hx396_2 := (HB.out.cell (World.block_lt_of_cell? w _ hx396_2)).trans hx396_2
    replace hx396_3 := (HB.out.cell (World.block_lt_of_cell? w _ hx396_3)).trans hx396_3
    replace hx396_4 := (HB.out.cell (World.block_lt_of_cell? w _ hx396_4)).trans hx396_4
    replace hx396_5 := (HB.out.cell (World.block_lt_of_cell? w _ hx396_5)).trans hx396_5
    replace hx396_6 := (HB.out.cell (World.block_lt_of_cell? w _ hx396_6)).trans hx396_6
    replace hx396_7 := (HB.out.cell (World.block_lt_of_cell? w _ hx396_7)).trans hx396_7
    replace hx396_8 := (HB.out.cell (World.block_lt_of_cell? w _ hx396_8)).trans hx396_8
    have HR396_8 := A0_ hi396_8
    have HC396_8 := A0_ hl396_8
    clear hi396_8 hl396_8
    replace p396 := eq_true p396
    replace q396 := eq_true q396
    have ea_ := Option.some.inj (hx394_8.symm.trans hx396_8)
    injection ea_ with ea_ en_ ec_
    subst ea_
    subst ec_
    clear en_
    refine start_ (n := 23) (S := fun w' => w'.cell? (ad393.add ((x5_1).toNat * 9)) = some (.string ((rd_T40 l0 x5_1).f0)) ∧ w'.cell? ⟨(ad393.add ((x5_1).toNat * 9)).block, (ad393.add ((x5_1).toNat * 9)).off + 1, none⟩ = some (.string ((rd_T40 l0 x5_1).f1)) ∧ w'.cell? ⟨(ad393.add ((x5_1).toNat * 9)).block, (ad393.add ((x5_1).toNat * 9)).off + 2, none⟩ = some (.string ((rd_T40 l0 x5_1).f2)) ∧ w'.cell? ⟨(ad393.add ((x5_1).toNat * 9)).block, (ad393.add ((x5_1).toNat * 9)).off + 3, none⟩ = some (.int .u8 ((rd_T40 l0 x5_1).f3)) ∧ w'.cell? ⟨(ad393.add ((x5_1).toNat * 9)).block, (ad393.add ((x5_1).toNat * 9)).off + 4, none⟩ = some (.int .i64 ((rd_T40 l0 x5_1).f4.f0)) ∧ w'.cell? ⟨(ad393.add ((x5_1).toNat * 9)).block, (ad393.add ((x5_1).toNat * 9)).off + 5, none⟩ = some (.int .i64 ((rd_T40 l0 x5_1).f4.f1)) ∧ w'.cell? ⟨(ad393.add ((x5_1).toNat * 9)).block, (ad393.add ((x5_1).toNat * 9)).off + 6, none⟩ = some (.int .i64 ((rd_T40 l0 x5_1).f4.f2)) ∧ w'.cell? ⟨(ad393.add ((x5_1).toNat * 9)).block, (ad393.add ((x5_1).toNat * 9)).off + 7, none⟩ = some (.int .i64 ((rd_T40 l0 x5_1).f4.f3)) ∧ w'.cell? ⟨(ad393.add ((x5_1).toNat * 9)).block, (ad393.add ((x5_1).toNat * 9)).off + 8, none⟩ = some (.slice A393_8 ((rd_T40 l0 x5_1).f5).length c393_8) ∧ w'.cell? (ad394.add ((x5_1).toNat * 9)) = some (.string ((rd_T40 l1 x5_1).f0)) ∧ w'.cell? ⟨(ad394.add ((x5_1).toNat * 9)).block, (ad394.add ((x5_1).toNat * 9)).off + 1, none⟩ = some (.string ((rd_T40 l1 x5_1).f1)) ∧ w'.cell? ⟨(ad394.add ((x5_1).toNat * 9)).block, (ad394.add ((x5_1).toNat * 9)).off + 2, none⟩ = some (.string ((rd_T40 l1 x5_1).f2)) ∧ w'.cell? ⟨(ad394.add ((x5_1).toNat * 9)).block, (ad394.add ((x5_1).toNat * 9)).off + 3, none⟩ = some (.int .u8 ((rd_T40 l1 x5_1).f3)) ∧ w'.cell? ⟨(ad394.add ((x5_1).toNat * 9)).block, (ad394.add ((x5_1).toNat * 9)).off + 4, none⟩ = some (.int .i64 ((rd_T40 l1 x5_1).f4.f0)) ∧ w'.cell? ⟨(ad394.add ((x5_1).toNat * 9)).block, (ad394.add ((x5_1).toNat * 9)).off + 5, none⟩ = some (.int .i64 ((rd_T40 l1 x5_1).f4.f1)) ∧ w'.cell? ⟨(ad394.add ((x5_1).toNat * 9)).block, (ad394.add ((x5_1).toNat * 9)).off + 6, none⟩ = some (.int .i64 ((rd_T40 l1 x5_1).f4.f2)) ∧ w'.cell? ⟨(ad394.add ((x5_1).toNat * 9)).block, (ad394.add ((x5_1).toNat * 9)).off + 7, none⟩ = some (.int .i64 ((rd_T40 l1 x5_1).f4.f3)) ∧ w'.cell? ⟨(ad394.add ((x5_1).toNat * 9)).block, (ad394.add ((x5_1).toNat * 9)).off + 8, none⟩ = some (.slice A394_8 ((rd_T40 l1 x5_1).f5).length c394_8) ∧ w'.cell? (ad393.add ((x5_1).toNat * 9)) = some (.string ((rd_T40 l0 x5_1).f0)) ∧ w'.cell? ⟨(ad393.add ((x5_1).toNat * 9)).block, (ad393.add ((x5_1).toNat * 9)).off + 1, none⟩ = some (.string ((rd_T40 l0 x5_1).f1)) ∧ w'.cell? ⟨(ad393.add ((x5_1).toNat * 9)).block, (ad393.add ((x5_1).toNat * 9)).off + 2, none⟩ = some (.string ((rd_T40 l0 x5_1).f2)) ∧ w'.cell? ⟨(ad393.add ((x5_1).toNat * 9)).block, (ad393.add ((x5_1).toNat * 9)).off + 3, none⟩ = some (.int .u8 ((rd_T40 l0 x5_1).f3)) ∧ w'.cell? ⟨(ad393.add ((x5_1).toNat * 9)).block, (ad393.add ((x5_1).toNat * 9)).off + 4, none⟩ = some (.int .i64 ((rd_T40 l0 x5_1).f4.f0)) ∧ w'.cell? ⟨(ad393.add ((x5_1).toNat * 9)).block, (ad393.add ((x5_1).toNat * 9)).off + 5, none⟩ = some (.int .i64 ((rd_T40 l0 x5_1).f4.f1)) ∧ w'.cell? ⟨(ad393.add ((x5_1).toNat * 9)).block, (ad393.add ((x5_1).toNat * 9)).off + 6, none⟩ = some (.int .i64 ((rd_T40 l0 x5_1).f4.f2)) ∧ w'.cell? ⟨(ad393.add ((x5_1).toNat * 9)).block, (ad393.add ((x5_1).toNat * 9)).off + 7, none⟩ = some (.int .i64 ((rd_T40 l0 x5_1).f4.f3)) ∧ w'.cell? ⟨(ad393.add ((x5_1).toNat * 9)).block, (ad393.add ((x5_1).toNat * 9)).off + 8, none⟩ = some (.slice A393_8 ((rd_T40 l0 x5_1).f5).length c393_8) ∧ w'.cell? (ad394.add ((x5_1).toNat * 9)) = some (.string ((rd_T40 l1 x5_1).f0)) ∧ w'.cell? ⟨(ad394.add ((x5_1).toNat * 9)).block, (ad394.add ((x5_1).toNat * 9)).off + 1, none⟩ = some (.string ((rd_T40 l1 x5_1).f1)) ∧ w'.cell? ⟨(ad394.add ((x5_1).toNat * 9)).block, (ad394.add ((x5_1).toNat * 9)).off + 2, none⟩ = some (.string ((rd_T40 l1 x5_1).f2)) ∧ w'.cell? ⟨(ad394.add ((x5_1).toNat * 9)).block, (ad394.add ((x5_1).toNat * 9)).off + 3, none⟩ = some (.int .u8 ((rd_T40 l1 x5_1).f3)) ∧ w'.cell? ⟨(ad394.add ((x5_1).toNat * 9)).block, (ad394.add ((x5_1).toNat * 9)).off + 4, none⟩ = some (.int .i64 ((rd_T40 l1 x5_1).f4.f0)) ∧ w'.cell? ⟨(ad394.add ((x5_1).toNat * 9)).block, (ad394.add ((x5_1).toNat * 9)).off + 5, none⟩ = some (.int .i64 ((rd_T40 l1 x5_1).f4.f1)) ∧ w'.cell? ⟨(ad394.add ((x5_1).toNat * 9)).block, (ad394.add ((x5_1).toNat * 9)).off + 6, none⟩ = some (.int .i64 ((rd_T40 l1 x5_1).f4.f2)) ∧ w'.cell? ⟨(ad394.add ((x5_1).toNat * 9)).block, (ad394.add ((x5_1).toNat * 9)).off + 7, none⟩ = some (.int .i64 ((rd_T40 l1 x5_1).f4.f3)) ∧ w'.cell? ⟨(ad394.add ((x5_1).toNat * 9)).block, (ad394.add ((x5_1).toNat * 9)).off + 8, none⟩ = some (.slice A394_8 ((rd_T40 l1 x5_1).f5).length c394_8)) (ds := []) q30_0 (by kernel_rfl) rfl rfl ⟨((HB.out.cell (World.block_lt_of_cell? w _ hw393_0)).trans hw393_0), ((HB.out.cell (World.block_lt_of_cell? w _ hw393_1)).trans hw393_1), ((HB.out.cell (World.block_lt_of_cell? w _ hw393_2)).trans hw393_2), ((HB.out.cell (World.block_lt_of_cell? w _ hw393_3)).trans hw393_3), ((HB.out.cell (World.block_lt_of_cell? w _ hw393_4)).trans hw393_4), ((HB.out.cell (World.block_lt_of_cell? w _ hw393_5)).trans hw393_5), ((HB.out.cell (World.block_lt_of_cell? w _ hw393_6)).trans hw393_6), ((HB.out.cell (World.block_lt_of_cell? w _ hw393_7)).trans hw393_7), ((HB.out.cell (World.block_lt_of_cell? w _ hw393_8)).trans hw393_8), ((HB.out.cell (World.block_lt_of_cell? w _ hw394_0)).trans hw394_0), ((HB.out.cell (World.block_lt_of_cell? w _ hw394_1)).trans hw394_1), ((HB.out.cell (World.block_lt_of_cell? w _ hw394_2)).trans hw394_2), ((HB.out.cell (World.block_lt_of_cell? w _ hw394_3)).trans hw394_3), ((HB.out.cell (World.block_lt_of_cell? w _ hw394_4)).trans hw394_4), ((HB.out.cell (World.block_lt_of_cell? w _ hw394_5)).trans hw394_5), ((HB.out.cell (World.block_lt_of_cell? w _ hw394_6)).trans hw394_6), ((HB.out.cell (World.block_lt_of_cell? w _ hw394_7)).trans hw394_7), ((HB.out.cell (World.block_lt_of_cell? w _ hw394_8)).trans hw394_8), ((HB.out.cell (World.block_lt_of_cell? w _ hw395_0)).trans hw395_0), ((HB.out.cell (World.block_lt_of_cell? w _ hw395_1)).trans hw395_1), ((HB.out.cell (World.block_lt_of_cell? w _ hw395_2)).trans hw395_2), ((HB.out.cell (World.block_lt_of_cell? w _ hw395_3)).trans hw395_3), ((HB.out.cell (World.block_lt_of_cell? w _ hw395_4)).trans hw395_4), ((HB.out.cell (World.block_lt_of_cell? w _ hw395_5)).trans hw395_5), ((HB.out.cell (World.block_lt_of_cell? w _ hw395_6)).trans hw395_6), ((HB.out.cell (World.block_lt_of_cell? w _ hw395_7)).trans hw395_7), ((HB.out.cell (World.block_lt_of_cell? w _ hw395_8)).trans hw395_8), ((HB.out.cell (World.block_lt_of_cell? w _ hw396_0)).trans hw396_0), ((HB.out.cell (World.block_lt_of_cell? w _ hw396_1)).trans hw396_1), ((HB.out.cell (World.block_lt_of_cell? w _ hw396_2)).trans hw396_2), ((HB.out.cell (World.block_lt_of_cell? w _ hw396_3)).trans hw396_3), ((HB.out.cell (World.block_lt_of_cell? w _ hw396_4)).trans hw396_4), ((HB.out.cell (World.block_lt_of_cell? w _ hw396_5)).trans hw396_5), ((HB.out.cell (World.block_lt_of_cell? w _ hw396_6)).trans hw396_6), ((HB.out.cell (World.block_lt_of_cell? w _ hw396_7)).trans hw396_7), ((HB.out.cell (World.block_lt_of_cell? w _ hw396_8)).trans hw396_8)⟩ (fun hHeld => ?_); refine with_tabW bindleref08_SameTree.tab6 bindleref08_SameTree.bits6 (fun HT_ HW_ => ?_)
    generalize wr.drew = w12 at HB HR393_8 HR394_8 HR395_8 HR396_8 hx393_0 hx393_1 hx393_2 hx393_3 hx393_4 hx393_5 hx393_6 hx393_7 hx393_8 hx394_0 hx394_1 hx394_2 hx394_3 hx394_4 hx394_5 hx394_6 hx394_7 hx394_8 hx395_0 hx395_1 hx395_2 hx395_3 hx395_4 hx395_5 hx395_6 hx395_7 hx395_8 hx396_0 hx396_1 hx396_2 hx396_3 hx396_4 hx396_5 hx396_6 hx396_7 hx396_8 hHeld ⊢
    refine pur_ (i := 0) (N := some 17) q30_1 (any_of HT_.out (by kernel_rfl)) ?_
    refine pur_ (i := 1) (N := some 18) q30_2 (any_of HT_.out (by kernel_rfl)) ?_
    refine pur_ (i := 2) (N := some 19) q30_3 (any_of HT_.out (by kernel_rfl)) ?_
    refine pur_ (i := 3) (N := some 20) q30_4 (any_of HT_.out (by kernel_rfl)) ?_
    refine pur_ (i := 5) (N := some 22) q30_5 (any_of HT_.out (by kernel_rfl)) ?_
    refine pur_ (i := 6) (N := some 23) q30_6 (any_of HT_.out (by kernel_rfl)) ?_
    refine pur_ (i := 7) (N := some 24) q30_7 (any_of HT_.out (by kernel_rfl)) ?_
    refine pur_ (i := 8) (N := some 25) q30_8 (any_of HT_.out (by kernel_rfl)) ?_
    refine take_ (i := 4) (N := some 21) (v := ?_) (a' := ?_) q30_9 rfl rfl (take_ofW HT_.out HW_.out (by kernel_rfl)) (fun _ _ _ h => h) (Or.inl ⟨by rfl, ?_⟩) hHeld ?_ ?_
    rotate_left
    ·rintro w' ⟨s0, s1, s2, s3, s4, s5, s6, s7, s8, s9, s10, s11, s12, s13, s14, s15, s16, s17, s18, s19, s20, s21, s22, s23, s24, s25, s26, s27, s28, s29, s30, s31, s32, s33, s34, s35⟩
     go_simp
     with_reducible rfl
    rotate_left
    ·simp only [Act.put, List.setIfInBounds_toArray, List.set_cons_zero, List.set_cons_succ, i64_w, i32_w]
     rfl
    refine take_ (i := 9) (N := some 26) (v := ?_) (a' := ?_) q30_10 rfl rfl (take_ofW HT_.out HW_.out (by kernel_rfl)) (fun _ _ _ h => h) (Or.inl ⟨by rfl, ?_⟩) hHeld ?_ ?_
    rotate_left
    ·rintro w' ⟨s0, s1, s2, s3, s4, s5, s6, s7, s8, s9, s10, s11, s12, s13, s14, s15, s16, s17, s18, s19, s20, s21, s22, s23, s24, s25, s26, s27, s28, s29, s30, s31, s32, s33, s34, s35⟩
     go_simp
     with_reducible rfl
    rotate_left
    ·simp only [Act.put, List.setIfInBounds_toArray, List.set_cons_zero, List.set_cons_succ, i64_w, i32_w]
     rfl
    refine pur_ (i := 10) (N := some 27) q30_11 (any_of HT_.out (by kernel_rfl)) ?_
    refine pur_ (i := 11) (N := some 28) q30_12 (any_of HT_.out (by kernel_rfl)) ?_
    refine pur_ (i := 12) (N := some 29) q30_13 (any_of HT_.out (by kernel_rfl)) ?_
    refine pur_ (i := 13) (N := some 30) q30_14 (any_of HT_.out (by kernel_rfl)) ?_
    refine pur_ (i := 14) (N := some 31) q30_15 (any_of HT_.out (by kernel_rfl)) ?_
    refine pur_ (i := 16) (N := some 33) q30_24 (any_of HT_.out (by kernel_rfl)) ?_
    refine pur_ (i := 17) (N := some 34) q30_25 (any_of HT_.out (by kernel_rfl)) ?_
    refine pur_ (i := 18) (N := some 35) q30_26 (any_of HT_.out (by kernel_rfl)) ?_
    refine take_ (i := 15) (N := some 32) (v := ?_) (a' := ?_) q30_19 rfl rfl (take_ofW HT_.out HW_.out (by kernel_rfl)) (fun _ _ _ h => h) (Or.inl ⟨by rfl, ?_⟩) hHeld ?_ ?_
    rotate_left
    ·rintro w' ⟨s0, s1, s2, s3, s4, s5, s6, s7, s8, s9, s10, s11, s12, s13, s14, s15, s16, s17, s18, s19, s20, s21, s22, s23, s24, s25, s26, s27, s28, s29, s30, s31, s32, s33, s34, s35⟩
     go_simp
     with_reducible rfl
    rotate_left
    ·simp only [Act.put, List.setIfInBounds_toArray, List.set_cons_zero, List.set_cons_succ, i64_w, i32_w]
     rfl
    refine take_ (i := 19) (N := some 36) (v := ?_) (a' := ?_) q30_20 rfl rfl (take_ofW HT_.out HW_.out (by kernel_rfl)) (fun _ _ _ h => h) (Or.inl ⟨by rfl, ?_⟩) hHeld ?_ ?_
    rotate_left
    ·rintro w' ⟨s0, s1, s2, s3, s4, s5, s6, s7, s8, s9, s10, s11, s12, s13, s14, s15, s16, s17, s18, s19, s20, s21, s22, s23, s24, s25, s26, s27, s28, s29, s30, s31, s32, s33, s34, s35⟩
     go_simp
     with_reducible rfl
    rotate_left
    ·simp only [Act.put, List.setIfInBounds_toArray, List.set_cons_zero, List.set_cons_succ, i64_w, i32_w]
     rfl
    refine one_ (i := 20) (N := some 37) q30_21 rfl rfl (one_of HT_.out (by kernel_rfl)) (by decide) (fun K hK => ?_)
    refine goes_ Tryd.func35 (by kernel_rfl) rfl #[.agg #[.string ((rd_T40 l0 x5_1).f0), .string ((rd_T40 l0 x5_1).f1), .string ((rd_T40 l0 x5_1).f2), .int .u8 ((rd_T40 l0 x5_1).f3), .int .i64 ((rd_T40 l0 x5_1).f4.f0), .int .i64 ((rd_T40 l0 x5_1).f4.f1), .int .i64 ((rd_T40 l0 x5_1).f4.f2), .int .i64 ((rd_T40 l0 x5_1).f4.f3), .slice A393_8 ((rd_T40 l0 x5_1).f5).length c393_8], .agg #[.string ((rd_T40 l1 x5_1).f0), .string ((rd_T40 l1 x5_1).f1), .string ((rd_T40 l1 x5_1).f2), .int .u8 ((rd_T40 l1 x5_1).f3), .int .i64 ((rd_T40 l1 x5_1).f4.f0), .int .i64 ((rd_T40 l1 x5_1).f4.f1), .int .i64 ((rd_T40 l1 x5_1).f4.f2), .int .i64 ((rd_T40 l1 x5_1).f4.f3), .slice A394_8 ((rd_T40 l1 x5_1).f5).length c394_8]] (by rfl) rfl rfl wm_ ?_
    with_reducible refine (bindleref08_Equal.calls ((rd_T40 l0 x5_1).f0) ((rd_T40 l0 x5_1).f1) ((rd_T40 l0 x5_1).f2) ((rd_T40 l0 x5_1).f3) ((rd_T40 l0 x5_1).f4.f0) ((rd_T40 l0 x5_1).f4.f1) ((rd_T40 l0 x5_1).f4.f2) ((rd_T40 l0 x5_1).f4.f3) _ _ ((rd_T40 l0 x5_1).f5) ((rd_T40 l1 x5_1).f0) ((rd_T40 l1 x5_1).f1) ((rd_T40 l1 x5_1).f2) ((rd_T40 l1 x5_1).f3) ((rd_T40 l1 x5_1).f4.f0) ((rd_T40 l1 x5_1).f4.f1) ((rd_T40 l1 x5_1).f4.f2) ((rd_T40 l1 x5_1).f4.f3) _ _ ((rd_T40 l1 x5_1).f5) false _ ?side1 ?side2 ?side3 ?side4 A8.out).mono ?_
    (case side1 => exact wc_ (Kd.C_below HR395_8.out HB.out))
    (case side2 => exact HC395_8.out)
    (case side3 => exact wc_ (Kd.C_below HR396_8.out HB.out))
    (case side4 => exact HC396_8.out)
    rintro e w13 ⟨rfl, hb⟩
    refine ⟨_, rfl, ?_⟩
    have n0_ := A0_ (below_step (wb_ HB.out) hb)
    clear HB
    have HB := n0_
    clear n0_
    (try clear hb)
    (try clear hb2)
    (try clear hk)
    (try clear hi)
    refine hK.out _ _ ⟨((HB.out.cell (World.block_lt_of_cell? w _ hw393_0)).trans hw393_0), ((HB.out.cell (World.block_lt_of_cell? w _ hw393_1)).trans hw393_1), ((HB.out.cell (World.block_lt_of_cell? w _ hw393_2)).trans hw393_2), ((HB.out.cell (World.block_lt_of_cell? w _ hw393_3)).trans hw393_3), ((HB.out.cell (World.block_lt_of_cell? w _ hw393_4)).trans hw393_4), ((HB.out.cell (World.block_lt_of_cell? w _ hw393_5)).trans hw393_5), ((HB.out.cell (World.block_lt_of_cell? w _ hw393_6)).trans hw393_6), ((HB.out.cell (World.block_lt_of_cell? w _ hw393_7)).trans hw393_7), ((HB.out.cell (World.block_lt_of_cell? w _ hw393_8)).trans hw393_8), ((HB.out.cell (World.block_lt_of_cell? w _ hw394_0)).trans hw394_0), ((HB.out.cell (World.block_lt_of_cell? w _ hw394_1)).trans hw394_1), ((HB.out.cell (World.block_lt_of_cell? w _ hw394_2)).trans hw394_2), ((HB.out.cell (World.block_lt_of_cell? w _ hw394_3)).trans hw394_3), ((HB.out.cell (World.block_lt_of_cell? w _ hw394_4)).trans hw394_4), ((HB.out.cell (World.block_lt_of_cell? w _ hw394_5)).trans hw394_5), ((HB.out.cell (World.block_lt_of_cell? w _ hw394_6)).trans hw394_6), ((HB.out.cell (World.block_lt_of_cell? w _ hw394_7)).trans hw394_7), ((HB.out.cell (World.block_lt_of_cell? w _ hw394_8)).trans hw394_8), ((HB.out.cell (World.block_lt_of_cell? w _ hw395_0)).trans hw395_0), ((HB.out.cell (World.block_lt_of_cell? w _ hw395_1)).trans hw395_1), ((HB.out.cell (World.block_lt_of_cell? w _ hw395_2)).trans hw395_2), ((HB.out.cell (World.block_lt_of_cell? w _ hw395_3)).trans hw395_3), ((HB.out.cell (World.block_lt_of_cell? w _ hw395_4)).trans hw395_4), ((HB.out.cell (World.block_lt_of_cell? w _ hw395_5)).trans hw395_5), ((HB.out.cell (World.block_lt_of_cell? w _ hw395_6)).trans hw395_6), ((HB.out.cell (World.block_lt_of_cell? w _ hw395_7)).trans hw395_7), ((HB.out.cell (World.block_lt_of_cell? w _ hw395_8)).trans hw395_8), ((HB.out.cell (World.block_lt_of_cell? w _ hw396_0)).trans hw396_0), ((HB.out.cell (World.block_lt_of_cell? w _ hw396_1)).trans hw396_1), ((HB.out.cell (World.block_lt_of_cell? w _ hw396_2)).trans hw396_2), ((HB.out.cell (World.block_lt_of_cell? w _ hw396_3)).trans hw396_3), ((HB.out.cell (World.block_lt_of_cell? w _ hw396_4)).trans hw396_4), ((HB.out.cell (World.block_lt_of_cell? w _ hw396_5)).trans hw396_5), ((HB.out.cell (World.block_lt_of_cell? w _ hw396_6)).trans hw396_6), ((HB.out.cell (World.block_lt_of_cell? w _ hw396_7)).trans hw396_7), ((HB.out.cell (World.block_lt_of_cell? w _ hw396_8)).trans hw396_8)⟩ (fun hHeld => ?_)
    clear hK K
    refine norm_ (a' := ?_) ?_ ?_
    rotate_left
    ·show Act.put _ (some 37) _ = _
     simp only [Act.put, List.setIfInBounds_toArray, List.set_cons_zero, List.set_cons_succ, i64_w, i32_w]
     rfl
    refine pur_ (i := 21) (N := some 38) q30_22 (any_of HT_.out (by kernel_rfl)) ?_
    refine pur_ (i := 22) (N := some 39) q30_23 (any_of HT_.out (by kernel_rfl)) ?_
    refine done_ (done_of HT_.out (by kernel_rfl)) ?_
    try go_wp2
    go_ret
    exact ⟨we_, wb_ HB.out⟩
   subst c9
   have H1 : (bindleref08_SameTree.l0 k1 l0 l1 (wrap64 (x5_1 + 1))) = some r := by rw [if_pos rfl] at H; exact H
   clear H
   have H := H1
   clear H1
   have H' := A0_ H
   clear H
   try go_wp2
   have n0_ := A0_ (b1_ HB.out)
   clear HB
   have HB := n0_
   clear n0_
   have p393 : 0 ≤ (x5_1 : Int) := wd_
   have q393 : x5_1 < (l0.length : Int) := wd_
   obtain ⟨ad393, A393_8, c393_8, e393, hx393_0, hx393_1, hx393_2, hx393_3, hx393_4, hx393_5, hx393_6, hx393_7, hx393_8, hl393_8, hi393_8⟩ := at_T40 HR0.out x5_1 p393 q393
   have hw393_8 := hx393_8
   have hw393_7 := hx393_7
   have hw393_6 := hx393_6
   have hw393_5 := hx393_5
   have hw393_4 := hx393_4
   have hw393_3 := hx393_3
   have hw393_2 := hx393_2
   have hw393_1 := hx393_1
   have hw393_0 := hx393_0
   cases e393
   replace hx393_0 := (HB.out.cell (World.block_lt_of_cell? w _ hx393_0)).trans hx393_0
   replace hx393_1 := (HB.out.cell (World.block_lt_of_cell? w _ hx393_1)).trans hx393_1
   replace hx393_2 := (HB.out.cell (World.block_lt_of_cell? w _ hx393_2)).trans hx393_2
   replace hx393_3 := (HB.out.cell (World.block_lt_of_cell? w _ hx393_3)).trans hx393_3
   replace hx393_4 := (HB.out.cell (World.block_lt_of_cell? w _ hx393_4)).trans hx393_4
   replace hx393_5 := (HB.out.cell (World.block_lt_of_cell? w _ hx393_5)).trans hx393_5
   replace hx393_6 := (HB.out.cell (World.block_lt_of_cell? w _ hx393_6)).trans hx393_6
   replace hx393_7 := (HB.out.cell (World.block_lt_of_cell? w _ hx393_7)).trans hx393_7
   replace hx393_8 := (HB.out.cell (World.block_lt_of_cell? w _ hx393_8)).trans hx393_8
   have HR393_8 := A0_ hi393_8
   have HC393_8 := A0_ hl393_8
   clear hi393_8 hl393_8
   replace p393 := eq_true p393
   replace q393 := eq_true q393
   have p394 : 0 ≤ (x5_1 : Int) := wd_
   have q394 : x5_1 < (l1.length : Int) := wd_
   obtain ⟨ad394, A394_8, c394_8, e394, hx394_0, hx394_1, hx394_2, hx394_3, hx394_4, hx394_5, hx394_6, hx394_7, hx394_8, hl394_8, hi394_8⟩ := at_T40 HR1.out x5_1 p394 q394
   have hw394_8 := hx394_8
   have hw394_7 := hx394_7
   have hw394_6 := hx394_6
   have hw394_5 := hx394_5
   have hw394_4 := hx394_4
   have hw394_3 := hx394_3
   have hw394_2 := hx394_2
   have hw394_1 := hx394_1
   have hw394_0 := hx394_0
   cases e394
   replace hx394_0 := (HB.out.cell (World.block_lt_of_cell? w _ hx394_0)).trans hx394_0
   replace hx394_1 := (HB.out.cell (World.block_lt_of_cell? w _ hx394_1)).trans hx394_1
   replace hx394_2 := (HB.out.cell (World.block_lt_of_cell? w _ hx394_2)).trans hx394_2
   replace hx394_3 := (HB.out.cell (World.block_lt_of_cell? w _ hx394_3)).trans hx394_3
   replace hx394_4 := (HB.out.cell (World.block_lt_of_cell? w _ hx394_4)).trans hx394_4
   replace hx394_5 := (HB.out.cell (World.block_lt_of_cell? w _ hx394_5)).trans hx394_5
   replace hx394_6 := (HB.out.cell (World.block_lt_of_cell? w _ hx394_6)).trans hx394_6
   replace hx394_7 := (HB.out.cell (World.block_lt_of_cell? w _ hx394_7)).trans hx394_7
   replace hx394_8 := (HB.out.cell (World.block_lt_of_cell? w _ hx394_8)).trans hx394_8
   have HR394_8 := A0_ hi394_8
   have HC394_8 := A0_ hl394_8
   clear hi394_8 hl394_8
   replace p394 := eq_true p394
   replace q394 := eq_true q394
   have p395 : 0 ≤ (x5_1 : Int) := wd_
   have q395 : x5_1 < (l0.length : Int) := wd_
   obtain ⟨ad395, A395_8, c395_8, e395, hx395_0, hx395_1, hx395_2, hx395_3, hx395_4, hx395_5, hx395_6, hx395_7, hx395_8, hl395_8, hi395_8⟩ := at_T40 HR0.out x5_1 p395 q395
   have hw395_8 := hx395_8
   have hw395_7 := hx395_7
   have hw395_6 := hx395_6
   have hw395_5 := hx395_5
   have hw395_4 := hx395_4
   have hw395_3 := hx395_3
   have hw395_2 := hx395_2
   have hw395_1 := hx395_1
   have hw395_0 := hx395_0
   obtain rfl : ad393 = ad395 := (by injection e395)
   replace hx395_0 := (HB.out.cell (World.block_lt_of_cell? w _ hx395_0)).trans hx395_0
   replace hx395_1 := (HB.out.cell (World.block_lt_of_cell? w _ hx395_1)).trans hx395_1
   replace hx395_2 := (HB.out.cell (World.block_lt_of_cell? w _ hx395_2)).trans hx395_2
   replace hx395_3 := (HB.out.cell (World.block_lt_of_cell? w _ hx395_3)).trans hx395_3
   replace hx395_4 := (HB.out.cell (World.block_lt_of_cell? w _ hx395_4)).trans hx395_4
   replace hx395_5 := (HB.out.cell (World.block_lt_of_cell? w _ hx395_5)).trans hx395_5
   replace hx395_6 := (HB.out.cell (World.block_lt_of_cell? w _ hx395_6)).trans hx395_6
   replace hx395_7 := (HB.out.cell (World.block_lt_of_cell? w _ hx395_7)).trans hx395_7
   replace hx395_8 := (HB.out.cell (World.block_lt_of_cell? w _ hx395_8)).trans hx395_8
   have HR395_8 := A0_ hi395_8
   have HC395_8 := A0_ hl395_8
   clear hi395_8 hl395_8
   replace p395 := eq_true p395
   replace q395 := eq_true q395
   have ea_ := Option.some.inj (hx393_8.symm.trans hx395_8)
   injection ea_ with ea_ en_ ec_
   subst ea_
   subst ec_
   clear en_
   have p396 : 0 ≤ (x5_1 : Int) := wd_
   have q396 : x5_1 < (l1.length : Int) := wd_
   obtain ⟨ad396, A396_8, c396_8, e396, hx396_0, hx396_1, hx396_2, hx396_3, hx396_4, hx396_5, hx396_6, hx396_7, hx396_8, hl396_8, hi396_8⟩ := at_T40 HR1.out x5_1 p396 q396
   have hw396_8 := hx396_8
   have hw396_7 := hx396_7
   have hw396_6 := hx396_6
   have hw396_5 := hx396_5
   have hw396_4 := hx396_4
   have hw396_3 := hx396_3
   have hw396_2 := hx396_2
   have hw396_1 := hx396_1
   have hw396_0 := hx396_0
   obtain rfl : ad394 = ad396 := (by injection e396)
   replace hx396_0 := (HB.out.cell (World.block_lt_of_cell? w _ hx396_0)).trans hx396_0
   replace hx396_1 := (HB.out.cell (World.block_lt_of_cell? w _ hx396_1)).trans hx396_1
   replace hx396_2 := (HB.out.cell (World.block_lt_of_cell? w _ hx396_2)).trans hx396_2
   replace hx396_3 := (HB.out.cell (World.block_lt_of_cell? w _ hx396_3)).trans hx396_3
   replace hx396_4 := (HB.out.cell (World.block_lt_of_cell? w _ hx396_4)).trans hx396_4
   replace hx396_5 := (HB.out.cell (World.block_lt_of_cell? w _ hx396_5)).trans hx396_5
   replace hx396_6 := (HB.out.cell (World.block_lt_of_cell? w _ hx396_6)).trans hx396_6
   replace hx396_7 := (HB.out.cell (World.block_lt_of_cell? w _ hx396_7)).trans hx396_7
   replace hx396_8 := (HB.out.cell (World.block_lt_of_cell? w _ hx396_8)).trans hx396_8
   have HR396_8 := A0_ hi396_8
   have HC396_8 := A0_ hl396_8
   clear hi396_8 hl396_8
   replace p396 := eq_true p396
   replace q396 := eq_true q396
   have ea_ := Option.some.inj (hx394_8.symm.trans hx396_8)
   injection ea_ with ea_ en_ ec_
   subst ea_
   subst ec_
   clear en_
   refine start_ (n := 23) (S := fun w' => w'.cell? (ad393.add ((x5_1).toNat * 9)) = some (.string ((rd_T40 l0 x5_1).f0)) ∧ w'.cell? ⟨(ad393.add ((x5_1).toNat * 9)).block, (ad393.add ((x5_1).toNat * 9)).off + 1, none⟩ = some (.string ((rd_T40 l0 x5_1).f1)) ∧ w'.cell? ⟨(ad393.add ((x5_1).toNat * 9)).block, (ad393.add ((x5_1).toNat * 9)).off + 2, none⟩ = some (.string ((rd_T40 l0 x5_1).f2)) ∧ w'.cell? ⟨(ad393.add ((x5_1).toNat * 9)).block, (ad393.add ((x5_1).toNat * 9)).off + 3, none⟩ = some (.int .u8 ((rd_T40 l0 x5_1).f3)) ∧ w'.cell? ⟨(ad393.add ((x5_1).toNat * 9)).block, (ad393.add ((x5_1).toNat * 9)).off + 4, none⟩ = some (.int .i64 ((rd_T40 l0 x5_1).f4.f0)) ∧ w'.cell? ⟨(ad393.add ((x5_1).toNat * 9)).block, (ad393.add ((x5_1).toNat * 9)).off + 5, none⟩ = some (.int .i64 ((rd_T40 l0 x5_1).f4.f1)) ∧ w'.cell? ⟨(ad393.add ((x5_1).toNat * 9)).block, (ad393.add ((x5_1).toNat * 9)).off + 6, none⟩ = some (.int .i64 ((rd_T40 l0 x5_1).f4.f2)) ∧ w'.cell? ⟨(ad393.add ((x5_1).toNat * 9)).block, (ad393.add ((x5_1).toNat * 9)).off + 7, none⟩ = some (.int .i64 ((rd_T40 l0 x5_1).f4.f3)) ∧ w'.cell? ⟨(ad393.add ((x5_1).toNat * 9)).block, (ad393.add ((x5_1).toNat * 9)).off + 8, none⟩ = some (.slice A393_8 ((rd_T40 l0 x5_1).f5).length c393_8) ∧ w'.cell? (ad394.add ((x5_1).toNat * 9)) = some (.string ((rd_T40 l1 x5_1).f0)) ∧ w'.cell? ⟨(ad394.add ((x5_1).toNat * 9)).block, (ad394.add ((x5_1).toNat * 9)).off + 1, none⟩ = some (.string ((rd_T40 l1 x5_1).f1)) ∧ w'.cell? ⟨(ad394.add ((x5_1).toNat * 9)).block, (ad394.add ((x5_1).toNat * 9)).off + 2, none⟩ = some (.string ((rd_T40 l1 x5_1).f2)) ∧ w'.cell? ⟨(ad394.add ((x5_1).toNat * 9)).block, (ad394.add ((x5_1).toNat * 9)).off + 3, none⟩ = some (.int .u8 ((rd_T40 l1 x5_1).f3)) ∧ w'.cell? ⟨(ad394.add ((x5_1).toNat * 9)).block, (ad394.add ((x5_1).toNat * 9)).off + 4, none⟩ = some (.int .i64 ((rd_T40 l1 x5_1).f4.f0)) ∧ w'.cell? ⟨(ad394.add ((x5_1).toNat * 9)).block, (ad394.add ((x5_1).toNat * 9)).off + 5, none⟩ = some (.int .i64 ((rd_T40 l1 x5_1).f4.f1)) ∧ w'.cell? ⟨(ad394.add ((x5_1).toNat * 9)).block, (ad394.add ((x5_1).toNat * 9)).off + 6, none⟩ = some (.int .i64 ((rd_T40 l1 x5_1).f4.f2)) ∧ w'.cell? ⟨(ad394.add ((x5_1).toNat * 9)).block, (ad394.add ((x5_1).toNat * 9)).off + 7, none⟩ = some (.int .i64 ((rd_T40 l1 x5_1).f4.f3)) ∧ w'.cell? ⟨(ad394.add ((x5_1).toNat * 9)).block, (ad394.add ((x5_1).toNat * 9)).off + 8, none⟩ = some (.slice A394_8 ((rd_T40 l1 x5_1).f5).length c394_8) ∧ w'.cell? (ad393.add ((x5_1).toNat * 9)) = some (.string ((rd_T40 l0 x5_1).f0)) ∧ w'.cell? ⟨(ad393.add ((x5_1).toNat * 9)).block, (ad393.add ((x5_1).toNat * 9)).off + 1, none⟩ = some (.string ((rd_T40 l0 x5_1).f1)) ∧ w'.cell? ⟨(ad393.add ((x5_1).toNat * 9)).block, (ad393.add ((x5_1).toNat * 9)).off + 2, none⟩ = some (.string ((rd_T40 l0 x5_1).f2)) ∧ w'.cell? ⟨(ad393.add ((x5_1).toNat * 9)).block, (ad393.add ((x5_1).toNat * 9)).off + 3, none⟩ = some (.int .u8 ((rd_T40 l0 x5_1).f3)) ∧ w'.cell? ⟨(ad393.add ((x5_1).toNat * 9)).block, (ad393.add ((x5_1).toNat * 9)).off + 4, none⟩ = some (.int .i64 ((rd_T40 l0 x5_1).f4.f0)) ∧ w'.cell? ⟨(ad393.add ((x5_1).toNat * 9)).block, (ad393.add ((x5_1).toNat * 9)).off + 5, none⟩ = some (.int .i64 ((rd_T40 l0 x5_1).f4.f1)) ∧ w'.cell? ⟨(ad393.add ((x5_1).toNat * 9)).block, (ad393.add ((x5_1).toNat * 9)).off + 6, none⟩ = some (.int .i64 ((rd_T40 l0 x5_1).f4.f2)) ∧ w'.cell? ⟨(ad393.add ((x5_1).toNat * 9)).block, (ad393.add ((x5_1).toNat * 9)).off + 7, none⟩ = some (.int .i64 ((rd_T40 l0 x5_1).f4.f3)) ∧ w'.cell? ⟨(ad393.add ((x5_1).toNat * 9)).block, (ad393.add ((x5_1).toNat * 9)).off + 8, none⟩ = some (.slice A393_8 ((rd_T40 l0 x5_1).f5).length c393_8) ∧ w'.cell? (ad394.add ((x5_1).toNat * 9)) = some (.string ((rd_T40 l1 x5_1).f0)) ∧ w'.cell? ⟨(ad394.add ((x5_1).toNat * 9)).block, (ad394.add ((x5_1).toNat * 9)).off + 1, none⟩ = some (.string ((rd_T40 l1 x5_1).f1)) ∧ w'.cell? ⟨(ad394.add ((x5_1).toNat * 9)).block, (ad394.add ((x5_1).toNat * 9)).off + 2, none⟩ = some (.string ((rd_T40 l1 x5_1).f2)) ∧ w'.cell? ⟨(ad394.add ((x5_1).toNat * 9)).block, (ad394.add ((x5_1).toNat * 9)).off + 3, none⟩ = some (.int .u8 ((rd_T40 l1 x5_1).f3)) ∧ w'.cell? ⟨(ad394.add ((x5_1).toNat * 9)).block, (ad394.add ((x5_1).toNat * 9)).off + 4, none⟩ = some (.int .i64 ((rd_T40 l1 x5_1).f4.f0)) ∧ w'.cell? ⟨(ad394.add ((x5_1).toNat * 9)).block, (ad394.add ((x5_1).toNat * 9)).off + 5, none⟩ = some (.int .i64 ((rd_T40 l1 x5_1).f4.f1)) ∧ w'.cell? ⟨(ad394.add ((x5_1).toNat * 9)).block, (ad394.add ((x5_1).toNat * 9)).off + 6, none⟩ = some (.int .i64 ((rd_T40 l1 x5_1).f4.f2)) ∧ w'.cell? ⟨(ad394.add ((x5_1).toNat * 9)).block, (ad394.add ((x5_1).toNat * 9)).off + 7, none⟩ = some (.int .i64 ((rd_T40 l1 x5_1).f4.f3)) ∧ w'.cell? ⟨(ad394.add ((x5_1).toNat * 9)).block, (ad394.add ((x5_1).toNat * 9)).off + 8, none⟩ = some (.slice A394_8 ((rd_T40 l1 x5_1).f5).length c394_8)) (ds := []) q30_0 (by kernel_rfl) rfl rfl ⟨((HB.out.cell (World.block_lt_of_cell? w _ hw393_0)).trans hw393_0), ((HB.out.cell (World.block_lt_of_cell? w _ hw393_1)).trans hw393_1), ((HB.out.cell (World.block_lt_of_cell? w _ hw393_2)).trans hw393_2), ((HB.out.cell (World.block_lt_of_cell? w _ hw393_3)).trans hw393_3), ((HB.out.cell (World.block_lt_of_cell? w _ hw393_4)).trans hw393_4), ((HB.out.cell (World.block_lt_of_cell? w _ hw393_5)).trans hw393_5), ((HB.out.cell (World.block_lt_of_cell? w _ hw393_6)).trans hw393_6), ((HB.out.cell (World.block_lt_of_cell? w _ hw393_7)).trans hw393_7), ((HB.out.cell (World.block_lt_of_cell? w _ hw393_8)).trans hw393_8), ((HB.out.cell (World.block_lt_of_cell? w _ hw394_0)).trans hw394_0), ((HB.out.cell (World.block_lt_of_cell? w _ hw394_1)).trans hw394_1), ((HB.out.cell (World.block_lt_of_cell? w _ hw394_2)).trans hw394_2), ((HB.out.cell (World.block_lt_of_cell? w _ hw394_3)).trans hw394_3), ((HB.out.cell (World.block_lt_of_cell? w _ hw394_4)).trans hw394_4), ((HB.out.cell (World.block_lt_of_cell? w _ hw394_5)).trans hw394_5), ((HB.out.cell (World.block_lt_of_cell? w _ hw394_6)).trans hw394_6), ((HB.out.cell (World.block_lt_of_cell? w _ hw394_7)).trans hw394_7), ((HB.out.cell (World.block_lt_of_cell? w _ hw394_8)).trans hw394_8), ((HB.out.cell (World.block_lt_of_cell? w _ hw395_0)).trans hw395_0), ((HB.out.cell (World.block_lt_of_cell? w _ hw395_1)).trans hw395_1), ((HB.out.cell (World.block_lt_of_cell? w _ hw395_2)).trans hw395_2), ((HB.out.cell (World.block_lt_of_cell? w _ hw395_3)).trans hw395_3), ((HB.out.cell (World.block_lt_of_cell? w _ hw395_4)).trans hw395_4), ((HB.out.cell (World.block_lt_of_cell? w _ hw395_5)).trans hw395_5), ((HB.out.cell (World.block_lt_of_cell? w _ hw395_6)).trans hw395_6), ((HB.out.cell (World.block_lt_of_cell? w _ hw395_7)).trans hw395_7), ((HB.out.cell (World.block_lt_of_cell? w _ hw395_8)).trans hw395_8), ((HB.out.cell (World.block_lt_of_cell? w _ hw396_0)).trans hw396_0), ((HB.out.cell (World.block_lt_of_cell? w _ hw396_1)).trans hw396_1), ((HB.out.cell (World.block_lt_of_cell? w _ hw396_2)).trans hw396_2), ((HB.out.cell (World.block_lt_of_cell? w _ hw396_3)).trans hw396_3), ((HB.out.cell (World.block_lt_of_cell? w _ hw396_4)).trans hw396_4), ((HB.out.cell (World.block_lt_of_cell? w _ hw396_5)).trans hw396_5), ((HB.out.cell (World.block_lt_of_cell? w _ hw396_6)).trans hw396_6), ((HB.out.cell (World.block_lt_of_cell? w _ hw396_7)).trans hw396_7), ((HB.out.cell (World.block_lt_of_cell? w _ hw396_8)).trans hw396_8)⟩ (fun hHeld => ?_); refine with_tabW bindleref08_SameTree.tab6 bindleref08_SameTree.bits6 (fun HT_ HW_ => ?_)
   generalize wr.drew = w10 at HB HR393_8 HR394_8 HR395_8 HR396_8 hx393_0 hx393_1 hx393_2 hx393_3 hx393_4 hx393_5 hx393_6 hx393_7 hx393_8 hx394_0 hx394_1 hx394_2 hx394_3 hx394_4 hx394_5 hx394_6 hx394_7 hx394_8 hx395_0 hx395_1 hx395_2 hx395_3 hx395_4 hx395_5 hx395_6 hx395_7 hx395_8 hx396_0 hx396_1 hx396_2 hx396_3 hx396_4 hx396_5 hx396_6 hx396_7 hx396_8 hHeld ⊢
   refine pur_ (i := 0) (N := some 17) q30_1 (any_of HT_.out (by kernel_rfl)) ?_
   refine pur_ (i := 1) (N := some 18) q30_2 (any_of HT_.out (by kernel_rfl)) ?_
   refine pur_ (i := 2) (N := some 19) q30_3 (any_of HT_.out (by kernel_rfl)) ?_
   refine pur_ (i := 3) (N := some 20) q30_4 (any_of HT_.out (by kernel_rfl)) ?_
   refine pur_ (i := 5) (N := some 22) q30_5 (any_of HT_.out (by kernel_rfl)) ?_
   refine pur_ (i := 6) (N := some 23) q30_6 (any_of HT_.out (by kernel_rfl)) ?_
   refine pur_ (i := 7) (N := some 24) q30_7 (any_of HT_.out (by kernel_rfl)) ?_
   refine pur_ (i := 8) (N := some 25) q30_8 (any_of HT_.out (by kernel_rfl)) ?_
   refine take_ (i := 4) (N := some 21) (v := ?_) (a' := ?_) q30_9 rfl rfl (take_ofW HT_.out HW_.out (by kernel_rfl)) (fun _ _ _ h => h) (Or.inl ⟨by rfl, ?_⟩) hHeld ?_ ?_
   rotate_left
   ·rintro w' ⟨s0, s1, s2, s3, s4, s5, s6, s7, s8, s9, s10, s11, s12, s13, s14, s15, s16, s17, s18, s19, s20, s21, s22, s23, s24, s25, s26, s27, s28, s29, s30, s31, s32, s33, s34, s35⟩
    go_simp
    with_reducible rfl
   rotate_left
   ·simp only [Act.put, List.setIfInBounds_toArray, List.set_cons_zero, List.set_cons_succ, i64_w, i32_w]
    rfl
   refine take_ (i := 9) (N := some 26) (v := ?_) (a' := ?_) q30_10 rfl rfl (take_ofW HT_.out HW_.out (by kernel_rfl)) (fun _ _ _ h => h) (Or.inl ⟨by rfl, ?_⟩) hHeld ?_ ?_
   rotate_left
   ·rintro w' ⟨s0, s1, s2, s3, s4, s5, s6, s7, s8, s9, s10, s11, s12, s13, s14, s15, s16, s17, s18, s19, s20, s21, s22, s23, s24, s25, s26, s27, s28, s29, s30, s31, s32, s33, s34, s35⟩
    go_simp
    with_reducible rfl
   rotate_left
   ·simp only [Act.put, List.setIfInBounds_toArray, List.set_cons_zero, List.set_cons_succ, i64_w, i32_w]
    rfl
   refine pur_ (i := 10) (N := some 27) q30_11 (any_of HT_.out (by kernel_rfl)) ?_
   refine pur_ (i := 11) (N := some 28) q30_12 (any_of HT_.out (by kernel_rfl)) ?_
   refine pur_ (i := 12) (N := some 29) q30_13 (any_of HT_.out (by kernel_rfl)) ?_
   refine pur_ (i := 13) (N := some 30) q30_14 (any_of HT_.out (by kernel_rfl)) ?_
   refine pur_ (i := 14) (N := some 31) q30_15 (any_of HT_.out (by kernel_rfl)) ?_
   refine pur_ (i := 16) (N := some 33) q30_24 (any_of HT_.out (by kernel_rfl)) ?_
   refine pur_ (i := 17) (N := some 34) q30_25 (any_of HT_.out (by kernel_rfl)) ?_
   refine pur_ (i := 18) (N := some 35) q30_26 (any_of HT_.out (by kernel_rfl)) ?_
   refine take_ (i := 15) (N := some 32) (v := ?_) (a' := ?_) q30_19 rfl rfl (take_ofW HT_.out HW_.out (by kernel_rfl)) (fun _ _ _ h => h) (Or.inl ⟨by rfl, ?_⟩) hHeld ?_ ?_
   rotate_left
   ·rintro w' ⟨s0, s1, s2, s3, s4, s5, s6, s7, s8, s9, s10, s11, s12, s13, s14, s15, s16, s17, s18, s19, s20, s21, s22, s23, s24, s25, s26, s27, s28, s29, s30, s31, s32, s33, s34, s35⟩
    go_simp
    with_reducible rfl
   rotate_left
   ·simp only [Act.put, List.setIfInBounds_toArray, List.set_cons_zero, List.set_cons_succ, i64_w, i32_w]
    rfl
   refine take_ (i := 19) (N := some 36) (v := ?_) (a' := ?_) q30_20 rfl rfl (take_ofW HT_.out HW_.out (by kernel_rfl)) (fun _ _ _ h => h) (Or.inl ⟨by rfl, ?_⟩) hHeld ?_ ?_
   rotate_left
   ·rintro w' ⟨s0, s1, s2, s3, s4, s5, s6, s7, s8, s9, s10, s11, s12, s13, s14, s15, s16, s17, s18, s19, s20, s21, s22, s23, s24, s25, s26, s27, s28, s29, s30, s31, s32, s33, s34, s35⟩
    go_simp
    with_reducible rfl
   rotate_left
   ·simp only [Act.put, List.setIfInBounds_toArray, List.set_cons_zero, List.set_cons_succ, i64_w, i32_w]
    rfl
   refine one_ (i := 20) (N := some 37) q30_21 rfl rfl (one_of HT_.out (by kernel_rfl)) (by decide) (fun K hK => ?_)
   refine goes_ Tryd.func35 (by kernel_rfl) rfl #[.agg #[.string ((rd_T40 l0 x5_1).f0), .string ((rd_T40 l0 x5_1).f1), .string ((rd_T40 l0 x5_1).f2), .int .u8 ((rd_T40 l0 x5_1).f3), .int .i64 ((rd_T40 l0 x5_1).f4.f0), .int .i64 ((rd_T40 l0 x5_1).f4.f1), .int .i64 ((rd_T40 l0 x5_1).f4.f2), .int .i64 ((rd_T40 l0 x5_1).f4.f3), .slice A393_8 ((rd_T40 l0 x5_1).f5).length c393_8], .agg #[.string ((rd_T40 l1 x5_1).f0), .string ((rd_T40 l1 x5_1).f1), .string ((rd_T40 l1 x5_1).f2), .int .u8 ((rd_T40 l1 x5_1).f3), .int .i64 ((rd_T40 l1 x5_1).f4.f0), .int .i64 ((rd_T40 l1 x5_1).f4.f1), .int .i64 ((rd_T40 l1 x5_1).f4.f2), .int .i64 ((rd_T40 l1 x5_1).f4.f3), .slice A394_8 ((rd_T40 l1 x5_1).f5).length c394_8]] (by rfl) rfl rfl wm_ ?_
   with_reducible refine (bindleref08_Equal.calls ((rd_T40 l0 x5_1).f0) ((rd_T40 l0 x5_1).f1) ((rd_T40 l0 x5_1).f2) ((rd_T40 l0 x5_1).f3) ((rd_T40 l0 x5_1).f4.f0) ((rd_T40 l0 x5_1).f4.f1) ((rd_T40 l0 x5_1).f4.f2) ((rd_T40 l0 x5_1).f4.f3) _ _ ((rd_T40 l0 x5_1).f5) ((rd_T40 l1 x5_1).f0) ((rd_T40 l1 x5_1).f1) ((rd_T40 l1 x5_1).f2) ((rd_T40 l1 x5_1).f3) ((rd_T40 l1 x5_1).f4.f0) ((rd_T40 l1 x5_1).f4.f1) ((rd_T40 l1 x5_1).f4.f2) ((rd_T40 l1 x5_1).f4.f3) _ _ ((rd_T40 l1 x5_1).f5) true _ ?side1 ?side2 ?side3 ?side4 A8.out).mono ?_
   (case side1 => exact wc_ (Kd.C_below HR395_8.out HB.out))
   (case side2 => exact HC395_8.out)
   (case side3 => exact wc_ (Kd.C_below HR396_8.out HB.out))
   (case side4 => exact HC396_8.out)
   rintro e w11 ⟨rfl, hb⟩
   refine ⟨_, rfl, ?_⟩
   have n0_ := A0_ (below_step (wb_ HB.out) hb)
   clear HB
   have HB := n0_
   clear n0_
   (try clear hb)
   (try clear hb2)
   (try clear hk)
   (try clear hi)
   refine hK.out _ _ ⟨((HB.out.cell (World.block_lt_of_cell? w _ hw393_0)).trans hw393_0), ((HB.out.cell (World.block_lt_of_cell? w _ hw393_1)).trans hw393_1), ((HB.out.cell (World.block_lt_of_cell? w _ hw393_2)).trans hw393_2), ((HB.out.cell (World.block_lt_of_cell? w _ hw393_3)).trans hw393_3), ((HB.out.cell (World.block_lt_of_cell? w _ hw393_4)).trans hw393_4), ((HB.out.cell (World.block_lt_of_cell? w _ hw393_5)).trans hw393_5), ((HB.out.cell (World.block_lt_of_cell? w _ hw393_6)).trans hw393_6), ((HB.out.cell (World.block_lt_of_cell? w _ hw393_7)).trans hw393_7), ((HB.out.cell (World.block_lt_of_cell? w _ hw393_8)).trans hw393_8), ((HB.out.cell (World.block_lt_of_cell? w _ hw394_0)).trans hw394_0), ((HB.out.cell (World.block_lt_of_cell? w _ hw394_1)).trans hw394_1), ((HB.out.cell (World.block_lt_of_cell? w _ hw394_2)).trans hw394_2), ((HB.out.cell (World.block_lt_of_cell? w _ hw394_3)).trans hw394_3), ((HB.out.cell (World.block_lt_of_cell? w _ hw394_4)).trans hw394_4), ((HB.out.cell (World.block_lt_of_cell? w _ hw394_5)).trans hw394_5), ((HB.out.cell (World.block_lt_of_cell? w _ hw394_6)).trans hw394_6), ((HB.out.cell (World.block_lt_of_cell? w _ hw394_7)).trans hw394_7), ((HB.out.cell (World.block_lt_of_cell? w _ hw394_8)).trans hw394_8), ((HB.out.cell (World.block_lt_of_cell? w _ hw395_0)).trans hw395_0), ((HB.out.cell (World.block_lt_of_cell? w _ hw395_1)).trans hw395_1), ((HB.out.cell (World.block_lt_of_cell? w _ hw395_2)).trans hw395_2), ((HB.out.cell (World.block_lt_of_cell? w _ hw395_3)).trans hw395_3), ((HB.out.cell (World.block_lt_of_cell? w _ hw395_4)).trans hw395_4), ((HB.out.cell (World.block_lt_of_cell? w _ hw395_5)).trans hw395_5), ((HB.out.cell (World.block_lt_of_cell? w _ hw395_6)).trans hw395_6), ((HB.out.cell (World.block_lt_of_cell? w _ hw395_7)).trans hw395_7), ((HB.out.cell (World.block_lt_of_cell? w _ hw395_8)).trans hw395_8), ((HB.out.cell (World.block_lt_of_cell? w _ hw396_0)).trans hw396_0), ((HB.out.cell (World.block_lt_of_cell? w _ hw396_1)).trans hw396_1), ((HB.out.cell (World.block_lt_of_cell? w _ hw396_2)).trans hw396_2), ((HB.out.cell (World.block_lt_of_cell? w _ hw396_3)).trans hw396_3), ((HB.out.cell (World.block_lt_of_cell? w _ hw396_4)).trans hw396_4), ((HB.out.cell (World.block_lt_of_cell? w _ hw396_5)).trans hw396_5), ((HB.out.cell (World.block_lt_of_cell? w _ hw396_6)).trans hw396_6), ((HB.out.cell (World.block_lt_of_cell? w _ hw396_7)).trans hw396_7), ((HB.out.cell (World.block_lt_of_cell? w _ hw396_8)).trans hw396_8)⟩ (fun hHeld => ?_)
   clear hK K
   refine norm_ (a' := ?_) ?_ ?_
   rotate_left
   ·show Act.put _ (some 37) _ = _
    simp only [Act.put, List.setIfInBounds_toArray, List.set_cons_zero, List.set_cons_succ, i64_w, i32_w]
    rfl
   refine pur_ (i := 21) (N := some 38) q30_22 (any_of HT_.out (by kernel_rfl)) ?_
   refine pur_ (i := 22) (N := some 39) q30_23 (any_of HT_.out (by kernel_rfl)) ?_
   refine done_ (done_of HT_.out (by kernel_rfl)) ?_
   try go_wp2
   go_roundg k1
   case measure => have := HK1.out; omega
   case rel => exact ⟨(wrap64 (x5_1 + 1)), wr_, H', ⟨by have := HK1.out; omega⟩, ⟨wb_ HB.out⟩⟩
end Go.Proofs.YtfljbidecljlcaaDoor.Print

namespace Go.Proofs.YtfljbidecljlcaaDoor
open Go.RowKit Go.Proofs.YtfljbidecljlcaaDoor.Print Go.Proofs.YtfljbidecljlcaaDoorW.PrintWords
set_option linter.unusedVariables false
theorem requal_f (a b : Node) : bindleref08_Equal.f a.f0 a.f1 a.f2 a.f3 a.f4.f0 a.f4.f1 a.f4.f2 a.f4.f3 a.f5 b.f0 b.f1 b.f2 b.f3 b.f4.f0 b.f4.f1 b.f4.f2 b.f4.f3 b.f5 = some (equalB a b) := by
 unfold bindleref08_Equal.f
 exact equal_chain a b rfl
theorem rdN_nat' (l : List Node) (j : Nat) (h : j < l.length) : rd_T40 l (j : Int) = l[j] := by rw [rdN_at l j (by omega) (by omega)]; simp
theorem sameB_size : ∀ (l r : List Node), sameB l r = true → l.length = r.length
 | [], [], _ => rfl
 | [], _ :: _, h => by cases h
 | _ :: _, [], h => by cases h
 | a :: l, b :: r, h => by
  rw [sameB, Bool.and_eq_true] at h
  rw [List.length_cons, List.length_cons, sameB_size l r h.2]
theorem sameTree_l (l r : List Node) (hl : l.length = r.length) (hlen : l.length ≤ 4611686018427387904) : ∀ (d i : Nat), i + d = l.length → Ev (fun k => bindleref08_SameTree.l0 k l r (i : Int)) (sameB (l.drop i) (r.drop i)) := by
 intro d
 induction d with
 | zero =>
  intro i hi
  rw [List.drop_of_length_le (by omega), List.drop_of_length_le (by omega)]
  exact Ev.step (f := fun _ => some true) (fun k => by rw [bindleref08_SameTree.l0, if_neg (by omega)]) (Ev.now _)
 | succ d ih =>
  intro i hi
  have hil : i < l.length := by omega
  have hir : i < r.length := by omega
  rw [List.drop_eq_getElem_cons hil, List.drop_eq_getElem_cons hir, sameB]
  by_cases he : l[i].f2.toList = r[i].f2.toList
  ·rw [decide_eq_true he, Bool.true_and]
   cases hb : equalB l[i] r[i] with
   | true =>
    rw [Bool.true_and]
    refine Ev.step (fun k => ?_) (ih (i + 1) (by omega))
    rw [bindleref08_SameTree.l0, if_pos (by omega), if_pos (by omega), if_pos (by omega), rdN_nat' l i hil, rdN_nat' r i hir, if_pos he, requal_f, hb, Option.bind_some, if_pos rfl]
    rw [show wrap64 ((i : Int) + 1) = ((i + 1 : Nat) : Int) by unfold wrap64; omega]
   | false =>
    rw [Bool.false_and]
    refine Ev.step (f := fun _ => some false) (fun k => ?_) (Ev.now _)
    rw [bindleref08_SameTree.l0, if_pos (by omega), if_pos (by omega), if_pos (by omega), rdN_nat' l i hil, rdN_nat' r i hir, if_pos he, requal_f, hb, Option.bind_some, if_neg (by simp)]
  ·rw [decide_eq_false he, Bool.false_and, Bool.false_and]
   refine Ev.step (f := fun _ => some false) (fun k => ?_) (Ev.now _)
   rw [bindleref08_SameTree.l0, if_pos (by omega), if_pos (by omega), if_pos (by omega), rdN_nat' l i hil, rdN_nat' r i hir, if_neg he]
theorem sameTree_eq (l r : List Node) (hlen : l.length ≤ 4611686018427387904) : Ev (fun k => bindleref08_SameTree.f k l r) (sameB l r) := by
 by_cases hl : l.length = r.length
 ·refine Ev.congr (fun k => ?_) (sameTree_l l r hl hlen l.length 0 (by omega))
  unfold bindleref08_SameTree.f
  rw [if_pos (by omega)]
  rfl
 ·have hf : sameB l r = false := by
   rw [Bool.eq_false_iff]
   exact fun h => hl (sameB_size l r h)
  rw [hf]
  refine Ev.congr (f := fun _ => some false) (fun k => ?_) (Ev.now _)
  unfold bindleref08_SameTree.f
  rw [if_neg (by omega)]
theorem equalB_refl (a : Node) : equalB a a = true := by unfold equalB; simp
theorem sameB_refl : ∀ l : List Node, sameB l l = true
 | [] => rfl
 | a :: l => by rw [sameB, equalB_refl, sameB_refl l]; simp
end Go.Proofs.YtfljbidecljlcaaDoor

namespace Go.Proofs.YtfljbidecljlcaaDoor.Print
open Go.RowKit Go.Proofs.YtfljbidecljlcaaDoorW.PrintWords Go.Proofs.YtfljbidecljlcaaDoorW.PrintLast Go.Proofs.YtfljbidecljlcaaDoorW.PrintMore
attribute [local go_sem] max2_int min2_int max_two min_two max_three min_three max_four min_four   -- for this text's walks alone
set_option linter.unusedVariables false
set_option linter.unusedSimpArgs false
end Go.Proofs.YtfljbidecljlcaaDoor.Print

namespace Go.Proofs.YtfljbidecljlcaaDoor.Print
open Go.RowKit Go.Proofs.YtfljbidecljlcaaDoorW.PrintWords Go.Proofs.YtfljbidecljlcaaDoorW.PrintLast Go.Proofs.YtfljbidecljlcaaDoorW.PrintMore
attribute [local go_sem] max2_int min2_int max_two min_two max_three min_three max_four min_four   -- for this text's walks alone
set_option linter.unusedVariables false
set_option linter.unusedSimpArgs false
attribute [local go_sem high] eqA38
end Go.Proofs.YtfljbidecljlcaaDoor.Print

namespace Go.Proofs.YtfljbidecljlcaaDoor.Print
open Go.RowKit Go.Proofs.YtfljbidecljlcaaDoorW.PrintWords Go.Proofs.YtfljbidecljlcaaDoorW.PrintLast Go.Proofs.YtfljbidecljlcaaDoorW.PrintMore
attribute [local go_sem] max2_int min2_int max_two min_two max_three min_three max_four min_four   -- for this text's walks alone
set_option linter.unusedVariables false
set_option linter.unusedSimpArgs false
end Go.Proofs.YtfljbidecljlcaaDoor.Print

namespace Go.Proofs.YtfljbidecljlcaaDoor.Print
open Go.RowKit Go.Proofs.YtfljbidecljlcaaDoorW.PrintWords Go.Proofs.YtfljbidecljlcaaDoorW.PrintLast Go.Proofs.YtfljbidecljlcaaDoorW.PrintMore
attribute [local go_sem] max2_int min2_int max_two min_two max_three min_three max_four min_four   -- for this text's walks alone
set_option linter.unusedVariables false
set_option linter.unusedSimpArgs false
def bindleref08_OwnTree.l0 : Nat → List (S40) → List (S40) → Int → Option ((List (S40)))
 | 0, _, _, _ => none
 | k + 1, x0, x3, x4 => if x4 < (x0.length : Int) then (if 0 ≤ x4 then ((some (([] : List Int) : List Int)).bind fun y155 => (if y155.length + ((rd_T40 x0 x4).f5).length < 140737488355328 then (if x3.length < 1256584717458 then (bindleref08_OwnTree.l0 k x0 (x3 ++ [(⟨(rd_T40 x0 x4).f0, (rd_T40 x0 x4).f1, (rd_T40 x0 x4).f2, (rd_T40 x0 x4).f3, (⟨(rd_T40 x0 x4).f4.f0, (rd_T40 x0 x4).f4.f1, (rd_T40 x0 x4).f4.f2, (rd_T40 x0 x4).f4.f3⟩ : S38), (y155 ++ ((rd_T40 x0 x4).f5))⟩ : S40)]) (wrap64 (x4 + 1))) else (none)) else (none))) else (none)) else (some x3)
def bindleref08_OwnTree.f (k : Nat) (l0 : List (S40)) : Option ((List (S40))) := bindleref08_OwnTree.l0 k l0 ([] : List (S40)) 0
set_option maxHeartbeats 8000000 in
set_option maxRecDepth 100000 in
theorem bindleref08_OwnTree.calls (k : Nat) (A0 : Option Addr) (c0 : Nat) (l0 : List (S40)) (r : List (S40)) (w : World) (hr0 : Kd.C k40 w A0 l0.length l0) (hc0 : l0.length ≤ c0) (h : bindleref08_OwnTree.f k l0 = some r) :
  Calls Tryd.prog 18 #[.slice A0 l0.length c0] w fun e w' => ∃ v0_ : Value, e = .returned (v0_) ∧ Kd.S k40 40 w' w.heap.size (fun _ => True) v0_ r ∧ Below w.heap.size w w' := by
 have hu40 := Tryd.underlying40
 have HR0 := A0_ hr0
 have HC0 := A0_ hc0
 clear hr0 hc0
 have HB := A0_ (Below.refl w.heap.size w)
 have H : (bindleref08_OwnTree.l0 k l0 ([] : List (S40)) 0) = some r := h
 clear h
 have H' := A0_ H
 clear H
 go_enter Tryd.func18, Tryd.ntmps18
 go_wp2
 go_loopg [3, 4] k (fun kq v3 v4 w' => ∃ (x3_1 : List (S40)) (x4_1 : Int), v4 = .int .i64 x4_1 ∧ Aside0 (bindleref08_OwnTree.l0 kq l0 x3_1 x4_1 = some r) ∧ Aside0 (kq ≤ k) ∧ Aside0 (Kd.S k40 40 w' w.heap.size (fun _ => True) v3 x3_1) ∧ Aside0 (Below w.heap.size w w'))
 case atStart => exact ⟨(([] : List (S40))), (0), wr_, H', ⟨Nat.le_refl _⟩, ⟨by first | exact Kd.S_nil _ _ _ _ _ | exact Kd.N_nil _ _ _ _ _ | exact Kd.V_nil _ _ _ _ _ | exact Kd.Q_nil _ _ _ _ _ | exact Kd.R_nil _ _ _ _ _⟩, ⟨wb_ HB.out⟩⟩
 case round =>
  clear H'
  try clear c1
  obtain ⟨x3_1, x4_1, rfl, HA, HK1, HO_3, HB⟩ := hrel
  cases gk with
  | zero => exact absurd HA.out (by simp [bindleref08_OwnTree.l0])
  | succ k1 =>
   have H := HA.out
   clear HA
   simp only [bindleref08_OwnTree.l0] at H
   by_cases c2 : x4_1 < (l0.length : Int)
   rotate_left
   ·rw [if_neg c2] at H
    have c2b0 : decide (x4_1 < (l0.length : Int)) = false := decide_eq_false c2
    clear c2
    obtain rfl := Option.some.inj H
    go_wp2
    go_ret
    exact ⟨_, we_, wS_ HO_3.out, wb_ HB.out⟩
   rw [if_pos c2] at H
   have c2b0 : decide (x4_1 < (l0.length : Int)) = true := decide_eq_true c2
   clear c2
   by_cases c3 : 0 ≤ x4_1
   rotate_left
   ·rw [if_neg c3] at H
    exact absurd H (by simp)
   rw [if_pos c3] at H
   have c3b0 : decide (0 ≤ x4_1) = true := decide_eq_true c3
   clear c3
   obtain ⟨y155, hy155⟩ : ∃ y_ : List Int, y_ = (([] : List Int)) := ⟨_, rfl⟩
   replace H : (if y155.length + ((rd_T40 l0 x4_1).f5).length < 140737488355328 then (if x3_1.length < 1256584717458 then (bindleref08_OwnTree.l0 k1 l0 (x3_1 ++ [(⟨(rd_T40 l0 x4_1).f0, (rd_T40 l0 x4_1).f1, (rd_T40 l0 x4_1).f2, (rd_T40 l0 x4_1).f3, (⟨(rd_T40 l0 x4_1).f4.f0, (rd_T40 l0 x4_1).f4.f1, (rd_T40 l0 x4_1).f4.f2, (rd_T40 l0 x4_1).f4.f3⟩ : S38), (y155 ++ ((rd_T40 l0 x4_1).f5))⟩ : S40)]) (wrap64 (x4_1 + 1))) else (none)) else (none)) = some r := by first | (rw [hy155]; with_reducible exact H) | (have H2_ := (Option.bind_some _ _).symm.trans H; rw [hy155]; with_reducible exact H2_) | (have H2_ := (Option.bind_some _ _).symm.trans H; with_reducible exact H2_) | with_reducible exact H | (rw [hy155]; exact H) | exact H
   have Ny155 := A0_ hy155
   clear hy155
   by_cases c4 : y155.length + ((rd_T40 l0 x4_1).f5).length < 140737488355328
   rotate_left
   ·rw [if_neg c4] at H
    exact absurd H (by simp)
   rw [if_pos c4] at H
   have LMc4 := A0_ c4
   clear c4
   obtain ⟨y158, hy158⟩ : ∃ y_ : List Int, y_ = (y155 ++ ((rd_T40 l0 x4_1).f5)) := ⟨_, rfl⟩
   replace H : (if x3_1.length < 1256584717458 then (bindleref08_OwnTree.l0 k1 l0 (x3_1 ++ [(⟨(rd_T40 l0 x4_1).f0, (rd_T40 l0 x4_1).f1, (rd_T40 l0 x4_1).f2, (rd_T40 l0 x4_1).f3, (⟨(rd_T40 l0 x4_1).f4.f0, (rd_T40 l0 x4_1).f4.f1, (rd_T40 l0 x4_1).f4.f2, (rd_T40 l0 x4_1).f4.f3⟩ : S38), y158⟩ : S40)]) (wrap64 (x4_1 + 1))) else (none)) = some r := by first | (rw [hy158]; with_reducible exact H) | (have H2_ := (Option.bind_some _ _).symm.trans H; rw [hy158]; with_reducible exact H2_) | (have H2_ := (Option.bind_some _ _).symm.trans H; with_reducible exact H2_) | with_reducible exact H | (rw [hy158]; exact H) | exact H
   have Ny158 := A0_ hy158
   clear hy158
   by_cases c5 : x3_1.length < 1256584717458
   rotate_left
   ·rw [if_neg c5] at H
    exact absurd H (by simp)
   rw [if_pos c5] at H
   have LMc5 := A0_ c5
   clear c5
   obtain ⟨y161, hy161⟩ : ∃ y_ : List (S40), y_ = (x3_1 ++ [(⟨(rd_T40 l0 x4_1).f0, (rd_T40 l0 x4_1).f1, (rd_T40 l0 x4_1).f2, (rd_T40 l0 x4_1).f3, (⟨(rd_T40 l0 x4_1).f4.f0, (rd_T40 l0 x4_1).f4.f1, (rd_T40 l0 x4_1).f4.f2, (rd_T40 l0 x4_1).f4.f3⟩ : S38), y158⟩ : S40)]) := ⟨_, rfl⟩
   replace H : (bindleref08_OwnTree.l0 k1 l0 y161 (wrap64 (x4_1 + 1))) = some r := by first | (rw [hy161]; with_reducible exact H) | (have H2_ := (Option.bind_some _ _).symm.trans H; rw [hy161]; with_reducible exact H2_) | (have H2_ := (Option.bind_some _ _).symm.trans H; with_reducible exact H2_) | with_reducible exact H | (rw [hy161]; exact H) | exact H
   have Ny161 := A0_ hy161
   clear hy161
   have H' := A0_ H
   clear H
   have p153 : 0 ≤ (x4_1 : Int) := wd_
   have q153 : x4_1 < (l0.length : Int) := wd_
   obtain ⟨ad153, A153_8, c153_8, e153, hx153_0, hx153_1, hx153_2, hx153_3, hx153_4, hx153_5, hx153_6, hx153_7, hx153_8, hl153_8, hi153_8⟩ := at_T40 HR0.out x4_1 p153 q153
   cases e153
   replace hx153_0 := (HB.out.cell (World.block_lt_of_cell? w _ hx153_0)).trans hx153_0
   replace hx153_1 := (HB.out.cell (World.block_lt_of_cell? w _ hx153_1)).trans hx153_1
   replace hx153_2 := (HB.out.cell (World.block_lt_of_cell? w _ hx153_2)).trans hx153_2
   replace hx153_3 := (HB.out.cell (World.block_lt_of_cell? w _ hx153_3)).trans hx153_3
   replace hx153_4 := (HB.out.cell (World.block_lt_of_cell? w _ hx153_4)).trans hx153_4
   replace hx153_5 := (HB.out.cell (World.block_lt_of_cell? w _ hx153_5)).trans hx153_5
   replace hx153_6 := (HB.out.cell (World.block_lt_of_cell? w _ hx153_6)).trans hx153_6
   replace hx153_7 := (HB.out.cell (World.block_lt_of_cell? w _ hx153_7)).trans hx153_7
   replace hx153_8 := (HB.out.cell (World.block_lt_of_cell? w _ hx153_8)).trans hx153_8
   have HR153_8 := A0_ hi153_8
   have HC153_8 := A0_ hl153_8
   clear hi153_8 hl153_8
   replace p153 := eq_true p153
   replace q153 := eq_true q153
   go_wp2_with (first | ((with_reducible refine gate_dst (N := 5) rfl ?_); refine box_event ?hg (N := 5) ?hd (cs := #[.string (⟨#[]⟩ : ByteArray), .string (⟨#[]⟩ : ByteArray), .string (⟨#[]⟩ : ByteArray), .int .u8 0, .int .i64 0, .int .i64 0, .int .i64 0, .int .i64 0, .slice none 0 0]) (t := 40) ?hr ?_; (case hd => rfl); (case hg => rfl); (case hr => first | (go_simp; done) | (go_simp; rfl)); intro gb154 hg w6 hbox hb; have n0_ := A0_ (Sb_ (Kd.S_elderB (wS_ HO_3.out) gb154 (Nat.le_of_eq hg.symm)) hb); have n1_ := A0_ (below_step (wb_ HB.out) hb); have n2_ := A0_ (hbox); have n3_ := A0_ ((by rw [hg]; exact (below_size (wb_ HB.out)) : w.heap.size ≤ gb154)); have n4_ := A0_ ((by rw [hg]; exact (below_size (wb_ HB.out)) : w.heap.size ≤ gb154)); clear HO_3; clear HB; have HO_3 := n0_; have HB := n1_; have BK154 := n2_; have GW154 := n3_; have GE154 := n4_; clear n0_ n1_ n2_ n3_ n4_; clear hb hbox hg; have hcz7_0 : w6.cell? ⟨gb154, 0, none⟩ = some (.string (⟨#[]⟩ : ByteArray)) := (bc_ BK154.out 0).trans rfl; have hcz7_1 : w6.cell? ⟨gb154, 1, none⟩ = some (.string (⟨#[]⟩ : ByteArray)) := (bc_ BK154.out 1).trans rfl; have hcz7_2 : w6.cell? ⟨gb154, 2, none⟩ = some (.string (⟨#[]⟩ : ByteArray)) := (bc_ BK154.out 2).trans rfl; have hcz7_3 : w6.cell? ⟨gb154, 3, none⟩ = some (.int .u8 0) := (bc_ BK154.out 3).trans rfl; have hcz7_4 : w6.cell? ⟨gb154, 4, none⟩ = some (.int .i64 0) := (bc_ BK154.out 4).trans rfl; have hcz7_5 : w6.cell? ⟨gb154, 5, none⟩ = some (.int .i64 0) := (bc_ BK154.out 5).trans rfl; have hcz7_6 : w6.cell? ⟨gb154, 6, none⟩ = some (.int .i64 0) := (bc_ BK154.out 6).trans rfl; have hcz7_7 : w6.cell? ⟨gb154, 7, none⟩ = some (.int .i64 0) := (bc_ BK154.out 7).trans rfl; have hcz7_8 : w6.cell? ⟨gb154, 8, none⟩ = some (.slice none 0 0) := (bc_ BK154.out 8).trans rfl; have hfz7_0 := bf_ BK154.out 0; have hfz7_1 := bf_ BK154.out 1; have hfz7_2 := bf_ BK154.out 2; have hfz7_3 := bf_ BK154.out 3; have hfz7_4 := bf_ BK154.out 4; have hfz7_5 := bf_ BK154.out 5; have hfz7_6 := bf_ BK154.out 6; have hfz7_7 := bf_ BK154.out 7; have hfz7_8 := bf_ BK154.out 8) | ((with_reducible refine gate_dst (N := 16) rfl ?_); refine Kd.R_lit (Kd.int .u8) _ 5 ?hg (N := 16) ?hd (xs := ([] : List Int)) (inner := []) (ok := fun _ => True) (okp := fun _ => True) ?hr ?hp (fun _ hk => hk) trivial (Below.refl _ _) (Nat.le_refl _) (by simp) ?_; (case hd => rfl); (case hg => rfl); (case hr => first | (go_simp; done) | (go_simp; rfl)); (case hp => exact (Reps.none _ _)); intro v156 w8 ho9 hb hg_ hnew_; clear hg_ hnew_; (first | rw [← Ny155.out] at ho9 | (simp only [Int.reduceToNat] at ho9; rw [← Ny155.out] at ho9)); have n0_ := A0_ (Kd.S_elder' (by (with_reducible repeat (first | apply Sa_ | apply SN_ | apply S1_)); exact (Kd.S_mono (Kd.S_far (p := ⟨gb154, 8, none⟩) (Kd.S_far (p := ⟨gb154, 7, none⟩) (Kd.S_far (p := ⟨gb154, 6, none⟩) (Kd.S_far (p := ⟨gb154, 5, none⟩) (Kd.S_far (p := ⟨gb154, 4, none⟩) (Kd.S_far (p := ⟨gb154, 3, none⟩) (Kd.S_far (p := ⟨gb154, 2, none⟩) (Kd.S_far (p := ⟨gb154, 1, none⟩) (Kd.S_far (p := ⟨gb154, 0, none⟩) (Kd.S_mono HO_3.out (fun k_ hk => (⟨hk, hk.2⟩ : _ ∧ k_ ≠ gb154))) (fun _ hk => hk.2) (.string ((rd_T40 l0 x4_1).f0))) (fun _ hk => hk.2) (.string ((rd_T40 l0 x4_1).f1))) (fun _ hk => hk.2) (.string ((rd_T40 l0 x4_1).f2))) (fun _ hk => hk.2) (.int .u8 ((rd_T40 l0 x4_1).f3))) (fun _ hk => hk.2) (.int .i64 ((rd_T40 l0 x4_1).f4.f0))) (fun _ hk => hk.2) (.int .i64 ((rd_T40 l0 x4_1).f4.f1))) (fun _ hk => hk.2) (.int .i64 ((rd_T40 l0 x4_1).f4.f2))) (fun _ hk => hk.2) (.int .i64 ((rd_T40 l0 x4_1).f4.f3))) (fun _ hk => hk.2) (.slice A153_8 ((rd_T40 l0 x4_1).f5).length c153_8)) (fun _ h_ => h_.1))) (Kd.R_base ho9) hb); have n1_ := A0_ (Kd.R_lower ho9 (below_size (wb1_ HB.out GE154.out))); have n2_ := A0_ (blk_below (g := gb154) (o := .cells #[.string ((rd_T40 l0 x4_1).f0), .string ((rd_T40 l0 x4_1).f1), .string ((rd_T40 l0 x4_1).f2), .int .u8 ((rd_T40 l0 x4_1).f3), .int .i64 ((rd_T40 l0 x4_1).f4.f0), .int .i64 ((rd_T40 l0 x4_1).f4.f1), .int .i64 ((rd_T40 l0 x4_1).f4.f2), .int .i64 ((rd_T40 l0 x4_1).f4.f3), .slice A153_8 ((rd_T40 l0 x4_1).f5).length c153_8] 40 (0, 0)) (by (with_reducible repeat (first | refine blk_drewN ?_ _ | refine blk_drew ?_ | refine blk_alloc ?_ _)); refine blk_put (cs := #[.string ((rd_T40 l0 x4_1).f0), .string ((rd_T40 l0 x4_1).f1), .string ((rd_T40 l0 x4_1).f2), .int .u8 ((rd_T40 l0 x4_1).f3), .int .i64 ((rd_T40 l0 x4_1).f4.f0), .int .i64 ((rd_T40 l0 x4_1).f4.f1), .int .i64 ((rd_T40 l0 x4_1).f4.f2), .int .i64 ((rd_T40 l0 x4_1).f4.f3), .slice none 0 0]) ?_ 8 _ rfl; (with_reducible repeat (first | refine blk_drewN ?_ _ | refine blk_drew ?_ | refine blk_alloc ?_ _)); refine blk_put (cs := #[.string ((rd_T40 l0 x4_1).f0), .string ((rd_T40 l0 x4_1).f1), .string ((rd_T40 l0 x4_1).f2), .int .u8 ((rd_T40 l0 x4_1).f3), .int .i64 ((rd_T40 l0 x4_1).f4.f0), .int .i64 ((rd_T40 l0 x4_1).f4.f1), .int .i64 ((rd_T40 l0 x4_1).f4.f2), .int .i64 0, .slice none 0 0]) ?_ 7 _ rfl; (with_reducible repeat (first | refine blk_drewN ?_ _ | refine blk_drew ?_ | refine blk_alloc ?_ _)); refine blk_put (cs := #[.string ((rd_T40 l0 x4_1).f0), .string ((rd_T40 l0 x4_1).f1), .string ((rd_T40 l0 x4_1).f2), .int .u8 ((rd_T40 l0 x4_1).f3), .int .i64 ((rd_T40 l0 x4_1).f4.f0), .int .i64 ((rd_T40 l0 x4_1).f4.f1), .int .i64 0, .int .i64 0, .slice none 0 0]) ?_ 6 _ rfl; (with_reducible repeat (first | refine blk_drewN ?_ _ | refine blk_drew ?_ | refine blk_alloc ?_ _)); refine blk_put (cs := #[.string ((rd_T40 l0 x4_1).f0), .string ((rd_T40 l0 x4_1).f1), .string ((rd_T40 l0 x4_1).f2), .int .u8 ((rd_T40 l0 x4_1).f3), .int .i64 ((rd_T40 l0 x4_1).f4.f0), .int .i64 0, .int .i64 0, .int .i64 0, .slice none 0 0]) ?_ 5 _ rfl; (with_reducible repeat (first | refine blk_drewN ?_ _ | refine blk_drew ?_ | refine blk_alloc ?_ _)); refine blk_put (cs := #[.string ((rd_T40 l0 x4_1).f0), .string ((rd_T40 l0 x4_1).f1), .string ((rd_T40 l0 x4_1).f2), .int .u8 ((rd_T40 l0 x4_1).f3), .int .i64 0, .int .i64 0, .int .i64 0, .int .i64 0, .slice none 0 0]) ?_ 4 _ rfl; (with_reducible repeat (first | refine blk_drewN ?_ _ | refine blk_drew ?_ | refine blk_alloc ?_ _)); refine blk_put (cs := #[.string ((rd_T40 l0 x4_1).f0), .string ((rd_T40 l0 x4_1).f1), .string ((rd_T40 l0 x4_1).f2), .int .u8 0, .int .i64 0, .int .i64 0, .int .i64 0, .int .i64 0, .slice none 0 0]) ?_ 3 _ rfl; (with_reducible repeat (first | refine blk_drewN ?_ _ | refine blk_drew ?_ | refine blk_alloc ?_ _)); refine blk_put (cs := #[.string ((rd_T40 l0 x4_1).f0), .string ((rd_T40 l0 x4_1).f1), .string (⟨#[]⟩ : ByteArray), .int .u8 0, .int .i64 0, .int .i64 0, .int .i64 0, .int .i64 0, .slice none 0 0]) ?_ 2 _ rfl; (with_reducible repeat (first | refine blk_drewN ?_ _ | refine blk_drew ?_ | refine blk_alloc ?_ _)); refine blk_put (cs := #[.string ((rd_T40 l0 x4_1).f0), .string (⟨#[]⟩ : ByteArray), .string (⟨#[]⟩ : ByteArray), .int .u8 0, .int .i64 0, .int .i64 0, .int .i64 0, .int .i64 0, .slice none 0 0]) ?_ 1 _ rfl; (with_reducible repeat (first | refine blk_drewN ?_ _ | refine blk_drew ?_ | refine blk_alloc ?_ _)); refine blk_put (cs := #[.string (⟨#[]⟩ : ByteArray), .string (⟨#[]⟩ : ByteArray), .string (⟨#[]⟩ : ByteArray), .int .u8 0, .int .i64 0, .int .i64 0, .int .i64 0, .int .i64 0, .slice none 0 0]) ?_ 0 _ rfl; (with_reducible repeat (first | refine blk_drewN ?_ _ | refine blk_drew ?_ | refine blk_alloc ?_ _)); exact BK154.out) hb); have n3_ := A0_ (below_step (wb1_ HB.out GE154.out) hb); clear HO_3; clear BK154; clear HB; have HO_3 := n0_; have HO157 := n1_; have BK154 := n2_; have HB := n3_; clear n0_ n1_ n2_ n3_; clear hb ho9; have hcz10_0 : w8.cell? ⟨gb154, 0, none⟩ = some (.string ((rd_T40 l0 x4_1).f0)) := (bc_ BK154.out 0).trans rfl; have hcz10_1 : w8.cell? ⟨gb154, 1, none⟩ = some (.string ((rd_T40 l0 x4_1).f1)) := (bc_ BK154.out 1).trans rfl; have hcz10_2 : w8.cell? ⟨gb154, 2, none⟩ = some (.string ((rd_T40 l0 x4_1).f2)) := (bc_ BK154.out 2).trans rfl; have hcz10_3 : w8.cell? ⟨gb154, 3, none⟩ = some (.int .u8 ((rd_T40 l0 x4_1).f3)) := (bc_ BK154.out 3).trans rfl; have hcz10_4 : w8.cell? ⟨gb154, 4, none⟩ = some (.int .i64 ((rd_T40 l0 x4_1).f4.f0)) := (bc_ BK154.out 4).trans rfl; have hcz10_5 : w8.cell? ⟨gb154, 5, none⟩ = some (.int .i64 ((rd_T40 l0 x4_1).f4.f1)) := (bc_ BK154.out 5).trans rfl; have hcz10_6 : w8.cell? ⟨gb154, 6, none⟩ = some (.int .i64 ((rd_T40 l0 x4_1).f4.f2)) := (bc_ BK154.out 6).trans rfl; have hcz10_7 : w8.cell? ⟨gb154, 7, none⟩ = some (.int .i64 ((rd_T40 l0 x4_1).f4.f3)) := (bc_ BK154.out 7).trans rfl; have hcz10_8 : w8.cell? ⟨gb154, 8, none⟩ = some (.slice A153_8 ((rd_T40 l0 x4_1).f5).length c153_8) := (bc_ BK154.out 8).trans rfl; have hfz10_0 := bf_ BK154.out 0; have hfz10_1 := bf_ BK154.out 1; have hfz10_2 := bf_ BK154.out 2; have hfz10_3 := bf_ BK154.out 3; have hfz10_4 := bf_ BK154.out 4; have hfz10_5 := bf_ BK154.out 5; have hfz10_6 := bf_ BK154.out 6; have hfz10_7 := bf_ BK154.out 7; have hfz10_8 := bf_ BK154.out 8) | ((with_reducible refine gate_builtin (b := .append) (xs := #[.tmp 16, .tmp 18]) rfl ?_); at_builtin; refine Kd.R_append_rows (Kd.int .u8) (w0 := w) w.heap.size rfl (.tmp 16) (.tmp 18) 23 5 (.int .u8 0) 1 rfl Tryd.underlying23 info5 rfl (by decide) (by omega) v156 y155 ((rd_T40 l0 x4_1).f5) _ _ _ (fun _ => True) (fun _ => False) rfl rfl ?aO ?aR (fun _ _ h => h) (fun _ h => h.elim) ?aF ?aB ?aS ?aL ?_; (case aR => exact wc_ (Kd.C_below HR153_8.out HB.out)); (case aB => exact (wb1_ HB.out GE154.out)); (case aF => exact (fun _ _ => trivial)); (case aO => exact (wR_ HO157.out)); (case aS => exact (below_size (wb1_ HB.out GE154.out))); (case aL => have := LMc4.out; omega); intro v159 w11 ho hb hg hat; rw [← Ny158.out] at ho; have n0_ := A0_ (Kd.S_after (ok := (fun k_ => k_ ≠ gb154)) (by (with_reducible repeat (first | apply Sa_ | apply SN_ | apply S1_)); exact Kd.S_mono HO_3.out (fun _ hk => ⟨hk.1.2, hk.2⟩)) hg hat); have n1_ := A0_ (blk_grown (g := gb154) (o := .cells #[.string ((rd_T40 l0 x4_1).f0), .string ((rd_T40 l0 x4_1).f1), .string ((rd_T40 l0 x4_1).f2), .int .u8 ((rd_T40 l0 x4_1).f3), .int .i64 ((rd_T40 l0 x4_1).f4.f0), .int .i64 ((rd_T40 l0 x4_1).f4.f1), .int .i64 ((rd_T40 l0 x4_1).f4.f2), .int .i64 ((rd_T40 l0 x4_1).f4.f3), .slice A153_8 ((rd_T40 l0 x4_1).f5).length c153_8] 40 (0, 0)) (wB_ BK154.out) hg (Kd.R_ne HO157.out BK154.out (by decide))); have n2_ := A0_ (hb); have n3_ := A0_ (ho); clear HO_3; clear BK154; clear HB; clear HO157; have HO_3 := n0_; have BK154 := n1_; have HB := n2_; have HO160 := n3_; clear n0_ n1_ n2_ n3_; clear ho hb hg hat; obtain ⟨Ao12, co12, eo12⟩ := Kd.R_slice HO160.out; subst eo12; have hcz13_0 : w11.cell? ⟨gb154, 0, none⟩ = some (.string ((rd_T40 l0 x4_1).f0)) := (bc_ BK154.out 0).trans rfl; have hcz13_1 : w11.cell? ⟨gb154, 1, none⟩ = some (.string ((rd_T40 l0 x4_1).f1)) := (bc_ BK154.out 1).trans rfl; have hcz13_2 : w11.cell? ⟨gb154, 2, none⟩ = some (.string ((rd_T40 l0 x4_1).f2)) := (bc_ BK154.out 2).trans rfl; have hcz13_3 : w11.cell? ⟨gb154, 3, none⟩ = some (.int .u8 ((rd_T40 l0 x4_1).f3)) := (bc_ BK154.out 3).trans rfl; have hcz13_4 : w11.cell? ⟨gb154, 4, none⟩ = some (.int .i64 ((rd_T40 l0 x4_1).f4.f0)) := (bc_ BK154.out 4).trans rfl; have hcz13_5 : w11.cell? ⟨gb154, 5, none⟩ = some (.int .i64 ((rd_T40 l0 x4_1).f4.f1)) := (bc_ BK154.out 5).trans rfl; have hcz13_6 : w11.cell? ⟨gb154, 6, none⟩ = some (.int .i64 ((rd_T40 l0 x4_1).f4.f2)) := (bc_ BK154.out 6).trans rfl; have hcz13_7 : w11.cell? ⟨gb154, 7, none⟩ = some (.int .i64 ((rd_T40 l0 x4_1).f4.f3)) := (bc_ BK154.out 7).trans rfl; have hcz13_8 : w11.cell? ⟨gb154, 8, none⟩ = some (.slice A153_8 ((rd_T40 l0 x4_1).f5).length c153_8) := (bc_ BK154.out 8).trans rfl; have hfz13_0 := bf_ BK154.out 0; have hfz13_1 := bf_ BK154.out 1; have hfz13_2 := bf_ BK154.out 2; have hfz13_3 := bf_ BK154.out 3; have hfz13_4 := bf_ BK154.out 4; have hfz13_5 := bf_ BK154.out 5; have hfz13_6 := bf_ BK154.out 6; have hfz13_7 := bf_ BK154.out 7; have hfz13_8 := bf_ BK154.out 8) | ((with_reducible refine gate_store (t := 23) (p := 20) rfl ?_); refine store_event (t := 23) (p := 20) (v := ?vo_w14) (w1 := (w11.setCell ⟨gb154, 8, none⟩ (.slice Ao12 y158.length co12))) ?hg ?ho ?hn ?hr ?_; (case ho => rfl); (case hg => rfl); (case hn => rfl); (case hr => first | (go_simp; done) | (go_simp; rfl)); intro w14 hw; have n0_ : Aside0 (Kd.S k40 40 w14 w.heap.size (fun k_ => some k_ ≠ (.slice Ao12 y158.length co12 : Value).ownBlock ∧ k_ ≠ gb154) u3 x3_1) := ⟨(by rw [hw]; exact (by (with_reducible repeat (first | apply Sa_ | apply SN_ | apply S1_)); exact Kd.S_mono (Kd.S_far (p := ⟨gb154, 8, none⟩) (Kd.S_mono HO_3.out (fun k_ hk => (⟨hk, hk.1⟩ : _ ∧ k_ ≠ gb154))) (fun _ hk => hk.2) (.slice Ao12 y158.length co12)) (fun _ hk => ⟨hk.1.2, hk.1.1⟩)))⟩; have n1_ : Aside0 (Kd.R (Kd.int .u8) 5 w14 w.heap.size (fun _ => True) (.slice Ao12 y158.length co12) y158) := ⟨(by rw [hw]; exact (by (with_reducible repeat (first | apply Ra_ | apply RN_ | apply R1_)); exact Kd.R_mono (Kd.R_far (p := ⟨gb154, 8, none⟩) (Kd.R_types HO160.out BK154.out (by decide)) (fun _ hk => hk.2) (.slice Ao12 y158.length co12)) (fun _ hk => trivial)))⟩; have n2_ : Aside0 (w14.heap[gb154]? = some (.cells #[.string ((rd_T40 l0 x4_1).f0), .string ((rd_T40 l0 x4_1).f1), .string ((rd_T40 l0 x4_1).f2), .int .u8 ((rd_T40 l0 x4_1).f3), .int .i64 ((rd_T40 l0 x4_1).f4.f0), .int .i64 ((rd_T40 l0 x4_1).f4.f1), .int .i64 ((rd_T40 l0 x4_1).f4.f2), .int .i64 ((rd_T40 l0 x4_1).f4.f3), .slice Ao12 y158.length co12] 40 (0, 0))) := ⟨(by rw [hw]; exact (by (with_reducible repeat (first | refine blk_drewN ?_ _ | refine blk_drew ?_ | refine blk_alloc ?_ _)); refine blk_put (cs := #[.string ((rd_T40 l0 x4_1).f0), .string ((rd_T40 l0 x4_1).f1), .string ((rd_T40 l0 x4_1).f2), .int .u8 ((rd_T40 l0 x4_1).f3), .int .i64 ((rd_T40 l0 x4_1).f4.f0), .int .i64 ((rd_T40 l0 x4_1).f4.f1), .int .i64 ((rd_T40 l0 x4_1).f4.f2), .int .i64 ((rd_T40 l0 x4_1).f4.f3), .slice A153_8 ((rd_T40 l0 x4_1).f5).length c153_8]) ?_ 8 _ rfl; (with_reducible repeat (first | refine blk_drewN ?_ _ | refine blk_drew ?_ | refine blk_alloc ?_ _)); exact BK154.out))⟩; have n3_ : Aside0 (Below w.heap.size w w14) := ⟨(by rw [hw]; exact (wb1_ HB.out GE154.out))⟩; clear hw; clear HO_3; clear HO160; clear BK154; clear HB; have HO_3 := n0_; have HO160 := n1_; have BK154 := n2_; have HB := n3_; clear n0_ n1_ n2_ n3_; have hcz15_0 : w14.cell? ⟨gb154, 0, none⟩ = some (.string ((rd_T40 l0 x4_1).f0)) := (bc_ BK154.out 0).trans rfl; have hcz15_1 : w14.cell? ⟨gb154, 1, none⟩ = some (.string ((rd_T40 l0 x4_1).f1)) := (bc_ BK154.out 1).trans rfl; have hcz15_2 : w14.cell? ⟨gb154, 2, none⟩ = some (.string ((rd_T40 l0 x4_1).f2)) := (bc_ BK154.out 2).trans rfl; have hcz15_3 : w14.cell? ⟨gb154, 3, none⟩ = some (.int .u8 ((rd_T40 l0 x4_1).f3)) := (bc_ BK154.out 3).trans rfl; have hcz15_4 : w14.cell? ⟨gb154, 4, none⟩ = some (.int .i64 ((rd_T40 l0 x4_1).f4.f0)) := (bc_ BK154.out 4).trans rfl; have hcz15_5 : w14.cell? ⟨gb154, 5, none⟩ = some (.int .i64 ((rd_T40 l0 x4_1).f4.f1)) := (bc_ BK154.out 5).trans rfl; have hcz15_6 : w14.cell? ⟨gb154, 6, none⟩ = some (.int .i64 ((rd_T40 l0 x4_1).f4.f2)) := (bc_ BK154.out 6).trans rfl; have hcz15_7 : w14.cell? ⟨gb154, 7, none⟩ = some (.int .i64 ((rd_T40 l0 x4_1).f4.f3)) := (bc_ BK154.out 7).trans rfl; have hcz15_8 : w14.cell? ⟨gb154, 8, none⟩ = some (.slice Ao12 y158.length co12) := (bc_ BK154.out 8).trans rfl; have hfz15_0 := bf_ BK154.out 0; have hfz15_1 := bf_ BK154.out 1; have hfz15_2 := bf_ BK154.out 2; have hfz15_3 := bf_ BK154.out 3; have hfz15_4 := bf_ BK154.out 4; have hfz15_5 := bf_ BK154.out 5; have hfz15_6 := bf_ BK154.out 6; have hfz15_7 := bf_ BK154.out 7; have hfz15_8 := bf_ BK154.out 8) | ((with_reducible refine gate_builtin (b := .append) (xs := #[.tmp 21, .tmp 23]) rfl ?_); at_builtin; refine Kd.S_append k40 (w0 := w) w.heap.size rfl (.tmp 21) (.tmp 23) 22 40 (.agg #[(.string ⟨#[]⟩), (.string ⟨#[]⟩), (.string ⟨#[]⟩), (.int .u8 0), (.int .i64 0), (.int .i64 0), (.int .i64 0), (.int .i64 0), (.slice none 0 0)]) 112 rfl Tryd.underlying22 info40 rfl (by decide) (by omega) u3 x3_1 (⟨(rd_T40 l0 x4_1).f0, (rd_T40 l0 x4_1).f1, (rd_T40 l0 x4_1).f2, (rd_T40 l0 x4_1).f3, (⟨(rd_T40 l0 x4_1).f4.f0, (rd_T40 l0 x4_1).f4.f1, (rd_T40 l0 x4_1).f4.f2, (rd_T40 l0 x4_1).f4.f3⟩ : S38), y158⟩ : S40) [.string ((rd_T40 l0 x4_1).f0), .string ((rd_T40 l0 x4_1).f1), .string ((rd_T40 l0 x4_1).f2), .int .u8 ((rd_T40 l0 x4_1).f3), .int .i64 ((rd_T40 l0 x4_1).f4.f0), .int .i64 ((rd_T40 l0 x4_1).f4.f1), .int .i64 ((rd_T40 l0 x4_1).f4.f2), .int .i64 ((rd_T40 l0 x4_1).f4.f3), .slice Ao12 y158.length co12] (fun k_ => k_ ≠ gb154) (fun k_ => some k_ = (.slice Ao12 y158.length co12 : Value).ownBlock) rfl rfl ?aP (fun k_ hk_ => ((Kd.R_mono (ok' := fun k_ => ((fun k_ => k_ ≠ gb154)) k_ ∧ some k_ ≠ (u3 : Value).ownBlock) (Kd.R_types (Kd.R_apart' (HO160.out) (Kd.S_typed HO_3.out) (by decide)) BK154.out (by decide)) (fun k_ hk => ⟨hk.2, hk.1.2⟩))).1 k_ hk_.symm) ?aF ?aO ?aB ?aS ?aL ?_; (case aP => exact k40_mkM _ _ _ (⟨(rd_T40 l0 x4_1).f0, (rd_T40 l0 x4_1).f1, (rd_T40 l0 x4_1).f2, (rd_T40 l0 x4_1).f3, (⟨(rd_T40 l0 x4_1).f4.f0, (rd_T40 l0 x4_1).f4.f1, (rd_T40 l0 x4_1).f4.f2, (rd_T40 l0 x4_1).f4.f3⟩ : S38), y158⟩ : S40) (Kd.R_mono (Kd.R_tight rfl (Kd.R_mono (ok' := fun k_ => ((fun k_ => k_ ≠ gb154)) k_ ∧ some k_ ≠ (u3 : Value).ownBlock) (Kd.R_types (Kd.R_apart' (HO160.out) (Kd.S_typed HO_3.out) (by decide)) BK154.out (by decide)) (fun k_ hk => ⟨hk.2, hk.1.2⟩))) (fun _ h_ => h_))); (case aB => exact (wb1_ HB.out GE154.out)); (case aF => exact (fun k_ hk => Kd.freshB (g := gb154) (o := .cells #[.string ((rd_T40 l0 x4_1).f0), .string ((rd_T40 l0 x4_1).f1), .string ((rd_T40 l0 x4_1).f2), .int .u8 ((rd_T40 l0 x4_1).f3), .int .i64 ((rd_T40 l0 x4_1).f4.f0), .int .i64 ((rd_T40 l0 x4_1).f4.f1), .int .i64 ((rd_T40 l0 x4_1).f4.f2), .int .i64 ((rd_T40 l0 x4_1).f4.f3), .slice Ao12 y158.length co12] 40 (0, 0)) (wB_ BK154.out) k_ hk)); (case aO => exact (by (with_reducible repeat (first | apply Sa_ | apply SN_ | apply S1_)); exact Kd.S_mono HO_3.out (fun k_ hk => ⟨hk.2, fun e_ => hk.1 e_⟩))); (case aS => exact (below_size (wb1_ HB.out GE154.out))); (case aL => have := LMc5.out; omega); intro v162 w16 ho hb hg hat; rw [← Ny161.out] at ho; have n0_ := A0_ (blk_grown (g := gb154) (o := .cells #[.string ((rd_T40 l0 x4_1).f0), .string ((rd_T40 l0 x4_1).f1), .string ((rd_T40 l0 x4_1).f2), .int .u8 ((rd_T40 l0 x4_1).f3), .int .i64 ((rd_T40 l0 x4_1).f4.f0), .int .i64 ((rd_T40 l0 x4_1).f4.f1), .int .i64 ((rd_T40 l0 x4_1).f4.f2), .int .i64 ((rd_T40 l0 x4_1).f4.f3), .slice Ao12 y158.length co12] 40 (0, 0)) (wB_ BK154.out) hg (Kd.S_away HO_3.out (fun _ hk => hk.2))); have n1_ := A0_ (hb); have n2_ := A0_ (ho); clear BK154; clear HB; clear HO_3; clear HO160; have BK154 := n0_; have HB := n1_; have HO163 := n2_; clear n0_ n1_ n2_; clear ho hb hg hat))
   go_roundg k1
   case measure => have := HK1.out; omega
   case rel => exact ⟨(y161), (wrap64 (x4_1 + 1)), wr_, H', ⟨by have := HK1.out; omega⟩, ⟨by (with_reducible repeat (first | apply Sa_ | apply SN_ | apply S1_)); exact Kd.S_mono HO163.out (fun _ hk => trivial)⟩, ⟨wb1_ HB.out GE154.out⟩⟩
end Go.Proofs.YtfljbidecljlcaaDoor.Print

namespace Go.Proofs.YtfljbidecljlcaaDoor
open Go.RowKit Go.Proofs.YtfljbidecljlcaaDoor.Print Go.Proofs.YtfljbidecljlcaaDoorW.PrintWords
set_option linter.unusedVariables false
theorem rdN_nat (l : List Node) (j : Nat) (h : j < l.length) : rd_T40 l (j : Int) = l[j] := by rw [rdN_at l j (by omega) (by omega)]; simp
theorem w_succ {n : Nat} (h : n ≤ 4611686018427387904) : wrap64 ((n : Int) + 1) = ((n + 1 : Nat) : Int) := by unfold wrap64; omega
section
variable {l : List Node} {order : List ByteArray} {R : List Mem}
end
theorem ownTree_l (l : List Node) (hlen : l.length ≤ 1000000000000) (hz : ∀ x ∈ l, x.f5.length ≤ 140737488351232) : ∀ (d i : Nat), i + d = l.length → Ev (fun k => bindleref08_OwnTree.l0 k l (l.take i) (i : Int)) l := by
 intro d
 induction d with
 | zero =>
  intro i hi
  rw [List.take_of_length_le (by omega)]
  exact Ev.step (f := fun _ => some l) (fun k => by rw [bindleref08_OwnTree.l0, if_neg (by omega)]) (Ev.now _)
 | succ d ih =>
  intro i hi
  have hil : i < l.length := by omega
  have hx := hz l[i] (List.getElem_mem hil)
  refine Ev.step (fun k => ?_) (ih (i + 1) (by omega))
  rw [bindleref08_OwnTree.l0, if_pos (by omega), if_pos (by omega), rdN_nat l i hil]
  simp only [Option.bind_some]
  rw [if_pos (by simp; omega), if_pos (by rw [List.length_take]; omega), w_succ (by omega), List.nil_append]
  rw [List.take_add_one, List.getElem?_eq_getElem hil]
  rfl
theorem ownTree_eq (l : List Node) (hlen : l.length ≤ 1000000000000) (hz : ∀ x ∈ l, x.f5.length ≤ 140737488351232) : Ev (fun k => bindleref08_OwnTree.f k l) l := ownTree_l l hlen hz l.length 0 (by omega)
end Go.Proofs.YtfljbidecljlcaaDoor
