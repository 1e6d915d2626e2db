/-
  Part of the proof that UnionPiles answers true: texts put together (wip/bundle.py).
-/
import Derived.Test.YtfmphccoeinhcaaDoorCUnionPiles2
import Derived.Deep.RegionHeld3
import Derived.Deep.QuietTactic
import Derived.BigQuiet
import Derived.IntWalk
import Derived.Laws.MakeOwn
import Derived.StillTailTactics
namespace Go.Proofs.YtfmphccoeinhcaaDoor.Print
open Go.RowKit Go.Proofs.YtfmphccoeinhcaaDoorW.PrintWords Go.Proofs.YtfmphccoeinhcaaDoorW.PrintLast Go.Proofs.YtfmphccoeinhcaaDoorW.PrintMore
attribute [local go_sem] max2_int min2_int max_two min_two max_three min_three max_four min_four   -- for this text's walks alone
set_option linter.unusedVariables false
set_option linter.unusedSimpArgs false
attribute [local go_sem high] eqA24
def tree_Equal.f (a0_0 : ByteArray) (a0_1 : ByteArray) (a0_2 : ByteArray) (a0_3 : Int) (a0_4 : Int) (a0_5 : Int) (a0_6 : Int) (a0_7 : Int) (l0_8 : List Int) (a1_0 : ByteArray) (a1_1 : ByteArray) (a1_2 : ByteArray) (a1_3 : Int) (a1_4 : Int) (a1_5 : Int) (a1_6 : Int) (a1_7 : Int) (l1_8 : List Int) : Option (Bool) := if a0_0.toList = a1_0.toList then (if a0_3 = a1_3 then (if (a0_4 == a1_4 && (a0_5 == a1_5 && (a0_6 == a1_6 && (a0_7 == a1_7)))) = true then (if a0_1.toList = a1_1.toList then ((bytes_Equal.f l0_8 l1_8).bind fun t921 => (some t921)) else (some false)) else (some false)) else (some false)) else (some false)
set_option maxHeartbeats 8000000 in
set_option maxRecDepth 100000 in
theorem tree_Equal.calls (a0_0 : ByteArray) (a0_1 : ByteArray) (a0_2 : ByteArray) (a0_3 : Int) (a0_4 : Int) (a0_5 : Int) (a0_6 : Int) (a0_7 : Int) (A0_8 : Option Addr) (c0_8 : Nat) (l0_8 : List Int) (a1_0 : ByteArray) (a1_1 : ByteArray) (a1_2 : ByteArray) (a1_3 : Int) (a1_4 : Int) (a1_5 : Int) (a1_6 : Int) (a1_7 : Int) (A1_8 : Option Addr) (c1_8 : Nat) (l1_8 : List Int) (r : Bool) (w : World) (hr0_8 : Kd.C (Kd.int .u8) w A0_8 l0_8.length l0_8) (hc0_8 : l0_8.length ≤ c0_8) (hr1_8 : Kd.C (Kd.int .u8) w A1_8 l1_8.length l1_8) (hc1_8 : l1_8.length ≤ c1_8) (h : tree_Equal.f a0_0 a0_1 a0_2 a0_3 a0_4 a0_5 a0_6 a0_7 l0_8 a1_0 a1_1 a1_2 a1_3 a1_4 a1_5 a1_6 a1_7 l1_8 = some r) :
  Calls Tryd.prog 55 #[.agg #[.string a0_0, .string a0_1, .string a0_2, .int .u8 a0_3, .int .i64 a0_4, .int .i64 a0_5, .int .i64 a0_6, .int .i64 a0_7, .slice A0_8 l0_8.length c0_8], .agg #[.string a1_0, .string a1_1, .string a1_2, .int .u8 a1_3, .int .i64 a1_4, .int .i64 a1_5, .int .i64 a1_6, .int .i64 a1_7, .slice A1_8 l1_8.length c1_8]] w fun e w' => e = .returned (.bool r) ∧ Below w.heap.size w w' := by
 have hu38 := Tryd.underlying38
 have hu24 := Tryd.underlying24
 have HR0_8 := A0_ hr0_8
 have HC0_8 := A0_ hc0_8
 clear hr0_8 hc0_8
 have HR1_8 := A0_ hr1_8
 have HC1_8 := A0_ hc1_8
 clear hr1_8 hc1_8
 have HB := A0_ (Below.refl w.heap.size w)
 have H : (if a0_0.toList = a1_0.toList then (if a0_3 = a1_3 then (if (a0_4 == a1_4 && (a0_5 == a1_5 && (a0_6 == a1_6 && (a0_7 == a1_7)))) = true then (if a0_1.toList = a1_1.toList then ((bytes_Equal.f l0_8 l1_8).bind fun t921 => (some t921)) else (some false)) else (some false)) else (some false)) else (some false)) = some r := h
 clear h
 by_cases c3 : a0_0.toList = a1_0.toList
 rotate_left
 ·rw [if_neg c3] at H
  have c3b0 : (a0_0.toList == a1_0.toList) = false := beq_eq_false_iff_ne.mpr c3
  have c3b1 : (a0_0.toList != a1_0.toList) = true := bne_iff_ne.mpr c3
  obtain rfl := Option.some.inj H
  go_enter Tryd.func55, Tryd.ntmps55
  go_wp2_with (first | ((with_reducible refine gate_dst (N := 2) rfl ?_); refine box_event ?hg (N := 2) ?hd (cs := #[.string a0_0, .string a0_1, .string a0_2, .int .u8 a0_3, .int .i64 a0_4, .int .i64 a0_5, .int .i64 a0_6, .int .i64 a0_7, .slice A0_8 l0_8.length c0_8]) (t := 38) ?hr ?_; (case hd => rfl); (case hg => rfl); (case hr => first | (go_simp; done) | (go_simp; rfl)); intro gb919 hg w28 hbox hb; have n0_ := A0_ (below_step (wb_ HB.out) hb); have n1_ := A0_ (hbox); have n2_ := A0_ ((by rw [hg]; exact (below_size (wb_ HB.out)) : w.heap.size ≤ gb919)); have n3_ := A0_ ((by rw [hg]; exact (below_size (wb_ HB.out)) : w.heap.size ≤ gb919)); clear HB; have HB := n0_; have BK919 := n1_; have GW919 := n2_; have GE919 := n3_; clear n0_ n1_ n2_ n3_; clear hb hbox hg) | ((with_reducible refine gate_dst (N := 3) rfl ?_); refine box_event ?hg (N := 3) ?hd (cs := #[.string a1_0, .string a1_1, .string a1_2, .int .u8 a1_3, .int .i64 a1_4, .int .i64 a1_5, .int .i64 a1_6, .int .i64 a1_7, .slice A1_8 l1_8.length c1_8]) (t := 38) ?hr ?_; (case hd => rfl); (case hg => rfl); (case hr => first | (go_simp; done) | (go_simp; rfl)); intro gb920 hg w29 hbox hb; have n0_ := A0_ (blk_below (g := gb919) (o := .cells #[.string a0_0, .string a0_1, .string a0_2, .int .u8 a0_3, .int .i64 a0_4, .int .i64 a0_5, .int .i64 a0_6, .int .i64 a0_7, .slice A0_8 l0_8.length c0_8] 38 (0, 0)) (wB_ BK919.out) hb); have n1_ := A0_ (below_step (wb1_ HB.out GE919.out) hb); have n2_ := A0_ (hbox); have n3_ := A0_ ((by rw [hg]; exact (below_size (wb1_ HB.out GE919.out)) : w.heap.size ≤ gb920)); have n4_ := A0_ ((by rw [hg]; exact (below_size (wb1_ HB.out GE919.out)) : w.heap.size ≤ gb920)); have n5_ := A0_ ((by rw [hg]; exact Nat.ne_of_lt (blk_lt (g := gb919) (o := .cells #[.string a0_0, .string a0_1, .string a0_2, .int .u8 a0_3, .int .i64 a0_4, .int .i64 a0_5, .int .i64 a0_6, .int .i64 a0_7, .slice A0_8 l0_8.length c0_8] 38 (0, 0)) (wB_ BK919.out)) : gb919 ≠ gb920)); have n6_ := A0_ ((by rw [hg]; exact Nat.ne_of_gt (blk_lt (g := gb919) (o := .cells #[.string a0_0, .string a0_1, .string a0_2, .int .u8 a0_3, .int .i64 a0_4, .int .i64 a0_5, .int .i64 a0_6, .int .i64 a0_7, .slice A0_8 l0_8.length c0_8] 38 (0, 0)) (wB_ BK919.out)) : gb920 ≠ gb919)); clear BK919; clear HB; have BK919 := n0_; have HB := n1_; have BK920 := n2_; have GW920 := n3_; have GE920 := n4_; have NB919_920 := n5_; have NB920_919 := n6_; clear n0_ n1_ n2_ n3_ n4_ n5_ n6_; clear hb hbox hg; have hnb30 := NB919_920.out; have hnc30 := NB920_919.out; have hcz31_0 : w29.cell? ⟨gb919, 0, none⟩ = some (.string a0_0) := (bc_ BK919.out 0).trans rfl; have hcz31_1 : w29.cell? ⟨gb919, 1, none⟩ = some (.string a0_1) := (bc_ BK919.out 1).trans rfl; have hcz31_2 : w29.cell? ⟨gb919, 2, none⟩ = some (.string a0_2) := (bc_ BK919.out 2).trans rfl; have hcz31_3 : w29.cell? ⟨gb919, 3, none⟩ = some (.int .u8 a0_3) := (bc_ BK919.out 3).trans rfl; have hcz31_4 : w29.cell? ⟨gb919, 4, none⟩ = some (.int .i64 a0_4) := (bc_ BK919.out 4).trans rfl; have hcz31_5 : w29.cell? ⟨gb919, 5, none⟩ = some (.int .i64 a0_5) := (bc_ BK919.out 5).trans rfl; have hcz31_6 : w29.cell? ⟨gb919, 6, none⟩ = some (.int .i64 a0_6) := (bc_ BK919.out 6).trans rfl; have hcz31_7 : w29.cell? ⟨gb919, 7, none⟩ = some (.int .i64 a0_7) := (bc_ BK919.out 7).trans rfl; have hcz31_8 : w29.cell? ⟨gb919, 8, none⟩ = some (.slice A0_8 l0_8.length c0_8) := (bc_ BK919.out 8).trans rfl; have hfz31_0 := bf_ BK919.out 0; have hfz31_1 := bf_ BK919.out 1; have hfz31_2 := bf_ BK919.out 2; have hfz31_3 := bf_ BK919.out 3; have hfz31_4 := bf_ BK919.out 4; have hfz31_5 := bf_ BK919.out 5; have hfz31_6 := bf_ BK919.out 6; have hfz31_7 := bf_ BK919.out 7; have hfz31_8 := bf_ BK919.out 8; have hcz32_0 : w29.cell? ⟨gb920, 0, none⟩ = some (.string a1_0) := (bc_ BK920.out 0).trans rfl; have hcz32_1 : w29.cell? ⟨gb920, 1, none⟩ = some (.string a1_1) := (bc_ BK920.out 1).trans rfl; have hcz32_2 : w29.cell? ⟨gb920, 2, none⟩ = some (.string a1_2) := (bc_ BK920.out 2).trans rfl; have hcz32_3 : w29.cell? ⟨gb920, 3, none⟩ = some (.int .u8 a1_3) := (bc_ BK920.out 3).trans rfl; have hcz32_4 : w29.cell? ⟨gb920, 4, none⟩ = some (.int .i64 a1_4) := (bc_ BK920.out 4).trans rfl; have hcz32_5 : w29.cell? ⟨gb920, 5, none⟩ = some (.int .i64 a1_5) := (bc_ BK920.out 5).trans rfl; have hcz32_6 : w29.cell? ⟨gb920, 6, none⟩ = some (.int .i64 a1_6) := (bc_ BK920.out 6).trans rfl; have hcz32_7 : w29.cell? ⟨gb920, 7, none⟩ = some (.int .i64 a1_7) := (bc_ BK920.out 7).trans rfl; have hcz32_8 : w29.cell? ⟨gb920, 8, none⟩ = some (.slice A1_8 l1_8.length c1_8) := (bc_ BK920.out 8).trans rfl; have hfz32_0 := bf_ BK920.out 0; have hfz32_1 := bf_ BK920.out 1; have hfz32_2 := bf_ BK920.out 2; have hfz32_3 := bf_ BK920.out 3; have hfz32_4 := bf_ BK920.out 4; have hfz32_5 := bf_ BK920.out 5; have hfz32_6 := bf_ BK920.out 6; have hfz32_7 := bf_ BK920.out 7; have hfz32_8 := bf_ BK920.out 8))
  go_ret
  exact ⟨we_, wb2_ HB.out GE919.out GE920.out⟩
 rw [if_pos c3] at H
 have c3b0 : (a0_0.toList == a1_0.toList) = true := beq_iff_eq.mpr c3
 have c3b1 : (a0_0.toList != a1_0.toList) = false := bne_eq_false_iff_eq.mpr c3
 clear c3
 by_cases c4 : a0_3 = a1_3
 rotate_left
 ·rw [if_neg c4] at H
  have c4b0 : (a0_3 == a1_3) = false := beq_eq_false_iff_ne.mpr c4
  have c4b1 : (a0_3 != a1_3) = true := bne_iff_ne.mpr c4
  obtain rfl := Option.some.inj H
  go_enter Tryd.func55, Tryd.ntmps55
  go_wp2_with (first | ((with_reducible refine gate_dst (N := 2) rfl ?_); refine box_event ?hg (N := 2) ?hd (cs := #[.string a0_0, .string a0_1, .string a0_2, .int .u8 a0_3, .int .i64 a0_4, .int .i64 a0_5, .int .i64 a0_6, .int .i64 a0_7, .slice A0_8 l0_8.length c0_8]) (t := 38) ?hr ?_; (case hd => rfl); (case hg => rfl); (case hr => first | (go_simp; done) | (go_simp; rfl)); intro gb919 hg w23 hbox hb; have n0_ := A0_ (below_step (wb_ HB.out) hb); have n1_ := A0_ (hbox); have n2_ := A0_ ((by rw [hg]; exact (below_size (wb_ HB.out)) : w.heap.size ≤ gb919)); have n3_ := A0_ ((by rw [hg]; exact (below_size (wb_ HB.out)) : w.heap.size ≤ gb919)); clear HB; have HB := n0_; have BK919 := n1_; have GW919 := n2_; have GE919 := n3_; clear n0_ n1_ n2_ n3_; clear hb hbox hg) | ((with_reducible refine gate_dst (N := 3) rfl ?_); refine box_event ?hg (N := 3) ?hd (cs := #[.string a1_0, .string a1_1, .string a1_2, .int .u8 a1_3, .int .i64 a1_4, .int .i64 a1_5, .int .i64 a1_6, .int .i64 a1_7, .slice A1_8 l1_8.length c1_8]) (t := 38) ?hr ?_; (case hd => rfl); (case hg => rfl); (case hr => first | (go_simp; done) | (go_simp; rfl)); intro gb920 hg w24 hbox hb; have n0_ := A0_ (blk_below (g := gb919) (o := .cells #[.string a0_0, .string a0_1, .string a0_2, .int .u8 a0_3, .int .i64 a0_4, .int .i64 a0_5, .int .i64 a0_6, .int .i64 a0_7, .slice A0_8 l0_8.length c0_8] 38 (0, 0)) (wB_ BK919.out) hb); have n1_ := A0_ (below_step (wb1_ HB.out GE919.out) hb); have n2_ := A0_ (hbox); have n3_ := A0_ ((by rw [hg]; exact (below_size (wb1_ HB.out GE919.out)) : w.heap.size ≤ gb920)); have n4_ := A0_ ((by rw [hg]; exact (below_size (wb1_ HB.out GE919.out)) : w.heap.size ≤ gb920)); have n5_ := A0_ ((by rw [hg]; exact Nat.ne_of_lt (blk_lt (g := gb919) (o := .cells #[.string a0_0, .string a0_1, .string a0_2, .int .u8 a0_3, .int .i64 a0_4, .int .i64 a0_5, .int .i64 a0_6, .int .i64 a0_7, .slice A0_8 l0_8.length c0_8] 38 (0, 0)) (wB_ BK919.out)) : gb919 ≠ gb920)); have n6_ := A0_ ((by rw [hg]; exact Nat.ne_of_gt (blk_lt (g := gb919) (o := .cells #[.string a0_0, .string a0_1, .string a0_2, .int .u8 a0_3, .int .i64 a0_4, .int .i64 a0_5, .int .i64 a0_6, .int .i64 a0_7, .slice A0_8 l0_8.length c0_8] 38 (0, 0)) (wB_ BK919.out)) : gb920 ≠ gb919)); clear BK919; clear HB; have BK919 := n0_; have HB := n1_; have BK920 := n2_; have GW920 := n3_; have GE920 := n4_; have NB919_920 := n5_; have NB920_919 := n6_; clear n0_ n1_ n2_ n3_ n4_ n5_ n6_; clear hb hbox hg; have hnb25 := NB919_920.out; have hnc25 := NB920_919.out; have hcz26_0 : w24.cell? ⟨gb919, 0, none⟩ = some (.string a0_0) := (bc_ BK919.out 0).trans rfl; have hcz26_1 : w24.cell? ⟨gb919, 1, none⟩ = some (.string a0_1) := (bc_ BK919.out 1).trans rfl; have hcz26_2 : w24.cell? ⟨gb919, 2, none⟩ = some (.string a0_2) := (bc_ BK919.out 2).trans rfl; have hcz26_3 : w24.cell? ⟨gb919, 3, none⟩ = some (.int .u8 a0_3) := (bc_ BK919.out 3).trans rfl; have hcz26_4 : w24.cell? ⟨gb919, 4, none⟩ = some (.int .i64 a0_4) := (bc_ BK919.out 4).trans rfl; have hcz26_5 : w24.cell? ⟨gb919, 5, none⟩ = some (.int .i64 a0_5) := (bc_ BK919.out 5).trans rfl; have hcz26_6 : w24.cell? ⟨gb919, 6, none⟩ = some (.int .i64 a0_6) := (bc_ BK919.out 6).trans rfl; have hcz26_7 : w24.cell? ⟨gb919, 7, none⟩ = some (.int .i64 a0_7) := (bc_ BK919.out 7).trans rfl; have hcz26_8 : w24.cell? ⟨gb919, 8, none⟩ = some (.slice A0_8 l0_8.length c0_8) := (bc_ BK919.out 8).trans rfl; have hfz26_0 := bf_ BK919.out 0; have hfz26_1 := bf_ BK919.out 1; have hfz26_2 := bf_ BK919.out 2; have hfz26_3 := bf_ BK919.out 3; have hfz26_4 := bf_ BK919.out 4; have hfz26_5 := bf_ BK919.out 5; have hfz26_6 := bf_ BK919.out 6; have hfz26_7 := bf_ BK919.out 7; have hfz26_8 := bf_ BK919.out 8; have hcz27_0 : w24.cell? ⟨gb920, 0, none⟩ = some (.string a1_0) := (bc_ BK920.out 0).trans rfl; have hcz27_1 : w24.cell? ⟨gb920, 1, none⟩ = some (.string a1_1) := (bc_ BK920.out 1).trans rfl; have hcz27_2 : w24.cell? ⟨gb920, 2, none⟩ = some (.string a1_2) := (bc_ BK920.out 2).trans rfl; have hcz27_3 : w24.cell? ⟨gb920, 3, none⟩ = some (.int .u8 a1_3) := (bc_ BK920.out 3).trans rfl; have hcz27_4 : w24.cell? ⟨gb920, 4, none⟩ = some (.int .i64 a1_4) := (bc_ BK920.out 4).trans rfl; have hcz27_5 : w24.cell? ⟨gb920, 5, none⟩ = some (.int .i64 a1_5) := (bc_ BK920.out 5).trans rfl; have hcz27_6 : w24.cell? ⟨gb920, 6, none⟩ = some (.int .i64 a1_6) := (bc_ BK920.out 6).trans rfl; have hcz27_7 : w24.cell? ⟨gb920, 7, none⟩ = some (.int .i64 a1_7) := (bc_ BK920.out 7).trans rfl; have hcz27_8 : w24.cell? ⟨gb920, 8, none⟩ = some (.slice A1_8 l1_8.length c1_8) := (bc_ BK920.out 8).trans rfl; have hfz27_0 := bf_ BK920.out 0; have hfz27_1 := bf_ BK920.out 1; have hfz27_2 := bf_ BK920.out 2; have hfz27_3 := bf_ BK920.out 3; have hfz27_4 := bf_ BK920.out 4; have hfz27_5 := bf_ BK920.out 5; have hfz27_6 := bf_ BK920.out 6; have hfz27_7 := bf_ BK920.out 7; have hfz27_8 := bf_ BK920.out 8))
  go_ret
  exact ⟨we_, wb2_ HB.out GE919.out GE920.out⟩
 rw [if_pos c4] at H
 have c4b0 : (a0_3 == a1_3) = true := beq_iff_eq.mpr c4
 have c4b1 : (a0_3 != a1_3) = false := bne_eq_false_iff_eq.mpr c4
 clear c4
 by_cases c5 : (a0_4 == a1_4 && (a0_5 == a1_5 && (a0_6 == a1_6 && (a0_7 == a1_7)))) = true
 rotate_left
 ·rw [if_neg c5] at H
  have c5b0 : (a0_4 == a1_4 && (a0_5 == a1_5 && (a0_6 == a1_6 && (a0_7 == a1_7)))) = false := by simpa using c5
  (try (have c5b1 : decide (a0_4 = a1_4 && (a0_5 == a1_5 && (a0_6 == a1_6 && (a0_7 == a1_7)))) = false := by simpa using c5))
  (try (have c5b2 : (a0_4 == a1_4 && (a0_5 == a1_5 && (a0_6 == a1_6 && (a0_7 == a1_7)))) = false := by simpa using c5))
  (try (have c5b3 : ¬ (a0_4 = a1_4 && (a0_5 == a1_5 && (a0_6 == a1_6 && (a0_7 == a1_7)))) := by simpa using c5))
  clear c5
  obtain rfl := Option.some.inj H
  go_enter Tryd.func55, Tryd.ntmps55
  go_wp2_with (first | ((with_reducible refine gate_dst (N := 2) rfl ?_); refine box_event ?hg (N := 2) ?hd (cs := #[.string a0_0, .string a0_1, .string a0_2, .int .u8 a0_3, .int .i64 a0_4, .int .i64 a0_5, .int .i64 a0_6, .int .i64 a0_7, .slice A0_8 l0_8.length c0_8]) (t := 38) ?hr ?_; (case hd => rfl); (case hg => rfl); (case hr => first | (go_simp; done) | (go_simp; rfl)); intro gb919 hg w18 hbox hb; have n0_ := A0_ (below_step (wb_ HB.out) hb); have n1_ := A0_ (hbox); have n2_ := A0_ ((by rw [hg]; exact (below_size (wb_ HB.out)) : w.heap.size ≤ gb919)); have n3_ := A0_ ((by rw [hg]; exact (below_size (wb_ HB.out)) : w.heap.size ≤ gb919)); clear HB; have HB := n0_; have BK919 := n1_; have GW919 := n2_; have GE919 := n3_; clear n0_ n1_ n2_ n3_; clear hb hbox hg) | ((with_reducible refine gate_dst (N := 3) rfl ?_); refine box_event ?hg (N := 3) ?hd (cs := #[.string a1_0, .string a1_1, .string a1_2, .int .u8 a1_3, .int .i64 a1_4, .int .i64 a1_5, .int .i64 a1_6, .int .i64 a1_7, .slice A1_8 l1_8.length c1_8]) (t := 38) ?hr ?_; (case hd => rfl); (case hg => rfl); (case hr => first | (go_simp; done) | (go_simp; rfl)); intro gb920 hg w19 hbox hb; have n0_ := A0_ (blk_below (g := gb919) (o := .cells #[.string a0_0, .string a0_1, .string a0_2, .int .u8 a0_3, .int .i64 a0_4, .int .i64 a0_5, .int .i64 a0_6, .int .i64 a0_7, .slice A0_8 l0_8.length c0_8] 38 (0, 0)) (wB_ BK919.out) hb); have n1_ := A0_ (below_step (wb1_ HB.out GE919.out) hb); have n2_ := A0_ (hbox); have n3_ := A0_ ((by rw [hg]; exact (below_size (wb1_ HB.out GE919.out)) : w.heap.size ≤ gb920)); have n4_ := A0_ ((by rw [hg]; exact (below_size (wb1_ HB.out GE919.out)) : w.heap.size ≤ gb920)); have n5_ := A0_ ((by rw [hg]; exact Nat.ne_of_lt (blk_lt (g := gb919) (o := .cells #[.string a0_0, .string a0_1, .string a0_2, .int .u8 a0_3, .int .i64 a0_4, .int .i64 a0_5, .int .i64 a0_6, .int .i64 a0_7, .slice A0_8 l0_8.length c0_8] 38 (0, 0)) (wB_ BK919.out)) : gb919 ≠ gb920)); have n6_ := A0_ ((by rw [hg]; exact Nat.ne_of_gt (blk_lt (g := gb919) (o := .cells #[.string a0_0, .string a0_1, .string a0_2, .int .u8 a0_3, .int .i64 a0_4, .int .i64 a0_5, .int .i64 a0_6, .int .i64 a0_7, .slice A0_8 l0_8.length c0_8] 38 (0, 0)) (wB_ BK919.out)) : gb920 ≠ gb919)); clear BK919; clear HB; have BK919 := n0_; have HB := n1_; have BK920 := n2_; have GW920 := n3_; have GE920 := n4_; have NB919_920 := n5_; have NB920_919 := n6_; clear n0_ n1_ n2_ n3_ n4_ n5_ n6_; clear hb hbox hg; have hnb20 := NB919_920.out; have hnc20 := NB920_919.out; have hcz21_0 : w19.cell? ⟨gb919, 0, none⟩ = some (.string a0_0) := (bc_ BK919.out 0).trans rfl; have hcz21_1 : w19.cell? ⟨gb919, 1, none⟩ = some (.string a0_1) := (bc_ BK919.out 1).trans rfl; have hcz21_2 : w19.cell? ⟨gb919, 2, none⟩ = some (.string a0_2) := (bc_ BK919.out 2).trans rfl; have hcz21_3 : w19.cell? ⟨gb919, 3, none⟩ = some (.int .u8 a0_3) := (bc_ BK919.out 3).trans rfl; have hcz21_4 : w19.cell? ⟨gb919, 4, none⟩ = some (.int .i64 a0_4) := (bc_ BK919.out 4).trans rfl; have hcz21_5 : w19.cell? ⟨gb919, 5, none⟩ = some (.int .i64 a0_5) := (bc_ BK919.out 5).trans rfl; have hcz21_6 : w19.cell? ⟨gb919, 6, none⟩ = some (.int .i64 a0_6) := (bc_ BK919.out 6).trans rfl; have hcz21_7 : w19.cell? ⟨gb919, 7, none⟩ = some (.int .i64 a0_7) := (bc_ BK919.out 7).trans rfl; have hcz21_8 : w19.cell? ⟨gb919, 8, none⟩ = some (.slice A0_8 l0_8.length c0_8) := (bc_ BK919.out 8).trans rfl; have hfz21_0 := bf_ BK919.out 0; have hfz21_1 := bf_ BK919.out 1; have hfz21_2 := bf_ BK919.out 2; have hfz21_3 := bf_ BK919.out 3; have hfz21_4 := bf_ BK919.out 4; have hfz21_5 := bf_ BK919.out 5; have hfz21_6 := bf_ BK919.out 6; have hfz21_7 := bf_ BK919.out 7; have hfz21_8 := bf_ BK919.out 8; have hcz22_0 : w19.cell? ⟨gb920, 0, none⟩ = some (.string a1_0) := (bc_ BK920.out 0).trans rfl; have hcz22_1 : w19.cell? ⟨gb920, 1, none⟩ = some (.string a1_1) := (bc_ BK920.out 1).trans rfl; have hcz22_2 : w19.cell? ⟨gb920, 2, none⟩ = some (.string a1_2) := (bc_ BK920.out 2).trans rfl; have hcz22_3 : w19.cell? ⟨gb920, 3, none⟩ = some (.int .u8 a1_3) := (bc_ BK920.out 3).trans rfl; have hcz22_4 : w19.cell? ⟨gb920, 4, none⟩ = some (.int .i64 a1_4) := (bc_ BK920.out 4).trans rfl; have hcz22_5 : w19.cell? ⟨gb920, 5, none⟩ = some (.int .i64 a1_5) := (bc_ BK920.out 5).trans rfl; have hcz22_6 : w19.cell? ⟨gb920, 6, none⟩ = some (.int .i64 a1_6) := (bc_ BK920.out 6).trans rfl; have hcz22_7 : w19.cell? ⟨gb920, 7, none⟩ = some (.int .i64 a1_7) := (bc_ BK920.out 7).trans rfl; have hcz22_8 : w19.cell? ⟨gb920, 8, none⟩ = some (.slice A1_8 l1_8.length c1_8) := (bc_ BK920.out 8).trans rfl; have hfz22_0 := bf_ BK920.out 0; have hfz22_1 := bf_ BK920.out 1; have hfz22_2 := bf_ BK920.out 2; have hfz22_3 := bf_ BK920.out 3; have hfz22_4 := bf_ BK920.out 4; have hfz22_5 := bf_ BK920.out 5; have hfz22_6 := bf_ BK920.out 6; have hfz22_7 := bf_ BK920.out 7; have hfz22_8 := bf_ BK920.out 8))
  go_ret
  exact ⟨we_, wb2_ HB.out GE919.out GE920.out⟩
 rw [if_pos c5] at H
 have c5b0 : (a0_4 == a1_4 && (a0_5 == a1_5 && (a0_6 == a1_6 && (a0_7 == a1_7)))) = true := c5
 (try (have c5b1 : decide (a0_4 = a1_4 && (a0_5 == a1_5 && (a0_6 == a1_6 && (a0_7 == a1_7)))) = true := by simpa using c5))
 (try (have c5b2 : (a0_4 == a1_4 && (a0_5 == a1_5 && (a0_6 == a1_6 && (a0_7 == a1_7)))) = true := by simpa using c5))
 clear c5
 by_cases c6 : a0_1.toList = a1_1.toList
 rotate_left
 ·rw [if_neg c6] at H
  have c6b0 : (a0_1.toList == a1_1.toList) = false := beq_eq_false_iff_ne.mpr c6
  have c6b1 : (a0_1.toList != a1_1.toList) = true := bne_iff_ne.mpr c6
  obtain rfl := Option.some.inj H
  go_enter Tryd.func55, Tryd.ntmps55
  go_wp2_with (first | ((with_reducible refine gate_dst (N := 2) rfl ?_); refine box_event ?hg (N := 2) ?hd (cs := #[.string a0_0, .string a0_1, .string a0_2, .int .u8 a0_3, .int .i64 a0_4, .int .i64 a0_5, .int .i64 a0_6, .int .i64 a0_7, .slice A0_8 l0_8.length c0_8]) (t := 38) ?hr ?_; (case hd => rfl); (case hg => rfl); (case hr => first | (go_simp; done) | (go_simp; rfl)); intro gb919 hg w13 hbox hb; have n0_ := A0_ (below_step (wb_ HB.out) hb); have n1_ := A0_ (hbox); have n2_ := A0_ ((by rw [hg]; exact (below_size (wb_ HB.out)) : w.heap.size ≤ gb919)); have n3_ := A0_ ((by rw [hg]; exact (below_size (wb_ HB.out)) : w.heap.size ≤ gb919)); clear HB; have HB := n0_; have BK919 := n1_; have GW919 := n2_; have GE919 := n3_; clear n0_ n1_ n2_ n3_; clear hb hbox hg) | ((with_reducible refine gate_dst (N := 3) rfl ?_); refine box_event ?hg (N := 3) ?hd (cs := #[.string a1_0, .string a1_1, .string a1_2, .int .u8 a1_3, .int .i64 a1_4, .int .i64 a1_5, .int .i64 a1_6, .int .i64 a1_7, .slice A1_8 l1_8.length c1_8]) (t := 38) ?hr ?_; (case hd => rfl); (case hg => rfl); (case hr => first | (go_simp; done) | (go_simp; rfl)); intro gb920 hg w14 hbox hb; have n0_ := A0_ (blk_below (g := gb919) (o := .cells #[.string a0_0, .string a0_1, .string a0_2, .int .u8 a0_3, .int .i64 a0_4, .int .i64 a0_5, .int .i64 a0_6, .int .i64 a0_7, .slice A0_8 l0_8.length c0_8] 38 (0, 0)) (wB_ BK919.out) hb); have n1_ := A0_ (below_step (wb1_ HB.out GE919.out) hb); have n2_ := A0_ (hbox); have n3_ := A0_ ((by rw [hg]; exact (below_size (wb1_ HB.out GE919.out)) : w.heap.size ≤ gb920)); have n4_ := A0_ ((by rw [hg]; exact (below_size (wb1_ HB.out GE919.out)) : w.heap.size ≤ gb920)); have n5_ := A0_ ((by rw [hg]; exact Nat.ne_of_lt (blk_lt (g := gb919) (o := .cells #[.string a0_0, .string a0_1, .string a0_2, .int .u8 a0_3, .int .i64 a0_4, .int .i64 a0_5, .int .i64 a0_6, .int .i64 a0_7, .slice A0_8 l0_8.length c0_8] 38 (0, 0)) (wB_ BK919.out)) : gb919 ≠ gb920)); have n6_ := A0_ ((by rw [hg]; exact Nat.ne_of_gt (blk_lt (g := gb919) (o := .cells #[.string a0_0, .string a0_1, .string a0_2, .int .u8 a0_3, .int .i64 a0_4, .int .i64 a0_5, .int .i64 a0_6, .int .i64 a0_7, .slice A0_8 l0_8.length c0_8] 38 (0, 0)) (wB_ BK919.out)) : gb920 ≠ gb919)); clear BK919; clear HB; have BK919 := n0_; have HB := n1_; have BK920 := n2_; have GW920 := n3_; have GE920 := n4_; have NB919_920 := n5_; have NB920_919 := n6_; clear n0_ n1_ n2_ n3_ n4_ n5_ n6_; clear hb hbox hg; have hnb15 := NB919_920.out; have hnc15 := NB920_919.out; have hcz16_0 : w14.cell? ⟨gb919, 0, none⟩ = some (.string a0_0) := (bc_ BK919.out 0).trans rfl; have hcz16_1 : w14.cell? ⟨gb919, 1, none⟩ = some (.string a0_1) := (bc_ BK919.out 1).trans rfl; have hcz16_2 : w14.cell? ⟨gb919, 2, none⟩ = some (.string a0_2) := (bc_ BK919.out 2).trans rfl; have hcz16_3 : w14.cell? ⟨gb919, 3, none⟩ = some (.int .u8 a0_3) := (bc_ BK919.out 3).trans rfl; have hcz16_4 : w14.cell? ⟨gb919, 4, none⟩ = some (.int .i64 a0_4) := (bc_ BK919.out 4).trans rfl; have hcz16_5 : w14.cell? ⟨gb919, 5, none⟩ = some (.int .i64 a0_5) := (bc_ BK919.out 5).trans rfl; have hcz16_6 : w14.cell? ⟨gb919, 6, none⟩ = some (.int .i64 a0_6) := (bc_ BK919.out 6).trans rfl; have hcz16_7 : w14.cell? ⟨gb919, 7, none⟩ = some (.int .i64 a0_7) := (bc_ BK919.out 7).trans rfl; have hcz16_8 : w14.cell? ⟨gb919, 8, none⟩ = some (.slice A0_8 l0_8.length c0_8) := (bc_ BK919.out 8).trans rfl; have hfz16_0 := bf_ BK919.out 0; have hfz16_1 := bf_ BK919.out 1; have hfz16_2 := bf_ BK919.out 2; have hfz16_3 := bf_ BK919.out 3; have hfz16_4 := bf_ BK919.out 4; have hfz16_5 := bf_ BK919.out 5; have hfz16_6 := bf_ BK919.out 6; have hfz16_7 := bf_ BK919.out 7; have hfz16_8 := bf_ BK919.out 8; have hcz17_0 : w14.cell? ⟨gb920, 0, none⟩ = some (.string a1_0) := (bc_ BK920.out 0).trans rfl; have hcz17_1 : w14.cell? ⟨gb920, 1, none⟩ = some (.string a1_1) := (bc_ BK920.out 1).trans rfl; have hcz17_2 : w14.cell? ⟨gb920, 2, none⟩ = some (.string a1_2) := (bc_ BK920.out 2).trans rfl; have hcz17_3 : w14.cell? ⟨gb920, 3, none⟩ = some (.int .u8 a1_3) := (bc_ BK920.out 3).trans rfl; have hcz17_4 : w14.cell? ⟨gb920, 4, none⟩ = some (.int .i64 a1_4) := (bc_ BK920.out 4).trans rfl; have hcz17_5 : w14.cell? ⟨gb920, 5, none⟩ = some (.int .i64 a1_5) := (bc_ BK920.out 5).trans rfl; have hcz17_6 : w14.cell? ⟨gb920, 6, none⟩ = some (.int .i64 a1_6) := (bc_ BK920.out 6).trans rfl; have hcz17_7 : w14.cell? ⟨gb920, 7, none⟩ = some (.int .i64 a1_7) := (bc_ BK920.out 7).trans rfl; have hcz17_8 : w14.cell? ⟨gb920, 8, none⟩ = some (.slice A1_8 l1_8.length c1_8) := (bc_ BK920.out 8).trans rfl; have hfz17_0 := bf_ BK920.out 0; have hfz17_1 := bf_ BK920.out 1; have hfz17_2 := bf_ BK920.out 2; have hfz17_3 := bf_ BK920.out 3; have hfz17_4 := bf_ BK920.out 4; have hfz17_5 := bf_ BK920.out 5; have hfz17_6 := bf_ BK920.out 6; have hfz17_7 := bf_ BK920.out 7; have hfz17_8 := bf_ BK920.out 8))
  go_ret
  exact ⟨we_, wb2_ HB.out GE919.out GE920.out⟩
 rw [if_pos c6] at H
 have c6b0 : (a0_1.toList == a1_1.toList) = true := beq_iff_eq.mpr c6
 have c6b1 : (a0_1.toList != a1_1.toList) = false := bne_eq_false_iff_eq.mpr c6
 clear c6
 replace H := Option.bind_eq_some_iff.mp H
 obtain ⟨t921, A70, H⟩ := H
 replace H : (some t921) = some r := H
 have A7 := A0_ A70
 clear A70
 obtain rfl := Option.some.inj H
 go_enter Tryd.func55, Tryd.ntmps55
 go_wp2_with (first | ((with_reducible refine gate_dst (N := 2) rfl ?_); refine box_event ?hg (N := 2) ?hd (cs := #[.string a0_0, .string a0_1, .string a0_2, .int .u8 a0_3, .int .i64 a0_4, .int .i64 a0_5, .int .i64 a0_6, .int .i64 a0_7, .slice A0_8 l0_8.length c0_8]) (t := 38) ?hr ?_; (case hd => rfl); (case hg => rfl); (case hr => first | (go_simp; done) | (go_simp; rfl)); intro gb919 hg w8 hbox hb; have n0_ := A0_ (below_step (wb_ HB.out) hb); have n1_ := A0_ (hbox); have n2_ := A0_ ((by rw [hg]; exact (below_size (wb_ HB.out)) : w.heap.size ≤ gb919)); have n3_ := A0_ ((by rw [hg]; exact (below_size (wb_ HB.out)) : w.heap.size ≤ gb919)); clear HB; have HB := n0_; have BK919 := n1_; have GW919 := n2_; have GE919 := n3_; clear n0_ n1_ n2_ n3_; clear hb hbox hg) | ((with_reducible refine gate_dst (N := 3) rfl ?_); refine box_event ?hg (N := 3) ?hd (cs := #[.string a1_0, .string a1_1, .string a1_2, .int .u8 a1_3, .int .i64 a1_4, .int .i64 a1_5, .int .i64 a1_6, .int .i64 a1_7, .slice A1_8 l1_8.length c1_8]) (t := 38) ?hr ?_; (case hd => rfl); (case hg => rfl); (case hr => first | (go_simp; done) | (go_simp; rfl)); intro gb920 hg w9 hbox hb; have n0_ := A0_ (blk_below (g := gb919) (o := .cells #[.string a0_0, .string a0_1, .string a0_2, .int .u8 a0_3, .int .i64 a0_4, .int .i64 a0_5, .int .i64 a0_6, .int .i64 a0_7, .slice A0_8 l0_8.length c0_8] 38 (0, 0)) (wB_ BK919.out) hb); have n1_ := A0_ (below_step (wb1_ HB.out GE919.out) hb); have n2_ := A0_ (hbox); have n3_ := A0_ ((by rw [hg]; exact (below_size (wb1_ HB.out GE919.out)) : w.heap.size ≤ gb920)); have n4_ := A0_ ((by rw [hg]; exact (below_size (wb1_ HB.out GE919.out)) : w.heap.size ≤ gb920)); have n5_ := A0_ ((by rw [hg]; exact Nat.ne_of_lt (blk_lt (g := gb919) (o := .cells #[.string a0_0, .string a0_1, .string a0_2, .int .u8 a0_3, .int .i64 a0_4, .int .i64 a0_5, .int .i64 a0_6, .int .i64 a0_7, .slice A0_8 l0_8.length c0_8] 38 (0, 0)) (wB_ BK919.out)) : gb919 ≠ gb920)); have n6_ := A0_ ((by rw [hg]; exact Nat.ne_of_gt (blk_lt (g := gb919) (o := .cells #[.string a0_0, .string a0_1, .string a0_2, .int .u8 a0_3, .int .i64 a0_4, .int .i64 a0_5, .int .i64 a0_6, .int .i64 a0_7, .slice A0_8 l0_8.length c0_8] 38 (0, 0)) (wB_ BK919.out)) : gb920 ≠ gb919)); clear BK919; clear HB; have BK919 := n0_; have HB := n1_; have BK920 := n2_; have GW920 := n3_; have GE920 := n4_; have NB919_920 := n5_; have NB920_919 := n6_; clear n0_ n1_ n2_ n3_ n4_ n5_ n6_; clear hb hbox hg; have hnb10 := NB919_920.out; have hnc10 := NB920_919.out; have hcz11_0 : w9.cell? ⟨gb919, 0, none⟩ = some (.string a0_0) := (bc_ BK919.out 0).trans rfl; have hcz11_1 : w9.cell? ⟨gb919, 1, none⟩ = some (.string a0_1) := (bc_ BK919.out 1).trans rfl; have hcz11_2 : w9.cell? ⟨gb919, 2, none⟩ = some (.string a0_2) := (bc_ BK919.out 2).trans rfl; have hcz11_3 : w9.cell? ⟨gb919, 3, none⟩ = some (.int .u8 a0_3) := (bc_ BK919.out 3).trans rfl; have hcz11_4 : w9.cell? ⟨gb919, 4, none⟩ = some (.int .i64 a0_4) := (bc_ BK919.out 4).trans rfl; have hcz11_5 : w9.cell? ⟨gb919, 5, none⟩ = some (.int .i64 a0_5) := (bc_ BK919.out 5).trans rfl; have hcz11_6 : w9.cell? ⟨gb919, 6, none⟩ = some (.int .i64 a0_6) := (bc_ BK919.out 6).trans rfl; have hcz11_7 : w9.cell? ⟨gb919, 7, none⟩ = some (.int .i64 a0_7) := (bc_ BK919.out 7).trans rfl; have hcz11_8 : w9.cell? ⟨gb919, 8, none⟩ = some (.slice A0_8 l0_8.length c0_8) := (bc_ BK919.out 8).trans rfl; have hfz11_0 := bf_ BK919.out 0; have hfz11_1 := bf_ BK919.out 1; have hfz11_2 := bf_ BK919.out 2; have hfz11_3 := bf_ BK919.out 3; have hfz11_4 := bf_ BK919.out 4; have hfz11_5 := bf_ BK919.out 5; have hfz11_6 := bf_ BK919.out 6; have hfz11_7 := bf_ BK919.out 7; have hfz11_8 := bf_ BK919.out 8; have hcz12_0 : w9.cell? ⟨gb920, 0, none⟩ = some (.string a1_0) := (bc_ BK920.out 0).trans rfl; have hcz12_1 : w9.cell? ⟨gb920, 1, none⟩ = some (.string a1_1) := (bc_ BK920.out 1).trans rfl; have hcz12_2 : w9.cell? ⟨gb920, 2, none⟩ = some (.string a1_2) := (bc_ BK920.out 2).trans rfl; have hcz12_3 : w9.cell? ⟨gb920, 3, none⟩ = some (.int .u8 a1_3) := (bc_ BK920.out 3).trans rfl; have hcz12_4 : w9.cell? ⟨gb920, 4, none⟩ = some (.int .i64 a1_4) := (bc_ BK920.out 4).trans rfl; have hcz12_5 : w9.cell? ⟨gb920, 5, none⟩ = some (.int .i64 a1_5) := (bc_ BK920.out 5).trans rfl; have hcz12_6 : w9.cell? ⟨gb920, 6, none⟩ = some (.int .i64 a1_6) := (bc_ BK920.out 6).trans rfl; have hcz12_7 : w9.cell? ⟨gb920, 7, none⟩ = some (.int .i64 a1_7) := (bc_ BK920.out 7).trans rfl; have hcz12_8 : w9.cell? ⟨gb920, 8, none⟩ = some (.slice A1_8 l1_8.length c1_8) := (bc_ BK920.out 8).trans rfl; have hfz12_0 := bf_ BK920.out 0; have hfz12_1 := bf_ BK920.out 1; have hfz12_2 := bf_ BK920.out 2; have hfz12_3 := bf_ BK920.out 3; have hfz12_4 := bf_ BK920.out 4; have hfz12_5 := bf_ BK920.out 5; have hfz12_6 := bf_ BK920.out 6; have hfz12_7 := bf_ BK920.out 7; have hfz12_8 := bf_ BK920.out 8) | (go_at_call 72; (with_reducible refine (bytes_Equal.calls _ _ l0_8 _ _ l1_8 t921 _ ?side1 ?side2 ?side3 ?side4 A7.out).mono ?_); (case side1 => exact wc_ (Kd.C_below HR0_8.out HB.out)); (case side2 => exact HC0_8.out); (case side3 => exact wc_ (Kd.C_below HR1_8.out HB.out)); (case side4 => exact HC1_8.out); rintro e w' ⟨rfl, ⟨nd, rfl⟩⟩))
 go_ret
 exact ⟨we_, wb2_ HB.out GE919.out GE920.out⟩
end Go.Proofs.YtfmphccoeinhcaaDoor.Print

namespace Go.Proofs.YtfmphccoeinhcaaDoor
open Go.RowKit Go.Proofs.YtfmphccoeinhcaaDoor.Print Go.Proofs.YtfmphccoeinhcaaDoorW.PrintWords
theorem equal_chain (a b : Node) {r : Option Bool} (h : r = some ((strOfNums a.f5).toList == (strOfNums b.f5).toList)) : (if a.f0.toList = b.f0.toList then (if a.f3 = b.f3 then (if (a.f4.f0 == b.f4.f0 && (a.f4.f1 == b.f4.f1 && (a.f4.f2 == b.f4.f2 && (a.f4.f3 == b.f4.f3)))) = true then (if a.f1.toList = b.f1.toList then r else (some false)) else (some false)) else (some false)) else (some false)) = some (equalB a b) := by
 subst h
 unfold equalB
 by_cases h0 : a.f0.toList = b.f0.toList
 ·rw [if_pos h0]
  by_cases h1 : a.f3 = b.f3
  ·rw [if_pos h1]
   by_cases h2 : (a.f4.f0 == b.f4.f0 && (a.f4.f1 == b.f4.f1 && (a.f4.f2 == b.f4.f2 && (a.f4.f3 == b.f4.f3)))) = true
   ·rw [if_pos h2]
    simp only [Bool.and_eq_true, beq_iff_eq] at h2
    by_cases h3 : a.f1.toList = b.f1.toList
    ·rw [if_pos h3]
     congr 1
     rw [Bool.eq_iff_iff, beq_iff_eq, decide_eq_true_iff]
     exact ⟨fun h => ⟨h0, h1, h2.1, h2.2.1, h2.2.2.1, h2.2.2.2, h3, h⟩, fun h => h.2.2.2.2.2.2.2⟩
    ·rw [if_neg h3, decide_eq_false]
     exact fun h => h3 h.2.2.2.2.2.2.1
   ·rw [if_neg h2, decide_eq_false]
    intro h
    apply h2
    simp only [Bool.and_eq_true, beq_iff_eq]
    exact ⟨h.2.2.1, h.2.2.2.1, h.2.2.2.2.1, h.2.2.2.2.2.1⟩
  ·rw [if_neg h1, decide_eq_false]
   exact fun h => h1 h.2.1
 ·rw [if_neg h0, decide_eq_false]
  exact fun h => h0 h.1
theorem tequal_f (a b : Node) : tree_Equal.f a.f0 a.f1 a.f2 a.f3 a.f4.f0 a.f4.f1 a.f4.f2 a.f4.f3 a.f5 b.f0 b.f1 b.f2 b.f3 b.f4.f0 b.f4.f1 b.f4.f2 b.f4.f3 b.f5 = some (equalB a b) := by
 unfold tree_Equal.f
 exact equal_chain a b (by unfold bytes_Equal.f; rfl)
end Go.Proofs.YtfmphccoeinhcaaDoor

namespace Go.Proofs.YtfmphccoeinhcaaDoor
open Go.RowKit Go.Maps Go.Proofs.YtfmphccoeinhcaaDoor.Print Go.Proofs.YtfmphccoeinhcaaDoorW.PrintWords Go.Proofs.YtfmphccoeinhcaaDoorW.PrintLast Go.Proofs.YtfmphccoeinhcaaDoorW.PrintMore
set_option linter.unusedVariables false
set_option linter.unusedSimpArgs false
def PathsZ (ps : List ByteArray) : Prop := ps.length ≤ 10000 ∧ ∀ p ∈ ps, p.size ≤ 140737488351232
theorem keep_len (t : List Node) : ∀ (ps : List ByteArray) (s : PL), (ps.foldl (keepStep t) s).length ≤ s.length + ps.length
 | [], s => Nat.le_refl _
 | p :: ps, s => by
  rw [List.foldl_cons]
  have h := keep_len t ps (keepStep t s p)
  have h2 : (keepStep t s p).length ≤ s.length + 1 := by
   unfold keepStep
   split
   ·exact putE_len _ _
   ·omega
  rw [List.length_cons]
  omega
def KRel (t : List Node) (ps : List ByteArray) (W : World) (g d1 d2 : Nat) (i : Int) (wr : World) : Prop :=
 0 ≤ i ∧ i ≤ ps.length ∧ (∃ n, n ≤ i.toNat ∧ PileAt wr W.heap.size g d1 d2 n (keepPile t (ps.take i.toNat))) ∧ Below W.heap.size W wr
set_option maxRecDepth 100000 in
set_option maxHeartbeats 8000000 in
theorem Keep_calls (A0 : Option Addr) (c0 : Nat) (t : List Node) (A1 : Option Addr) (c1 : Nat) (ps : List ByteArray) (W : World) (hT : Tabs W) (hC : Kd.C k38 W A0 t.length t) (hc0 : t.length ≤ c0) (hD : Kd.C Kd.string W A1 ps.length ps) (hz : TreeZ t) (hp : PathsZ ps) :
  Calls Tryd.prog 36 #[.slice A0 t.length c0, .slice A1 ps.length c1] W fun e W' => ∃ v, e = .returned (.tuple #[v, .int .i64 (keepF t ps).2]) ∧ Kd.V k38 38 W' W.heap.size (fun k => W.heap.size ≤ k) v (keepF t ps).1 ∧ Below W.heap.size W W' := by
 have HT := Aside0.mk hT
 have HC := Aside0.mk hC
 have HCC := Aside0.mk hc0
 have HD := Aside0.mk hD
 have HZ := Aside0.mk hz
 have HPZ := Aside0.mk hp
 have hlen : (ps.length : Int) ≤ 10000 := by have := hp.1; omega
 clear hT hC hc0 hD hz hp
 generalize hpost : (fun (e : Ending) (W' : World) => ∃ v, e = .returned (.tuple #[v, .int .i64 (keepF t ps).2]) ∧ Kd.V k38 38 W' W.heap.size (fun k => W.heap.size ≤ k) v (keepF t ps).1 ∧ Below W.heap.size W W') = Q
 have hQ := Aside0.mk hpost
 clear hpost
 cases hg : goodTree t with
 | false =>
  have HG := Aside0.mk hg
  clear hg
  go_enter Tryd.func36, Tryd.ntmps36
  go_wp2_with (first
   | (go_at_call 42; refine (Good_calls A0 c0 t _ HT.out HC.out HCC.out HZ.out.2).mono ?_; rintro e w2 ⟨rfl, hb2⟩; rw [HG.out]; have HB2 := Aside0.mk hb2; clear hb2)
   | fail)
  rw [← hQ.out]
  have hu : keepF t ps = ([], 1) := by unfold keepF; rw [HG.out]; rfl
  rw [hu]
  exact ⟨_, rfl, Kd.V_nil _ _ _ _ _, HB2.out⟩
 | true =>
  have HG := Aside0.mk hg
  clear hg
  go_enter Tryd.func36, Tryd.ntmps36
  go_wp2_with (first
   | (go_at_call 42; refine (Good_calls A0 c0 t _ HT.out HC.out HCC.out HZ.out.2).mono ?_; rintro e w2 ⟨rfl, hb2⟩; rw [HG.out]; have HB2 := Aside0.mk hb2; clear hb2)
   | (go_at_call 27; refine (New_calls W.heap.size _ HB2.out.size).mono ?_; rintro e w1 ⟨g, d1, d2, rfl, hP1, hB1⟩; have HP1 := Aside0.mk hP1; have HB1 := Aside0.mk (HB2.out.trans (hB1.mono HB2.out.size)); clear hP1 hB1))
  have HST : Aside0 (KRel t ps W g d1 d2 0 w1) := ⟨⟨by omega, by omega, ⟨0, by omega, HP1.out⟩, HB1.out⟩⟩
  clear HP1 HB1 HB2
  go_loopw [17] (fun i wr => ∃ n : Int, i = .int .i64 n ∧ Aside0 (KRel t ps W g d1 d2 n wr)) (fun i _ => (ps.length - (intOf i)).toNat)
  case atStart => exact ⟨0, rfl, HST⟩
  case round =>
   obtain ⟨i, rfl, HR⟩ := hrel
   have h0 := HR.out.1
   have h1 := HR.out.2.1
   obtain ⟨m, hm, hP⟩ := HR.out.2.2.1
   have HP := Aside0.mk hP
   have HM := Aside0.mk hm
   have HB := Aside0.mk HR.out.2.2.2
   clear hP hm
   by_cases hlt : i < (ps.length : Int)
   ·have c1b : decide (i < (ps.length : Int)) = true := decide_eq_true hlt
    have hil : i.toNat < ps.length := by omega
    obtain ⟨ad, hA, x0⟩ := Kd.at_string HD.out i h0 hlt
    have hx : rdOf ByteArray.empty ps i = ps[i.toNat] := by
     unfold rdOf
     rw [List.getD_eq_getElem?_getD, List.getElem?_eq_getElem hil]
     rfl
    rw [hx] at x0
    subst hA
    replace x0 := fkeep HB.out x0
    have htk := List.take_succ_eq_append_getElem hil
    have hpm : ps[i.toNat] ∈ ps := List.getElem_mem _
    generalize ps[i.toNat] = p at x0 htk hpm
    have HTK := Aside0.mk htk
    have HPM := Aside0.mk (HPZ.out.2 p hpm)
    clear htk hpm hx
    have e1 : (i + 1).toNat = i.toNat + 1 := by omega
    have HE1 := Aside0.mk e1
    clear e1
    have hks : keepPile t (ps.take (i.toNat + 1)) = keepStep t (keepPile t (ps.take i.toNat)) p := by
     unfold keepPile
     rw [HTK.out, List.foldl_append]
     rfl
    have HKS := Aside0.mk hks
    clear hks
    cases hf : findF t p with
    | none =>
     have HF := Aside0.mk hf
     clear hf
     go_upto_region 8 with (first
      | (go_at_call 54; refine (Find_calls A0 c0 t p _ (Kd.C_below HC.out HB.out) (good_parts HG.out).1 HZ.out.2.1).mono ?_; rintro e w2 ⟨x, b, v, hm, rfl, hR, hB2⟩; rw [HF.out] at hm; obtain ⟨rfl, rfl⟩ := hm; obtain ⟨A8, c8, rfl, hl8, hC8⟩ := Kd.R_reads hR; have HB2 := Aside0.mk hB2; clear hR hB2 hl8 hC8 x0; unfold nodeCells)
      | fail)
     generalize hw3 : World.alloc w2 _ = w3
     have hb3 : Below w2.heap.size w2 w3 := by rw [← hw3]; exact below_alloc (Below.refl _ _) _
     have HB3 := Aside0.mk hb3
     clear hw3 hb3
     go_wp2
     have hfin : KRel t ps W g d1 d2 (i + 1) w3 := by
      refine ⟨by omega, by omega, ⟨m, by have := HM.out; rw [HE1.out]; omega, ?_⟩, HB.out.trans ((HB2.out.trans (HB3.out.mono HB2.out.size)).mono HB.out.size)⟩
      rw [HE1.out, HKS.out]
      unfold keepStep
      rw [HF.out]
      exact (HP.out.below HB2.out).below HB3.out
     have HFIN := Aside0.mk hfin
     clear hfin
     go_roundw
     case rel => exact ⟨i + 1, by go_num, HFIN⟩
     case measure => simp [intOf]; omega
    | some y =>
     have HF := Aside0.mk hf
     have HYZ := Aside0.mk (HZ.out.2.1.2 y (findF_mem hf).1)
     clear hf
     go_upto_region 8 with (first
      | (go_at_call 54; refine (Find_calls A0 c0 t p _ (Kd.C_below HC.out HB.out) (good_parts HG.out).1 HZ.out.2.1).mono ?_; rintro e w2 ⟨x, b, v, hm, rfl, hR, hB2⟩; rw [HF.out] at hm; obtain ⟨rfl, rfl⟩ := hm; obtain ⟨A8, c8, rfl, hl8, hC8⟩ := Kd.R_reads hR; have HB2 := Aside0.mk hB2; have HC8 := Aside0.mk hC8; clear hR hB2 hl8 hC8 x0; unfold nodeCells)
      | fail)
     go_wp2_with (first
      | (go_at_call 28; refine (Put_calls W.heap.size g d1 d2 m (keepPile t (ps.take i.toNat)) 0 x A8 c8 p _ ((HP.out.below HB2.out).below (below_alloc (Below.refl _ _) _)) (by have := HM.out; omega) ⟨HPM.out, HYZ.out, wf_small (i := 0) (by omega) (by omega)⟩ (Kd.C_alloc HC8.out _) (Nat.le_trans (Nat.le_trans HB.out.size HB2.out.size) (by rw [World.size_alloc]; omega))).mono ?_; rintro e w3 ⟨rfl, hP4, hB4⟩; have HP4 := Aside0.mk hP4; have HB4 := Aside0.mk (((HB.out.trans (HB2.out.mono HB.out.size)).alloc (Nat.le_trans HB.out.size HB2.out.size) _).trans hB4); clear hP4 hB4)
      | fail)
     have hfin : KRel t ps W g d1 d2 (i + 1) w3 := by
      refine ⟨by omega, by omega, ⟨m + 1, by have := HM.out; rw [HE1.out]; omega, ?_⟩, HB4.out⟩
      rw [HE1.out, HKS.out]
      unfold keepStep
      rw [HF.out]
      exact HP4.out
     have HFIN := Aside0.mk hfin
     clear hfin
     go_roundw
     case rel => exact ⟨i + 1, by go_num, HFIN⟩
     case measure => simp [intOf]; omega
   ·have c1b : decide (i < (ps.length : Int)) = false := decide_eq_false hlt
    have hend : i = ps.length := by omega
    have hP : PileAt wr W.heap.size g d1 d2 m (keepPile t ps) := by
     have := HP.out
     rw [hend, Int.toNat_natCast, List.take_length] at this
     exact this
    have HP9 := Aside0.mk hP
    have HL9 : Aside0 ((keepPile t ps).length ≤ 1000000) := ⟨by have := keep_len t ps []; unfold keepPile; have h2 := HPZ.out.1; simp at this; omega⟩
    have hu : keepF t ps = (treeE (keepPile t ps), 0) := by unfold keepF; rw [if_pos HG.out]
    have HU := Aside0.mk hu
    clear hu hP hend
    go_wp2_with (first
     | (go_at_call 30; refine (Tree_calls W.heap.size g d1 d2 m (keepPile t ps) _ HP9.out HL9.out).mono ?_; rintro e w4 ⟨v, rfl, hN4, hb4⟩; have HN4 := Aside0.mk hN4; have HB4 := Aside0.mk hb4; obtain ⟨Av, cv, rfl⟩ := Kd.N_slice hN4; clear hN4 hb4)
     | fail)
    rw [← hQ.out, HU.out]
    exact ⟨_, rfl, Kd.V_lower (Kd.N_V (base' := W.heap.size) (Kd.N_mono HN4.out (fun k hk => by have := HB.out.size; omega))) (Nat.le_refl _), HB.out.trans (HB4.out.mono HB.out.size)⟩
theorem infoStrS : (Tryd.prog.info? 9).map (fun i => (i.zero, i.size, i.bytes)) = some (some (.string ⟨#[]⟩), 1, 16) := by kernel_rfl
def SRel (a b : List Node) (whole : Bool) (W : World) (i : Int) (v : Value) (wr : World) : Prop :=
 0 ≤ i ∧ i ≤ a.length ∧ Kd.R Kd.string 9 wr W.heap.size (fun _ => True) v (subPaths (a.take i.toNat) b whole) ∧ Below W.heap.size W wr
theorem sub_len (a b : List Node) (whole : Bool) : (subPaths a b whole).length ≤ a.length := by
 unfold subPaths
 rw [List.length_map]
 exact List.length_filter_le _ _
theorem sub_snoc (a b : List Node) (whole : Bool) (x : Node) : subPaths (a ++ [x]) b whole = subPaths a b whole ++ (if leftB b whole x = true then [x.f0] else []) := by
 unfold subPaths
 rw [List.filter_append, List.map_append]
 congr 1
 by_cases h : leftB b whole x = true
 ·rw [if_pos h, List.filter_cons_of_pos h]; rfl
 ·rw [if_neg h, List.filter_cons_of_neg h]; rfl
theorem node_box {w : World} {b : Nat} {t : TypeId} {x : Node} {v : Value} (h : w.heap[b]? = some (.cells (nodeCells x v) t (0, 0))) :
  w.cell? ⟨b, 0, none⟩ = some (.string x.f0) ∧ w.cell? ⟨b, 1, none⟩ = some (.string x.f1) ∧ w.cell? ⟨b, 2, none⟩ = some (.string x.f2) ∧ w.cell? ⟨b, 3, none⟩ = some (.int .u8 x.f3) ∧ w.cell? ⟨b, 4, none⟩ = some (.int .i64 x.f4.f0) ∧ w.cell? ⟨b, 5, none⟩ = some (.int .i64 x.f4.f1) ∧ w.cell? ⟨b, 6, none⟩ = some (.int .i64 x.f4.f2) ∧ w.cell? ⟨b, 7, none⟩ = some (.int .i64 x.f4.f3) ∧ w.cell? ⟨b, 8, none⟩ = some v := by
 refine ⟨?_, ?_, ?_, ?_, ?_, ?_, ?_, ?_, ?_⟩ <;> · unfold World.cell?; dsimp only; rw [h]; rfl
set_option maxRecDepth 100000 in
set_option maxHeartbeats 8000000 in
theorem Sub_calls (A0 : Option Addr) (c0 : Nat) (a : List Node) (A1 : Option Addr) (c1 : Nat) (b : List Node) (whole : Bool) (W : World) (hT : Tabs W) (hC : Kd.C k38 W A0 a.length a) (hc0 : a.length ≤ c0) (hD : Kd.C k38 W A1 b.length b) (hc1 : b.length ≤ c1) (hz : TreeZ a) (hzb : TreeZ b) :
  Calls Tryd.prog 38 #[.slice A0 a.length c0, .slice A1 b.length c1, .bool whole] W fun e W' => ∃ v, e = .returned (.tuple #[v, .int .i64 (subF a b whole).2]) ∧ Kd.V k38 38 W' W.heap.size (fun k => W.heap.size ≤ k) v (subF a b whole).1 ∧ Below W.heap.size W W' := by
 have HT := Aside0.mk (fun (w1 : World) (hb : Below W.heap.size W w1) => Tabs.below hT hb)
 have HTW := Aside0.mk hT
 have HC := Aside0.mk hC
 have HCC := Aside0.mk hc0
 have HD := Aside0.mk hD
 have HDC := Aside0.mk hc1
 have HZ := Aside0.mk hz
 have HZB := Aside0.mk hzb
 have hlen : (a.length : Int) ≤ 10000 := by have := hz.1; omega
 clear hT hC hc0 hD hc1 hz hzb
 generalize hpost : (fun (e : Ending) (W' : World) => ∃ v, e = .returned (.tuple #[v, .int .i64 (subF a b whole).2]) ∧ Kd.V k38 38 W' W.heap.size (fun k => W.heap.size ≤ k) v (subF a b whole).1 ∧ Below W.heap.size W W') = Q
 have hQ := Aside0.mk hpost
 clear hpost
 by_cases hgg : goodTree a = true ∧ goodTree b = true
 ·have HGA := Aside0.mk hgg.1
  have HGB := Aside0.mk hgg.2
  clear hgg
  go_enter Tryd.func38, Tryd.ntmps38
  go_wp2_with (first
   | (go_at_call_of 42 (Value.slice A0 a.length c0); refine (Good_calls A0 c0 a _ HTW.out HC.out HCC.out HZ.out.2).mono ?_; rintro e w2 ⟨rfl, hb2⟩; rw [HGA.out]; have HB2 := Aside0.mk hb2; clear hb2)
   | (go_at_call 42; refine (Good_calls A1 c1 b _ (HT.out _ HB2.out) (Kd.C_below HD.out HB2.out) HDC.out HZB.out.2).mono ?_; rintro e w3 ⟨rfl, hb3⟩; rw [HGB.out]; have HB3 := Aside0.mk (HB2.out.trans (hb3.mono HB2.out.size)); clear hb3)
   )
  have HST : Aside0 (SRel a b whole W 0 (.slice none 0 0) w3) := ⟨⟨by omega, by omega, Kd.R_nil _ _ _ _ _, HB3.out⟩⟩
  clear HB3 HB2
  go_loopw [23, 8] (fun i v wr => ∃ n : Int, i = .int .i64 n ∧ Aside0 (SRel a b whole W n v wr)) (fun i _ _ => (a.length - (intOf i)).toNat)
  case atStart => exact ⟨0, rfl, HST⟩
  case round =>
   obtain ⟨i, rfl, HR⟩ := hrel
   have h0 := HR.out.1
   have h1 := HR.out.2.1
   have hRv := HR.out.2.2.1
   have HB := Aside0.mk HR.out.2.2.2
   obtain ⟨Ap, cp, rfl⟩ := Kd.R_slice hRv
   have HRV := Aside0.mk hRv
   clear hRv
   by_cases hlt : i < (a.length : Int)
   ·have c1b : decide (i < (a.length : Int)) = true := decide_eq_true hlt
    have hil : i.toNat < a.length := by omega
    obtain ⟨ad, Ax, cx, rfl, x0, x1, x2, x3, x4, x5, x6, x7, x8, hlx, hCx⟩ := at_T38 (Kd.C_below HC.out HB.out) i h0 hlt
    have htk := List.take_succ_eq_append_getElem hil
    rw [← rdN_at a i h0 hlt] at htk
    generalize rd_T38 a i = x at htk x0 x1 x2 x3 x4 x5 x6 x7 x8 hlx hCx
    have HTK := Aside0.mk htk
    have HLX := Aside0.mk hlx
    have HCX := Aside0.mk hCx
    clear htk hlx hCx
    go_upto_region 7 with (fail)
    have f4 : ∃ w4 b4, w4 = wr.alloc (.cells #[.string x.f0, .string x.f1, .string x.f2, .int .u8 x.f3, .int .i64 x.f4.f0, .int .i64 x.f4.f1, .int .i64 x.f4.f2, .int .i64 x.f4.f3, .slice Ax x.f5.length cx] 38) ∧ b4 = wr.heap.size ∧ Below wr.heap.size wr w4 ∧ w4.heap[b4]? = some (.cells (nodeCells x (.slice Ax x.f5.length cx)) 38 (0, 0)) :=
     ⟨_, _, rfl, rfl, below_alloc (Below.refl _ _) _, blk_new _ _⟩
    obtain ⟨w4, b4, e4, eb4, hb4, hn4⟩ := f4
    rw [← e4, ← eb4]
    have HB4 := Aside0.mk hb4
    have HN4 := Aside0.mk hn4
    have HBW4 := Aside0.mk (HB.out.trans (hb4.mono HB.out.size))
    obtain ⟨k0, k1, k2, k3, k4, k5, k6, k7, k8⟩ := node_box hn4
    clear e4 eb4 hb4 hn4 x0 x1 x2 x3 x4 x5 x6 x7 x8
    cases hf : findF b x.f0 with
    | none =>
     have HF := Aside0.mk hf
     clear hf
     go_upto_region 8 with (first
      | (go_at_call 54; refine (Find_calls A1 c1 b x.f0 _ (Kd.C_below HD.out HBW4.out) (good_parts HGB.out).1 HZB.out.2.1).mono ?_; rintro e w5 ⟨y, b', v, hm, rfl, hR, hB5⟩; rw [HF.out] at hm; obtain ⟨rfl, rfl⟩ := hm; obtain ⟨A8, c8, rfl, hl8, hC8⟩ := Kd.R_reads hR; have HB5 := Aside0.mk hB5; clear hR hB5 hl8 hC8 k0 k1 k2 k3 k4 k5 k6 k7 k8; unfold nodeCells)
      | fail)
     generalize hw6 : World.alloc w5 _ = w6
     have hb6 : Below w5.heap.size w5 w6 := by rw [← hw6]; exact below_alloc (Below.refl _ _) _
     have HB6 := Aside0.mk (HB5.out.trans (hb6.mono HB5.out.size))
     clear hw6 hb6
     have hleft : leftB b whole x = true := by unfold leftB; rw [HF.out]
     have HLEFT := Aside0.mk hleft
     clear hleft
     obtain ⟨k0, k1, k2, k3, k4, k5, k6, k7, k8⟩ := node_box ((HB6.out.block b4 (blk_lt' HN4.out)).trans HN4.out)
     have HBW := Aside0.mk (HBW4.out.trans (HB6.out.mono HBW4.out.size))
     have hRw := Kd.R_below (Kd.R_below HRV.out HB4.out) HB6.out
     have hpl : (subPaths (a.take i.toNat) b whole).length ≤ 10000 := by have := sub_len (a.take i.toNat) b whole; have := HZ.out.1; rw [List.length_take] at *; omega
     generalize hpe : subPaths (a.take i.toNat) b whole = ps at hRw hpl ⊢
     have HRW := Aside0.mk hRw
     have HPE := Aside0.mk hpe
     have HPL := Aside0.mk hpl
     clear hRw hpe hpl
     go_wp2_with (first
      | (at_builtin; refine Kd.R_append Kd.string (w0 := W) (W := w6) W.heap.size rfl _ _ 67 9 (.string ⟨#[]⟩) 16 rfl Tryd.underlying67 infoStrS rfl (by decide) (by decide) (.slice Ap ps.length cp) ps x.f0 [.string x.f0] (fun _ => True) (fun _ => False) rfl rfl rfl (fun _ h => h.elim) (fun _ _ => trivial) HRW.out HBW.out HBW.out.size (by have := HPL.out; omega) ?_; intro v9 w9 hR9 hB9 hg9 hat9; have HR9 := Aside0.mk hR9; have HB9 := Aside0.mk hB9; clear hR9 hB9 hg9 hat9)
      | fail)
     have hfin : SRel a b whole W (i + 1) v9 w9 := by
      have e1 : (i + 1).toNat = i.toNat + 1 := by omega
      refine ⟨by omega, by omega, ?_, HB9.out⟩
      rw [e1, HTK.out, sub_snoc, if_pos HLEFT.out, HPE.out]
      exact HR9.out
     have HFIN := Aside0.mk hfin
     clear hfin
     go_roundw
     case rel => exact ⟨i + 1, by go_num, HFIN⟩
     case measure => simp [intOf]; omega
    | some y0 =>
     have HF := Aside0.mk hf
     clear hf
     go_upto_region 8 with (first
      | (go_at_call 54; refine (Find_calls A1 c1 b x.f0 _ (Kd.C_below HD.out HBW4.out) (good_parts HGB.out).1 HZB.out.2.1).mono ?_; rintro e w5 ⟨y, b', v, hm, rfl, hR, hB5⟩; rw [HF.out] at hm; obtain ⟨rfl, rfl⟩ := hm; obtain ⟨A8, c8, rfl, hl8, hC8⟩ := Kd.R_reads hR; have HB5 := Aside0.mk hB5; have HL8 := Aside0.mk hl8; have HC8 := Aside0.mk hC8; clear hR hB5 hl8 hC8 k0 k1 k2 k3 k4 k5 k6 k7 k8; unfold nodeCells)
      | fail)
     have f6 : ∃ w6 b6, w6 = w5.alloc (.cells #[.string y.f0, .string y.f1, .string y.f2, .int .u8 y.f3, .int .i64 y.f4.f0, .int .i64 y.f4.f1, .int .i64 y.f4.f2, .int .i64 y.f4.f3, .slice A8 y.f5.length c8] 38) ∧ b6 = w5.heap.size ∧ Below w5.heap.size w5 w6 ∧ w6.heap[b6]? = some (.cells (nodeCells y (.slice A8 y.f5.length c8)) 38 (0, 0)) :=
      ⟨_, _, rfl, rfl, below_alloc (Below.refl _ _) _, blk_new _ _⟩
     obtain ⟨w6, b6, e6, eb6, hb6, hn6⟩ := f6
     rw [← e6, ← eb6]
     have HB6 := Aside0.mk (HB5.out.trans (hb6.mono HB5.out.size))
     have HB56 := Aside0.mk hb6
     have HN6 := Aside0.mk hn6
     clear e6 eb6 hb6 hn6
     cases whole with
     | false =>
      have hleft : leftB b false x = false := by unfold leftB; rw [HF.out]; rfl
      have HLEFT := Aside0.mk hleft
      clear hleft
      go_wp2
      have hfin : SRel a b false W (i + 1) (.slice Ap (subPaths (a.take i.toNat) b false).length cp) w6 := by
       have e1 : (i + 1).toNat = i.toNat + 1 := by omega
       refine ⟨by omega, by omega, ?_, HBW4.out.trans (HB6.out.mono HBW4.out.size)⟩
       rw [e1, HTK.out, sub_snoc, if_neg (by rw [HLEFT.out]; simp), List.append_nil]
       exact Kd.R_below (Kd.R_below HRV.out HB4.out) HB6.out
      have HFIN := Aside0.mk hfin
      clear hfin
      go_roundw
      case rel => exact ⟨i + 1, by go_num, HFIN⟩
      case measure => simp [intOf]; omega
     | true =>
      obtain ⟨y0, y1, y2, y3, y4, y5, y6, y7, y8⟩ := node_box HN6.out
      obtain ⟨k0, k1, k2, k3, k4, k5, k6, k7, k8⟩ := node_box ((HB6.out.block b4 (blk_lt' HN4.out)).trans HN4.out)
      cases heq : equalB x y with
      | true =>
       have hleft : leftB b true x = false := by unfold leftB; rw [HF.out]; show (true && !equalB x y) = false; rw [heq]; rfl
       have HEQ := Aside0.mk heq
       clear heq
       have HLEFT := Aside0.mk hleft
       clear hleft
       go_wp2_with (first
        | (go_at_call 55; refine (tree_Equal.calls x.f0 x.f1 x.f2 x.f3 x.f4.f0 x.f4.f1 x.f4.f2 x.f4.f3 Ax cx x.f5 y.f0 y.f1 y.f2 y.f3 y.f4.f0 y.f4.f1 y.f4.f2 y.f4.f3 A8 c8 y.f5 (equalB x y) _ (Kd.C_below (Kd.C_below HCX.out HB4.out) HB6.out) HLX.out (Kd.C_below HC8.out HB56.out) HL8.out (tequal_f x y)).mono ?_; rintro e w7 ⟨rfl, hb7⟩; rw [HEQ.out]; have HB7 := Aside0.mk (HB6.out.trans (hb7.mono HB6.out.size)); clear hb7 k0 k1 k2 k3 k4 k5 k6 k7 k8 y0 y1 y2 y3 y4 y5 y6 y7 y8)
        | fail)
       have hfin : SRel a b true W (i + 1) (.slice Ap (subPaths (a.take i.toNat) b true).length cp) w7 := by
        have e1 : (i + 1).toNat = i.toNat + 1 := by omega
        refine ⟨by omega, by omega, ?_, HBW4.out.trans (HB7.out.mono HBW4.out.size)⟩
        rw [e1, HTK.out, sub_snoc, if_neg (by rw [HLEFT.out]; simp), List.append_nil]
        exact Kd.R_below (Kd.R_below HRV.out HB4.out) HB7.out
       have HFIN := Aside0.mk hfin
       clear hfin
       go_roundw
       case rel => exact ⟨i + 1, by go_num, HFIN⟩
       case measure => simp [intOf]; omega
      | false =>
       have hleft : leftB b true x = true := by unfold leftB; rw [HF.out]; show (true && !equalB x y) = true; rw [heq]; rfl
       have HEQ := Aside0.mk heq
       clear heq
       have HLEFT := Aside0.mk hleft
       clear hleft
       go_upto_region 9 with (first
        | (go_at_call 55; refine (tree_Equal.calls x.f0 x.f1 x.f2 x.f3 x.f4.f0 x.f4.f1 x.f4.f2 x.f4.f3 Ax cx x.f5 y.f0 y.f1 y.f2 y.f3 y.f4.f0 y.f4.f1 y.f4.f2 y.f4.f3 A8 c8 y.f5 (equalB x y) _ (Kd.C_below (Kd.C_below HCX.out HB4.out) HB6.out) HLX.out (Kd.C_below HC8.out HB56.out) HL8.out (tequal_f x y)).mono ?_; rintro e w7 ⟨rfl, hb7⟩; rw [HEQ.out]; have HB7 := Aside0.mk (HB6.out.trans (hb7.mono HB6.out.size)); clear hb7 k0 k1 k2 k3 k4 k5 k6 k7 k8 y0 y1 y2 y3 y4 y5 y6 y7 y8)
        | fail)
       obtain ⟨k0, k1, k2, k3, k4, k5, k6, k7, k8⟩ := node_box ((HB7.out.block b4 (blk_lt' HN4.out)).trans HN4.out)
       have HBW := Aside0.mk (HBW4.out.trans (HB7.out.mono HBW4.out.size))
       have hRw := Kd.R_below (Kd.R_below HRV.out HB4.out) HB7.out
       have hpl : (subPaths (a.take i.toNat) b true).length ≤ 10000 := by have := sub_len (a.take i.toNat) b true; have := HZ.out.1; rw [List.length_take] at *; omega
       generalize hpe : subPaths (a.take i.toNat) b true = ps at hRw hpl ⊢
       have HRW := Aside0.mk hRw
       have HPE := Aside0.mk hpe
       have HPL := Aside0.mk hpl
       clear hRw hpe hpl
       go_wp2_with (first
        | (at_builtin; refine Kd.R_append Kd.string (w0 := W) (W := w7) W.heap.size rfl _ _ 67 9 (.string ⟨#[]⟩) 16 rfl Tryd.underlying67 infoStrS rfl (by decide) (by decide) (.slice Ap ps.length cp) ps x.f0 [.string x.f0] (fun _ => True) (fun _ => False) rfl rfl rfl (fun _ h => h.elim) (fun _ _ => trivial) HRW.out HBW.out HBW.out.size (by have := HPL.out; omega) ?_; intro v9 w9 hR9 hB9 hg9 hat9; have HR9 := Aside0.mk hR9; have HB9 := Aside0.mk hB9; clear hR9 hB9 hg9 hat9)
        | fail)
       have hfin : SRel a b true W (i + 1) v9 w9 := by
        have e1 : (i + 1).toNat = i.toNat + 1 := by omega
        refine ⟨by omega, by omega, ?_, HB9.out⟩
        rw [e1, HTK.out, sub_snoc, if_pos HLEFT.out, HPE.out]
        exact HR9.out
       have HFIN := Aside0.mk hfin
       clear hfin
       go_roundw
       case rel => exact ⟨i + 1, by go_num, HFIN⟩
       case measure => simp [intOf]; omega
   ·have c1b : decide (i < (a.length : Int)) = false := decide_eq_false hlt
    have hend : i = a.length := by omega
    have hR9 : Kd.R Kd.string 9 wr W.heap.size (fun _ => True) (.slice Ap (subPaths (a.take i.toNat) b whole).length cp) (subPaths a b whole) := by
     have := HRV.out
     rw [hend, Int.toNat_natCast, List.take_length] at this ⊢
     exact this
    have hpe : (subPaths (a.take i.toNat) b whole).length = (subPaths a b whole).length := by rw [hend, Int.toNat_natCast, List.take_length]
    rw [hpe] at hR9 ⊢
    obtain ⟨_, hcp, hCp⟩ := Kd.R_reads' hR9
    have hpz : PathsZ (subPaths a b whole) := ⟨by have := sub_len a b whole; have := HZ.out.1; omega, fun p hp => by
     unfold subPaths at hp
     obtain ⟨z, hz, rfl⟩ := List.mem_map.1 hp
     exact (HZ.out.2.1.2 z (List.mem_filter.1 hz).1).1⟩
    have HCP := Aside0.mk hCp
    have HPZ := Aside0.mk hpz
    have hu : subF a b whole = keepF a (subPaths a b whole) := by unfold subF; rw [if_pos ⟨HGA.out, HGB.out⟩]
    have HU := Aside0.mk hu
    clear hR9 hpe hcp hCp hpz hu hend
    generalize subPaths a b whole = ps at HCP HPZ HU ⊢
    go_wp2_with (first
     | (go_at_call 36; refine (Keep_calls A0 c0 a Ap cp ps _ (HT.out _ HB.out) (Kd.C_below HC.out HB.out) HCC.out HCP.out HZ.out HPZ.out).mono ?_; rintro e w4 ⟨v, rfl, hV4, hb4⟩; have HV4 := Aside0.mk hV4; have HB4 := Aside0.mk hb4; obtain ⟨Av, cv, rfl⟩ := Kd.V_slice hV4; clear hV4 hb4)
     | fail)
    rw [← hQ.out, HU.out]
    exact ⟨_, rfl, Kd.V_lower (Kd.V_mono HV4.out (fun k hk => Nat.le_trans HB.out.size hk)) HB.out.size, HB.out.trans (HB4.out.mono HB.out.size)⟩
 ·have HGG := Aside0.mk hgg
  have hu : subF a b whole = ([], 1) := by unfold subF; rw [if_neg hgg]
  have HU := Aside0.mk hu
  clear hgg hu
  cases hga : goodTree a with
  | false =>
   have HGA := Aside0.mk hga
   clear hga
   go_enter Tryd.func38, Tryd.ntmps38
   go_wp2_with (first
    | (go_at_call 42; refine (Good_calls A0 c0 a _ HTW.out HC.out HCC.out HZ.out.2).mono ?_; rintro e w2 ⟨rfl, hb2⟩; rw [HGA.out]; have HB2 := Aside0.mk hb2; clear hb2)
    | fail)
   rw [← hQ.out, HU.out]
   exact ⟨_, rfl, Kd.V_nil _ _ _ _ _, HB2.out⟩
  | true =>
   have HGA := Aside0.mk hga
   have HGB : Aside0 (goodTree b = false) := ⟨by cases hb : goodTree b with
    | false => rfl
    | true => exact absurd ⟨HGA.out, hb⟩ HGG.out⟩
   clear hga
   go_enter Tryd.func38, Tryd.ntmps38
   go_wp2_with (first
    | (go_at_call_of 42 (Value.slice A0 a.length c0); refine (Good_calls A0 c0 a _ HTW.out HC.out HCC.out HZ.out.2).mono ?_; rintro e w2 ⟨rfl, hb2⟩; rw [HGA.out]; have HB2 := Aside0.mk hb2; clear hb2)
    | (go_at_call 42; refine (Good_calls A1 c1 b _ (HT.out _ HB2.out) (Kd.C_below HD.out HB2.out) HDC.out HZB.out.2).mono ?_; rintro e w3 ⟨rfl, hb3⟩; rw [HGB.out]; have HB3 := Aside0.mk (HB2.out.trans (hb3.mono HB2.out.size)); clear hb3)
    | fail)
   rw [← hQ.out, HU.out]
   exact ⟨_, rfl, Kd.V_nil _ _ _ _ _, HB3.out⟩
end Go.Proofs.YtfmphccoeinhcaaDoor

namespace Go.Proofs.YtfmphccoeinhcaaDoor
open Go.RowKit Go.Proofs.YtfmphccoeinhcaaDoor.Print Go.Proofs.YtfmphccoeinhcaaDoorW.PrintWords
set_option linter.unusedVariables false
def NodeG (x : Node) : Prop := NodeZ x ∧ x.f0.size ≤ 8000000000000 ∧ x.f1.size ≤ 8000000000000
theorem TreeZ.node {t : List Node} (h : TreeZ t) {x : Node} (hx : x ∈ t) : NodeG x := ⟨h.2.1.2 x hx, h.2.2 x hx⟩
theorem equalB_same (x : Node) : equalB x x = true := by unfold equalB; simp
structure PartsOk (a b : List Node) (w : Bool) (left gone both : List Node) : Prop where
 lens : left.length + gone.length = a.length
 len : both.length = a.length
 each : ∀ (i : Nat) (h : i < a.length) (h2 : i < both.length), equalB a[i] both[i] = true
theorem sub_self {a : List Node} (ga : goodTree a = true) (w : Bool) : (subF a a w).1 = [] := by
 have e : subPaths a a w = [] := by
  unfold subPaths
  rw [List.map_eq_nil_iff, List.filter_eq_nil_iff]
  intro x hx
  unfold leftB
  rw [findF_here (good_parts ga).1 hx]
  simp [equalB_same]
 unfold subF
 rw [if_pos ⟨ga, ga⟩, e]
 unfold keepF
 rw [if_pos ga]
 rfl
end Go.Proofs.YtfmphccoeinhcaaDoor

namespace Go.Proofs.YtfmphccoeinhcaaDoor
open Go.RowKit Go.Proofs.YtfmphccoeinhcaaDoor.Print Go.Proofs.YtfmphccoeinhcaaDoorW.PrintWords
set_option linter.unusedVariables false
abbrev Cls := S60
def insR (x : Cls) (acc : List Cls) : List Cls := (acc.reverse.dropWhile (fun y => lt x.f0.f0 y.f0.f0)).reverse ++ x :: (acc.reverse.takeWhile (fun y => lt x.f0.f0 y.f0.f0)).reverse
def sortC (l : List Cls) : List Cls := l.foldl (fun acc x => insR x acc) []
theorem insR_at (x : Cls) (a b : List Cls) (hb : ∀ y ∈ b, lt x.f0.f0 y.f0.f0 = true) (ha : ∀ y, a.getLast? = some y → lt x.f0.f0 y.f0.f0 = false) : insR x (a ++ b) = a ++ x :: b := by
 unfold insR
 rw [List.reverse_append]
 have h1 : ∀ y ∈ b.reverse, lt x.f0.f0 y.f0.f0 = true := fun y hy => hb y (List.mem_reverse.1 hy)
 have h2 : a.reverse.takeWhile (fun y => lt x.f0.f0 y.f0.f0) = [] ∧ a.reverse.dropWhile (fun y => lt x.f0.f0 y.f0.f0) = a.reverse := by
  cases hr : a.reverse with
  | nil => exact ⟨rfl, rfl⟩
  | cons z r =>
   have hz : a.getLast? = some z := by rw [← List.head?_reverse, hr]; rfl
   have := ha z hz
   rw [List.takeWhile_cons, List.dropWhile_cons, this]
   exact ⟨rfl, rfl⟩
 have h3 : ∀ (u v : List Cls), (∀ y ∈ u, lt x.f0.f0 y.f0.f0 = true) → (u ++ v).takeWhile (fun y => lt x.f0.f0 y.f0.f0) = u ++ v.takeWhile (fun y => lt x.f0.f0 y.f0.f0) ∧ (u ++ v).dropWhile (fun y => lt x.f0.f0 y.f0.f0) = v.dropWhile (fun y => lt x.f0.f0 y.f0.f0) := by
  intro u v hu
  induction u with
  | nil => exact ⟨rfl, rfl⟩
  | cons w u ih =>
   have hw := hu w List.mem_cons_self
   obtain ⟨i1, i2⟩ := ih (fun y hy => hu y (List.mem_cons_of_mem _ hy))
   exact ⟨by simp only [List.cons_append, List.takeWhile_cons, hw, if_true, i1], by simp only [List.cons_append, List.dropWhile_cons, hw, if_true, i2]⟩
 obtain ⟨h4, h5⟩ := h3 b.reverse a.reverse h1
 rw [h4, h5, h2.1, h2.2, List.append_nil, List.reverse_reverse, List.reverse_reverse]
def leadC (s : List Cls) (i : Nat) (x : Cls) : ByteArray := if x.f0.f3 = 48 then (match (s.take (i + 1)).find? (fun y => decide (y.f0.f3 = 48 ∧ y.f1 = x.f1)) with
 | some y => y.f0.f0
 | none => emp) else emp
def outC (s : List Cls) (i : Nat) (x : Cls) : Node := ⟨x.f0.f0, x.f0.f1, leadC s i x, x.f0.f3, x.f0.f4, x.f0.f5⟩
def sortedF (l : List Cls) : List Node := (sortC l).mapIdx (fun i x => outC (sortC l) i x)
theorem insR_perm (x : Cls) (acc : List Cls) : (insR x acc).Perm (x :: acc) := by
 unfold insR
 refine List.perm_middle.trans (List.Perm.cons x ?_)
 rw [← List.reverse_append]
 have : acc.reverse.takeWhile (fun y => lt x.f0.f0 y.f0.f0) ++ acc.reverse.dropWhile (fun y => lt x.f0.f0 y.f0.f0) = acc.reverse := List.takeWhile_append_dropWhile
 rw [this, List.reverse_reverse]
theorem sortC_from (l acc : List Cls) : (l.foldl (fun acc x => insR x acc) acc).Perm (acc ++ l) := by
 induction l generalizing acc with
 | nil => rw [List.append_nil]; exact List.Perm.refl _
 | cons x l ih =>
  rw [List.foldl_cons]
  refine (ih _).trans ?_
  refine ((insR_perm x acc).append_right l).trans ?_
  exact List.perm_middle.symm
theorem sortC_perm (l : List Cls) : (sortC l).Perm l := sortC_from l []
def RiseC (s : List Cls) : Prop := s.Pairwise (fun a b => lt a.f0.f0 b.f0.f0 = true)
theorem insR_rise {x : Cls} {acc : List Cls} (h : RiseC acc) (hx : ∀ y ∈ acc, y.f0.f0 ≠ x.f0.f0) : RiseC (insR x acc) := by
 obtain ⟨a, b, hab, hb, ha⟩ : ∃ a b, acc = a ++ b ∧ (∀ y ∈ b, lt x.f0.f0 y.f0.f0 = true) ∧ (∀ y, a.getLast? = some y → lt x.f0.f0 y.f0.f0 = false) := by
  refine ⟨(acc.reverse.dropWhile (fun y => lt x.f0.f0 y.f0.f0)).reverse, (acc.reverse.takeWhile (fun y => lt x.f0.f0 y.f0.f0)).reverse, ?_, fun y hy => ?_, fun y hy => ?_⟩
  ·rw [← List.reverse_append, List.takeWhile_append_dropWhile, List.reverse_reverse]
  ·rw [List.mem_reverse] at hy
   have h1 := List.all_takeWhile (l := acc.reverse) (p := fun y => lt x.f0.f0 y.f0.f0)
   rw [List.all_eq_true] at h1
   exact h1 y hy
  ·rw [List.getLast?_reverse] at hy
   have := List.head?_dropWhile_not (fun y => lt x.f0.f0 y.f0.f0) acc.reverse
   rw [hy] at this
   simpa using this
 subst hab
 rw [insR_at x a b hb ha]
 unfold RiseC at h ⊢
 rw [List.pairwise_append] at h ⊢
 refine ⟨h.1, List.pairwise_cons.2 ⟨hb, h.2.1⟩, fun y hy z hz => ?_⟩
 have hyx : lt y.f0.f0 x.f0.f0 = true := by
  -- the last one of a is not behind x; y is not behind the last one
  obtain ⟨w, hw⟩ : ∃ w, a.getLast? = some w := by
   cases hl : a.getLast? with
   | some w => exact ⟨w, rfl⟩
   | none => rw [List.getLast?_eq_none_iff] at hl; subst hl; cases hy
  have h1 := ha w hw
  have hwm : w ∈ a := List.mem_of_getLast? hw
  have h2 : lt w.f0.f0 x.f0.f0 = true := by
   rcases lt_tri w.f0.f0 x.f0.f0 with h | h | h
   ·exact h
   ·exact absurd (ba_ext h) (hx w (List.mem_append_left _ hwm))
   ·rw [h1] at h; cases h
  by_cases e : y = w
  ·rw [e]; exact h2
  ·refine lt_trans ?_ h2
   have h3 := h.1
   obtain ⟨ini, hini⟩ : ∃ ini, a = ini ++ [w] := (by rw [List.getLast?_eq_some_iff] at hw; exact hw)
   rw [hini] at h3 hy
   rw [List.pairwise_append] at h3
   rcases List.mem_append.1 hy with h4 | h4
   ·exact h3.2.2 y h4 w (by simp)
   ·rw [List.mem_singleton] at h4; exact absurd h4 e
 rcases List.mem_cons.1 hz with rfl | hz
 ·exact hyx
 ·exact h.2.2 y hy z hz
theorem sortC_rise_from {l acc : List Cls} (h : RiseC acc) (hn : ((acc ++ l).map (fun x => x.f0.f0)).Nodup) : RiseC (l.foldl (fun acc x => insR x acc) acc) := by
 induction l generalizing acc with
 | nil => exact h
 | cons x l ih =>
  rw [List.foldl_cons]
  have h1 : ∀ y ∈ acc, y.f0.f0 ≠ x.f0.f0 := by
   intro y hy e
   rw [List.map_append, List.nodup_append] at hn
   exact hn.2.2 _ (List.mem_map.2 ⟨y, hy, rfl⟩) _ (List.mem_map.2 ⟨x, List.mem_cons_self, rfl⟩) e
  refine ih (insR_rise h h1) ?_
  refine (List.Perm.nodup_iff ?_).1 hn
  refine List.Perm.map _ ?_
  refine List.perm_middle.trans ?_
  exact ((insR_perm x acc).append_right l).symm
theorem sortC_rise {l : List Cls} (hn : (l.map (fun x => x.f0.f0)).Nodup) : RiseC (sortC l) := sortC_rise_from List.Pairwise.nil hn
end Go.Proofs.YtfmphccoeinhcaaDoor

namespace Go.Proofs.YtfmphccoeinhcaaDoor
open Go.RowKit Go.Proofs.YtfmphccoeinhcaaDoor.Print Go.Proofs.YtfmphccoeinhcaaDoorW.PrintWords
set_option linter.unusedVariables false
def toE (c : Cls) : PEnt := ⟨c.f0.f0, ⟨c.f0.f0, c.f0.f1, emp, c.f0.f3, c.f0.f4, c.f0.f5⟩, c.f1⟩
theorem find_take {α : Type} (p : α → Bool) {s : List α} {i : Nat} (hi : i < s.length) (h : p s[i] = true) : (s.take (i + 1)).find? p = s.find? p := by
 have hm : s[i] ∈ s.take (i + 1) := by
  rw [List.take_succ_eq_append_getElem hi]
  exact List.mem_append_right _ (List.mem_singleton.2 rfl)
 conv => rhs; rw [← List.take_append_drop (i + 1) s, List.find?_append]
 cases hf : (s.take (i + 1)).find? p with
 | none => exact absurd h (by have := List.find?_eq_none.1 hf _ hm; simpa using this)
 | some y => rfl
theorem rise_toE {s : List Cls} (h : RiseC s) : RiseE (s.map toE) := List.pairwise_map.2 h
theorem nodup_toE {l : List Cls} (h : (l.map (fun x => x.f0.f0)).Nodup) : NodupE (l.map toE) := by
 unfold NodupE
 rw [List.map_map]
 exact h
theorem sortC_toE {l : List Cls} (hn : (l.map (fun x => x.f0.f0)).Nodup) : (sortC l).map toE = sortE (l.map toE) := by
 refine riseE_unique (rise_toE (sortC_rise hn)) (sortE_rise (nodup_toE hn)) (fun e => ?_)
 rw [sortE_mem]
 exact ((sortC_perm l).map toE).mem_iff
theorem lead_toE {s : List Cls} {i : Nat} (hi : i < s.length) : outC s i s[i] = outE (s.map toE) (toE s[i]) := by
 have hl : leadC s i s[i] = if s[i].f0.f3 = 48 then leadE (s.map toE) (toE s[i]) else emp := by
  unfold leadC
  by_cases h48 : s[i].f0.f3 = 48
  ·rw [if_pos h48, if_pos h48, find_take (fun y => decide (y.f0.f3 = 48 ∧ y.f1 = s[i].f1)) hi (by simp [h48])]
   unfold leadE
   rw [List.find?_map]
   have : (oneE (toE s[i]) ∘ toE) = (fun y : Cls => decide (y.f0.f3 = 48 ∧ y.f1 = s[i].f1)) := by
    funext y
    unfold oneE toE
    simp
   rw [this]
   cases s.find? (fun y => decide (y.f0.f3 = 48 ∧ y.f1 = s[i].f1)) <;> rfl
  ·rw [if_neg h48, if_neg h48]
 unfold outC
 rw [hl]
 rfl
theorem sortedF_tree {l : List Cls} (hn : (l.map (fun x => x.f0.f0)).Nodup) : sortedF l = treeE (l.map toE) := by
 unfold sortedF treeE
 rw [← sortC_toE hn]
 generalize sortC l = s
 refine List.ext_getElem (by simp) (fun i h1 h2 => ?_)
 rw [List.getElem_mapIdx, List.getElem_map, List.getElem_map]
 exact lead_toE _
theorem insE_map {g : PEnt → PEnt} (hp : ∀ e, (g e).path = e.path) (q : PEnt) (s : PL) : insE (g q) (s.map g) = (insE q s).map g := by
 induction s with
 | nil => rfl
 | cons r s ih =>
  simp only [List.map_cons, insE, hp, ih]
  split <;> rfl
theorem sortE_map {g : PEnt → PEnt} (hp : ∀ e, (g e).path = e.path) (s : PL) : sortE (s.map g) = (sortE s).map g := by
 induction s with
 | nil => rfl
 | cons r s ih =>
  have h1 : sortE (r :: s) = insE r (sortE s) := rfl
  have h2 : sortE ((r :: s).map g) = insE (g r) (sortE (s.map g)) := rfl
  rw [h1, h2, ih, insE_map hp]
structure Renames (g : PEnt → PEnt) (s : PL) : Prop where
 path : ∀ e, (g e).path = e.path
 node : ∀ e ∈ s, (g e).node.f1 = e.node.f1 ∧ (g e).node.f3 = e.node.f3 ∧ (g e).node.f4 = e.node.f4 ∧ (g e).node.f5 = e.node.f5
 bare : ∀ e ∈ s, ¬ e.node.f3 = 48 → (g e).node.f2 = e.node.f2
 one : ∀ e ∈ s, ∀ q ∈ s, e.node.f3 = 48 → q.node.f3 = 48 → (((g q).tree = (g e).tree ∧ (g q).node.f2 = (g e).node.f2) ↔ (q.tree = e.tree ∧ q.node.f2 = e.node.f2))
theorem find_congr {α : Type} {p q : α → Bool} : ∀ {s : List α}, (∀ x ∈ s, p x = q x) → s.find? p = s.find? q
 | [], _ => rfl
 | a :: s, h => by
  rw [List.find?_cons, List.find?_cons, h a List.mem_cons_self, find_congr (fun x hx => h x (List.mem_cons_of_mem _ hx))]
end Go.Proofs.YtfmphccoeinhcaaDoor

namespace Go.Proofs.YtfmphccoeinhcaaDoor.Print
open Go.RowKit Go.Proofs.YtfmphccoeinhcaaDoorW.PrintWords Go.Proofs.YtfmphccoeinhcaaDoorW.PrintLast Go.Proofs.YtfmphccoeinhcaaDoorW.PrintMore
set_option linter.unusedVariables false
structure S57 where
 f0 : Int
 f1 : S38
 f2 : ByteArray
def z57 : S57 := ⟨(0 : Int), z38, ⟨#[]⟩⟩
def k57 : Kd S57 := Kd.iso (Kd.pair (Kd.int .i64) (Kd.pair k38 Kd.string)) (fun x : S57 => (x.f0, x.f1, x.f2))
theorem k57_heap : Kd.Heap k57 := Kd.heap_iso _ (Kd.heap_pair (Kd.heap_int .i64) (Kd.heap_pair k38_heap Kd.heap_string))
theorem k57_open {w : World} {x : S57} {cs : List Value} (h : k57.K w x cs) : ∃ A8 c8, cs = [.int .i64 x.f0, .string x.f1.f0, .string x.f1.f1, .string x.f1.f2, .int .u8 x.f1.f3, .int .i64 x.f1.f4.f0, .int .i64 x.f1.f4.f1, .int .i64 x.f1.f4.f2, .int .i64 x.f1.f4.f3, .slice A8 x.f1.f5.length c8, .string x.f2] ∧ x.f1.f5.length ≤ c8 ∧ (Kd.int .u8).C w A8 x.f1.f5.length x.f1.f5 := by
 obtain ⟨_, _, rfl, rfl, _, _, rfl, s0, rfl⟩ := h
 obtain ⟨A8, c8, rfl, l8, g8⟩ := k38_open s0
 exact ⟨A8, c8, rfl, l8, g8⟩
def rd_T57 (xs : List S57) (i : Int) : S57 := xs.getD i.toNat z57
theorem at_T57 {w : World} {A : Option Addr} {n : Nat} {xs : List S57} (h : Kd.C k57 w A n xs) (i : Int) (h0 : 0 ≤ i) (h1 : i < n) : ∃ ad A8 c8, A = some ad ∧ w.cell? (ad.add (i.toNat * 11)) = some (.int .i64 (rd_T57 xs i).f0) ∧ w.cell? ⟨(ad.add (i.toNat * 11)).block, (ad.add (i.toNat * 11)).off + 1, none⟩ = some (.string (rd_T57 xs i).f1.f0) ∧ w.cell? ⟨(ad.add (i.toNat * 11)).block, (ad.add (i.toNat * 11)).off + 2, none⟩ = some (.string (rd_T57 xs i).f1.f1) ∧ w.cell? ⟨(ad.add (i.toNat * 11)).block, (ad.add (i.toNat * 11)).off + 3, none⟩ = some (.string (rd_T57 xs i).f1.f2) ∧ w.cell? ⟨(ad.add (i.toNat * 11)).block, (ad.add (i.toNat * 11)).off + 4, none⟩ = some (.int .u8 (rd_T57 xs i).f1.f3) ∧ w.cell? ⟨(ad.add (i.toNat * 11)).block, (ad.add (i.toNat * 11)).off + 5, none⟩ = some (.int .i64 (rd_T57 xs i).f1.f4.f0) ∧ w.cell? ⟨(ad.add (i.toNat * 11)).block, (ad.add (i.toNat * 11)).off + 6, none⟩ = some (.int .i64 (rd_T57 xs i).f1.f4.f1) ∧ w.cell? ⟨(ad.add (i.toNat * 11)).block, (ad.add (i.toNat * 11)).off + 7, none⟩ = some (.int .i64 (rd_T57 xs i).f1.f4.f2) ∧ w.cell? ⟨(ad.add (i.toNat * 11)).block, (ad.add (i.toNat * 11)).off + 8, none⟩ = some (.int .i64 (rd_T57 xs i).f1.f4.f3) ∧ w.cell? ⟨(ad.add (i.toNat * 11)).block, (ad.add (i.toNat * 11)).off + 9, none⟩ = some (.slice A8 (rd_T57 xs i).f1.f5.length c8) ∧ w.cell? ⟨(ad.add (i.toNat * 11)).block, (ad.add (i.toNat * 11)).off + 10, none⟩ = some (.string (rd_T57 xs i).f2) ∧ (rd_T57 xs i).f1.f5.length ≤ c8 ∧ (Kd.int .u8).C w A8 (rd_T57 xs i).f1.f5.length (rd_T57 xs i).f1.f5 := by
 obtain ⟨ad, c, e, _, hK, hc0⟩ := Kd.C_get h z57 i h0 h1
 have hc : ∀ j u, c[j]? = some u → w.cell? (ad.add (i.toNat * 11 + j)) = some u := hc0
 obtain ⟨A8, c8, rfl, l8, g8⟩ := k57_open hK
 exact ⟨ad, A8, c8, e, hc 0 _ rfl, by rw [← add_field _ _ 1 (by omega)]; exact hc 1 _ rfl, by rw [← add_field _ _ 2 (by omega)]; exact hc 2 _ rfl, by rw [← add_field _ _ 3 (by omega)]; exact hc 3 _ rfl, by rw [← add_field _ _ 4 (by omega)]; exact hc 4 _ rfl, by rw [← add_field _ _ 5 (by omega)]; exact hc 5 _ rfl, by rw [← add_field _ _ 6 (by omega)]; exact hc 6 _ rfl, by rw [← add_field _ _ 7 (by omega)]; exact hc 7 _ rfl, by rw [← add_field _ _ 8 (by omega)]; exact hc 8 _ rfl, by rw [← add_field _ _ 9 (by omega)]; exact hc 9 _ rfl, by rw [← add_field _ _ 10 (by omega)]; exact hc 10 _ rfl, l8, g8⟩
end Go.Proofs.YtfmphccoeinhcaaDoor.Print

namespace Go.Proofs.YtfmphccoeinhcaaDoor
open Go.RowKit Go.Proofs.YtfmphccoeinhcaaDoor.Print Go.Proofs.YtfmphccoeinhcaaDoorW.PrintWords
set_option linter.unusedVariables false
abbrev PutR := S57
def entR (r : PutR) : PEnt := ⟨r.f2, r.f1, r.f0⟩
def pileR (l : List PutR) : PL := l.foldl (fun s r => putE s (entR r)) []
def firstIx (l : List PutR) (n : Int) (ld : ByteArray) : Nat := l.findIdx (fun q => decide (q.f0 = n ∧ q.f1.f2.toList = ld.toList))
def hC (l : List PutR) (e : PEnt) : Cls := ⟨⟨e.path, e.node.f1, e.node.f2, e.node.f3, e.node.f4, e.node.f5⟩, (firstIx l e.tree e.node.f2 : Int)⟩
def clsR (l : List PutR) (i : Nat) : List Cls := (pileR (l.take i)).map (hC l)
theorem pileR_succ {l : List PutR} {i : Nat} (hi : i < l.length) : pileR (l.take (i + 1)) = putE (pileR (l.take i)) (entR l[i]) := by
 unfold pileR
 rw [List.take_succ_eq_append_getElem hi, List.foldl_append]
 rfl
theorem clsR_succ {l : List PutR} {i : Nat} (hi : i < l.length) : clsR l (i + 1) = (clsR l i).filter (fun y => !decide (y.f0.f0.toList = l[i].f2.toList)) ++ [hC l (entR l[i])] := by
 unfold clsR
 rw [pileR_succ hi]
 unfold putE
 rw [List.map_append, List.filter_map]
 rfl
theorem pileR_nodup_from (l : List PutR) : ∀ {s : PL}, NodupE s → NodupE (l.foldl (fun s r => putE s (entR r)) s) := by
 induction l with
 | nil => intro s h; exact h
 | cons r l ih => intro s h; exact ih (putE_nodup h _)
theorem pileR_nodup (l : List PutR) : NodupE (pileR l) := pileR_nodup_from l (s := []) List.nodup_nil
theorem pileR_mem_from (l : List PutR) : ∀ {s : PL} {e : PEnt}, e ∈ l.foldl (fun s r => putE s (entR r)) s → e ∈ s ∨ ∃ r ∈ l, e = entR r := by
 induction l with
 | nil => intro s e h; exact .inl h
 | cons r l ih =>
  intro s e h
  rcases ih h with h | ⟨q, hq, rfl⟩
  ·rcases putE_sub h with ⟨h, _⟩ | rfl
   ·exact .inl h
   ·exact .inr ⟨r, List.mem_cons_self, rfl⟩
  ·exact .inr ⟨q, List.mem_cons_of_mem _ hq, rfl⟩
theorem pileR_mem {l : List PutR} {e : PEnt} (h : e ∈ pileR l) : ∃ r ∈ l, e = entR r := by
 rcases pileR_mem_from l h with h | h
 ·cases h
 ·exact h
theorem pileR_len (l : List PutR) : (pileR l).length ≤ l.length := by
 have : ∀ (l : List PutR) (s : PL), (l.foldl (fun s r => putE s (entR r)) s).length ≤ s.length + l.length := by
  intro l
  induction l with
  | nil => intro s; exact Nat.le_refl _
  | cons r l ih =>
   intro s
   have h1 := ih (putE s (entR r))
   have h2 := putE_len s (entR r)
   simp only [List.foldl_cons, List.length_cons]
   omega
 have h := this l []
 have e : ([] : PL).length = 0 := rfl
 show (l.foldl (fun s r => putE s (entR r)) []).length ≤ _
 omega
theorem firstIx_at {l : List PutR} {r : PutR} (h : r ∈ l) : ∃ hl : firstIx l r.f0 r.f1.f2 < l.length, l[firstIx l r.f0 r.f1.f2].f0 = r.f0 ∧ l[firstIx l r.f0 r.f1.f2].f1.f2 = r.f1.f2 := by
 have hlt : firstIx l r.f0 r.f1.f2 < l.length := List.findIdx_lt_length_of_exists ⟨r, h, by simp⟩
 refine ⟨hlt, ?_⟩
 have := of_decide_eq_true (List.findIdx_getElem (w := hlt))
 exact ⟨this.1, ba_ext this.2⟩
theorem firstIx_is {l : List PutR} {i j : Nat} (hi : i < l.length) (hj : j < l.length) (h : l[j].f0 = l[i].f0 ∧ l[j].f1.f2.toList = l[i].f1.f2.toList) (hno : ∀ (q : Nat) (hq : q < l.length), q < j → ¬ (l[q].f0 = l[i].f0 ∧ l[q].f1.f2.toList = l[i].f1.f2.toList)) : firstIx l l[i].f0 l[i].f1.f2 = j :=
 (List.findIdx_eq hj).2 ⟨decide_eq_true h, fun q hq => decide_eq_false (hno q (by omega) hq)⟩
theorem lead_map {g : PEnt → PEnt} {s : PL} (hp : ∀ e, (g e).path = e.path) (h3 : ∀ e, (g e).node.f3 = e.node.f3)
  (ho : ∀ e ∈ s, ∀ q ∈ s, e.node.f3 = 48 → q.node.f3 = 48 → (((g q).tree = (g e).tree ∧ (g q).node.f2 = (g e).node.f2) ↔ (q.tree = e.tree ∧ q.node.f2 = e.node.f2))) {e : PEnt} (he : e ∈ s) (h48 : e.node.f3 = 48) : leadE (s.map g) (g e) = leadE s e := by
 unfold leadE
 rw [List.find?_map]
 have : s.find? (oneE (g e) ∘ g) = s.find? (oneE e) := find_congr (fun q hq => by
  rw [Bool.eq_iff_iff, Function.comp_apply, oneE_iff, oneE_iff, h3]
  constructor
  ·rintro ⟨a, b⟩
   exact ⟨a, (ho e he q hq h48 a).1 b⟩
  ·rintro ⟨a, b⟩
   exact ⟨a, (ho e he q hq h48 a).2 b⟩)
 rw [this]
 cases s.find? (oneE e) with
 | none => rfl
 | some q => exact hp q
structure PilesOk (c : List Cls) (got want : List Node) : Prop where
 len : got.length = want.length
 small : c.length ≤ 60 ∧ want.length ≤ 60
 nodup : (c.map (fun x => x.f0.f0)).Nodup
 same : ∀ (i : Nat) (h : i < got.length) (h' : i < want.length), equalB got[i] want[i] = true
 file : ∀ (i : Nat) (h : i < got.length) (h' : i < want.length), want[i].f3 = 48 → got[i].f2 = want[i].f2
 other : ∀ (i : Nat) (h : i < got.length) (h' : i < want.length), ¬ want[i].f3 = 48 → ∃ (j : Nat) (hj : j < c.length), c[j].f0.f0 = want[i].f0 ∧ c[j].f0.f2 = got[i].f2
theorem piles_ok (l : List PutR) (hl : l.length ≤ 60) : PilesOk (clsR l l.length) (treeE (pileR l)) (sortedF (clsR l l.length)) := by
 have hn := pileR_nodup l
 have hc : clsR l l.length = (pileR l).map (hC l) := by unfold clsR; rw [List.take_length]
 have hnd : ((clsR l l.length).map (fun x => x.f0.f0)).Nodup := by
  rw [hc, List.map_map]
  exact hn
 have hw : sortedF (clsR l l.length) = (sortE (pileR l)).map (fun e => outE ((sortE (pileR l)).map (fun e => toE (hC l e))) (toE (hC l e))) := by
  rw [sortedF_tree hnd, hc, List.map_map]
  unfold treeE
  have h := sortE_map (g := toE ∘ hC l) (fun e => rfl) (pileR l)
  rw [h, List.map_map]
  rfl
 have hlen := pileR_len l
 have hsl : (sortE (pileR l)).length = (pileR l).length := (sortE_perm _).length_eq
 have hone : ∀ e ∈ sortE (pileR l), ∀ q ∈ sortE (pileR l), e.node.f3 = 48 → q.node.f3 = 48 → (((toE (hC l q)).tree = (toE (hC l e)).tree ∧ (toE (hC l q)).node.f2 = (toE (hC l e)).node.f2) ↔ (q.tree = e.tree ∧ q.node.f2 = e.node.f2)) := by
  intro e he q hq _ _
  obtain ⟨r, hr, rfl⟩ := pileR_mem (sortE_mem.1 he)
  obtain ⟨t, ht, rfl⟩ := pileR_mem (sortE_mem.1 hq)
  obtain ⟨a1, a2, a3⟩ := firstIx_at hr
  obtain ⟨b1, b2, b3⟩ := firstIx_at ht
  show ((firstIx l t.f0 t.f1.f2 : Int) = (firstIx l r.f0 r.f1.f2 : Int) ∧ emp = emp) ↔ (t.f0 = r.f0 ∧ t.f1.f2 = r.f1.f2)
  constructor
  ·rintro ⟨h, _⟩
   have h' : firstIx l t.f0 t.f1.f2 = firstIx l r.f0 r.f1.f2 := by omega
   have : l[firstIx l t.f0 t.f1.f2] = l[firstIx l r.f0 r.f1.f2] := getElem_congr_idx h'
   exact ⟨b2.symm.trans ((congrArg (fun x : PutR => x.f0) this).trans a2), b3.symm.trans ((congrArg (fun x : PutR => x.f1.f2) this).trans a3)⟩
  ·rintro ⟨h1, h2⟩
   rw [h1, h2]
   exact ⟨rfl, rfl⟩
 have hgot : ∀ (i : Nat) (h : i < (treeE (pileR l)).length), (treeE (pileR l))[i] = outE (sortE (pileR l)) ((sortE (pileR l))[i]'(by rw [treeE_len] at h; omega)) := fun i h => by
  exact List.getElem_map _
 have hwant : ∀ (i : Nat) (h : i < (sortedF (clsR l l.length)).length), (sortedF (clsR l l.length))[i] = outE ((sortE (pileR l)).map (fun e => toE (hC l e))) (toE (hC l ((sortE (pileR l))[i]'(by rw [hw, List.length_map] at h; exact h)))) := fun i h => by
  simp only [hw, List.getElem_map]
 refine ⟨by rw [treeE_len, hw, List.length_map, hsl], ⟨by rw [hc, List.length_map]; omega, by rw [hw, List.length_map]; omega⟩, hnd, fun i h h' => ?_, fun i h h' h48 => ?_, fun i h h' h48 => ?_⟩
 ·rw [hgot i h, hwant i h', equalB_iff]
  exact ⟨rfl, rfl, rfl, rfl, rfl⟩
 ·rw [hgot i h, hwant i h']
  rw [hwant i h'] at h48
  have hi : i < (sortE (pileR l)).length := by rw [treeE_len] at h; omega
  have h48' : ((sortE (pileR l))[i]).node.f3 = 48 := h48
  have := lead_map (g := fun e => toE (hC l e)) (fun e => rfl) (fun e => rfl) hone (List.getElem_mem hi) h48'
  unfold outE
  dsimp only
  rw [if_pos h48', if_pos (show (toE (hC l (sortE (pileR l))[i])).node.f3 = 48 from h48'), this]
 ·rw [hgot i h, hwant i h']
  rw [hwant i h'] at h48
  have hi : i < (sortE (pileR l)).length := by rw [treeE_len] at h; omega
  have h48' : ¬ ((sortE (pileR l))[i]).node.f3 = 48 := h48
  obtain ⟨j, hj, he⟩ := List.getElem_of_mem (sortE_mem.1 (List.getElem_mem hi))
  refine ⟨j, by rw [hc, List.length_map]; exact hj, ?_, ?_⟩
  ·have : (clsR l l.length)[j]'(by rw [hc, List.length_map]; exact hj) = hC l (pileR l)[j] := by simp only [hc, List.getElem_map]
   rw [this, he]
   rfl
  ·have : (clsR l l.length)[j]'(by rw [hc, List.length_map]; exact hj) = hC l (pileR l)[j] := by simp only [hc, List.getElem_map]
   rw [this, he]
   unfold outE
   dsimp only
   rw [if_neg h48']
   rfl
end Go.Proofs.YtfmphccoeinhcaaDoor

namespace Go.Proofs.YtfmphccoeinhcaaDoor
open Go.RowKit Go.Maps Go.Proofs.YtfmphccoeinhcaaDoor.Print Go.Proofs.YtfmphccoeinhcaaDoorW.PrintWords Go.Proofs.YtfmphccoeinhcaaDoorW.PrintLast Go.Proofs.YtfmphccoeinhcaaDoorW.PrintMore
set_option linter.unusedVariables false
set_option linter.unusedSimpArgs false
set_option maxRecDepth 100000 in
set_option maxHeartbeats 4000000 in
theorem Put_frame (base g d1 d2 n : Nat) (s : PL) (tr : Int) (x : Node) (A : Option Addr) (c : Nat) (p : ByteArray) (W : World) (hP : PileAt W base g d1 d2 n s) (hn : n < 1000000000) (hz : EntZ ⟨p, x, tr⟩) (hC : Kd.C (Kd.int .u8) W A x.f5.length x.f5) (hbase : base ≤ W.heap.size) :
  Calls Tryd.prog 28 #[.pointer (some ⟨g, 0, none⟩), .int .i64 tr, .agg (nodeCells x (.slice A x.f5.length c)), .string p] W fun e W' => e = .returned (.tuple #[]) ∧ PileAt W' base g d1 d2 (n + 1) (putE s ⟨p, x, tr⟩) ∧ Below base W W' ∧ ∀ k, k < W.heap.size → k ≠ d1 → k ≠ d2 → W'.heap[k]? = W.heap[k]? := by
 have HP := Aside0.mk hP
 have HN := Aside0.mk hn
 have HZ := Aside0.mk hz
 have HC := Aside0.mk hC
 have HBS := Aside0.mk hbase
 clear hP hn hz hC
 generalize hpost : (fun (e : Ending) (W' : World) => e = .returned (.tuple #[]) ∧ PileAt W' base g d1 d2 (n + 1) (putE s ⟨p, x, tr⟩) ∧ Below base W W' ∧ ∀ k, k < W.heap.size → k ≠ d1 → k ≠ d2 → W'.heap[k]? = W.heap[k]?) = Q
 have hQ := Aside0.mk hpost
 clear hpost
 unfold nodeCells
 go_enter Tryd.func28, Tryd.ntmps28
 go_upto_region 3 with (first
  | (go_at_call 50; refine (Clone_calls A c x.f5 _ (Kd.C_alloc HC.out _) HZ.out.2.1.2.2.2).mono ?_; rintro e w1 ⟨vc, rfl, hRc, hB1⟩; obtain ⟨A8, c8, rfl, hl8, hC8⟩ := Kd.R_reads hRc; clear hl8 hC8; have HRC := Aside0.mk hRc; have HB1 := Aside0.mk hB1; have hk := fun o (v : Value) (h : (W.alloc (.cells #[.string x.f0, .string x.f1, .string x.f2, .int .u8 x.f3, .int .i64 x.f4.f0, .int .i64 x.f4.f1, .int .i64 x.f4.f2, .int .i64 x.f4.f3, .slice A x.f5.length c] 38)).cell? ⟨W.heap.size, o, none⟩ = some v) => fkeep hB1 h; have HKP := Aside0.mk hk; have hfz : w1.frozen? ⟨W.heap.size, 8, none⟩ = false := (by have hq := (hB1.block W.heap.size (by rw [World.size_alloc]; omega)).trans (blk_new W (.cells #[.string x.f0, .string x.f1, .string x.f2, .int .u8 x.f3, .int .i64 x.f4.f0, .int .i64 x.f4.f1, .int .i64 x.f4.f2, .int .i64 x.f4.f3, .slice A x.f5.length c] 38)); exact blk_frozen hq 8); have hc8 : w1.cell? ⟨W.heap.size, 8, none⟩ = some (.slice A x.f5.length c) := (by have hq := (hB1.block W.heap.size (by rw [World.size_alloc]; omega)).trans (blk_new W (.cells #[.string x.f0, .string x.f1, .string x.f2, .int .u8 x.f3, .int .i64 x.f4.f0, .int .i64 x.f4.f1, .int .i64 x.f4.f2, .int .i64 x.f4.f3, .slice A x.f5.length c] 38)); exact (blk_cell hq 8).trans rfl); clear hk hRc hB1)
  | fail)
 have f2 : ∃ w2 b0, w2 = w1.setCell ⟨W.heap.size, 8, none⟩ (.slice A8 x.f5.length c8) ∧ b0 = W.heap.size ∧ Below W.heap.size W w2 ∧ w2.heap[b0]? = some (.cells (nodeCells x (.slice A8 x.f5.length c8)) 38 (0, 0)) ∧ Kd.R (Kd.int .u8) 5 w2 base (fun _ => True) (.slice A8 x.f5.length c8) x.f5 := by
  have hb0 : Below W.heap.size W (W.alloc (.cells (nodeCells x (.slice A x.f5.length c)) 38)) := below_alloc (Below.refl _ _) _
  have hq := (HB1.out.block W.heap.size (by rw [World.size_alloc]; omega)).trans (blk_new W (.cells (nodeCells x (.slice A x.f5.length c)) 38))
  refine ⟨_, _, rfl, rfl, (hb0.trans (HB1.out.mono hb0.size)).setCell (Nat.le_refl _) _, blk_put (cs' := nodeCells x (.slice A8 x.f5.length c8)) hq 8 (.slice A8 x.f5.length c8) rfl, ?_⟩
  refine Kd.R_lower (Kd.R_set HRC.out hq (fun k hk => ?_) 8 (.slice A8 x.f5.length c8)) (Nat.le_trans HBS.out hb0.size)
  rcases List.mem_cons.1 hk with rfl | hk
  ·decide
  ·cases hk
 obtain ⟨w2, b0, e2, e0, hB2, hN2, hR2⟩ := f2
 rw [← e2]
 rw [← e0]
 have hwq : Below w2.heap.size w2 w2.drew := below_drew (Below.refl _ _)
 have hBq := hB2.trans (hwq.mono hB2.size)
 have hNq : w2.drew.heap[b0]? = some (.cells (nodeCells x (.slice A8 x.f5.length c8)) 38 (0, 0)) := hN2
 have hRq := Kd.R_below hR2 hwq
 have hPq := HP.out.below hBq
 obtain ⟨V, hM1, hV⟩ := hPq.nodes
 have hzp : p.size ≤ maxLen := by have := HZ.out.1; unfold maxLen; exact Nat.le_trans this (by decide)
 obtain ⟨va, sta, we1, hE1, hT1, hS1⟩ := hM1.entry (n := n) Tryd.underlying9 Tryd.underlying82 (by have := HN.out; unfold maxLen; omega) zeroNode hzp
 obtain ⟨we2, hE2, hM2, hT2⟩ := hS1 (.agg (nodeCells x (.slice A8 x.f5.length c8)))
 have hK2 := hPq.keys.kept (turned_grown hT2) (by have := hPq.fence; simp; omega)
 obtain ⟨vb, stb, we3, hE3, hT3, hS3⟩ := hK2.entry (n := n) Tryd.underlying9 Tryd.underlying83 (by have := HN.out; unfold maxLen; omega) zeroKey hzp
 obtain ⟨we4, hE4, hM4, hT4⟩ := hS3 (.agg #[.int .i64 tr, .string x.f2])
 have hg0 := hPq.box
 have hb0 := hNq
 obtain ⟨hga, _⟩ := turned_box hT1 hg0
 obtain ⟨hba, _⟩ := turned_box hT1 hb0
 obtain ⟨hgb, _⟩ := turned_box hT2 hg0
 obtain ⟨hbb, _⟩ := turned_box hT2 hb0
 obtain ⟨hgc, _⟩ := turned_box hT3 hgb
 obtain ⟨hbc, _⟩ := turned_box hT3 hbb
 obtain ⟨hgd, _⟩ := turned_box hT4 hgb
 obtain ⟨hbd, _⟩ := turned_box hT4 hbb
 have hfin : PileAt we4 base g d1 d2 (n + 1) (putE s ⟨p, x, tr⟩) := by
  have hVc := R_turned (R_turned hRq hT2) hT4
  refine ⟨hPq.fence, hgd, ⟨fun k => if k = p.data.toList then (.slice A8 x.f5.length c8) else V k, (hM2.kept (turned_grown hT4) (by have := hPq.fence; simp; omega)).ext (fun k => ?_), fun k e he => ?_⟩, hM4.ext (fun k => ?_), putE_nodup hPq.nodup _, fun e he => ?_⟩
  ·unfold putS nodV
   rw [atL_put]
   by_cases hk : k = p.data.toList
   ·rw [if_pos hk, if_pos hk]; simp only [Option.map_some, if_pos hk]
   ·rw [if_neg hk, if_neg hk]; simp only [if_neg hk]
  ·rw [atL_put] at he
   dsimp only at he ⊢
   by_cases hk : k = p.data.toList
   ·rw [if_pos hk] at he ⊢
    cases he
    exact hVc
   ·rw [if_neg hk] at he ⊢
    exact R_turned (R_turned (hV k e he) hT2) hT4
  ·unfold putS keyM
   rw [atL_put]
   by_cases hk : k = p.data.toList
   ·rw [if_pos hk, if_pos hk]; rfl
   ·rw [if_neg hk, if_neg hk]
  ·rcases putE_sub he with ⟨h, _⟩ | rfl
   ·exact hPq.small e h
   ·exact HZ.out
 have hfb : Below base W we4 := ((hBq.mono HBS.out).trans (turned_below hT2 hPq.fence.2.1 (Nat.le_trans HBS.out hBq.size))).trans (turned_below hT4 hPq.fence.2.2.1 (Nat.le_trans (Nat.le_trans HBS.out hBq.size) (turned_grown hT2).size))
 have hfr : ∀ k, k < W.heap.size → k ≠ d1 → k ≠ d2 → we4.heap[k]? = W.heap[k]? := fun k hk h1 h2 => ((turned_grown hT4).block k (Nat.lt_of_lt_of_le hk (Nat.le_trans hBq.size (turned_grown hT2).size)) (fun e => h2 (by injection e))).trans (((turned_grown hT2).block k (Nat.lt_of_lt_of_le hk hBq.size) (fun e => h1 (by injection e))).trans (hBq.block k hk))
 have HFR := Aside0.mk hfr
 clear hfr
 have HFIN := Aside0.mk hfin
 have HFB := Aside0.mk hfb
 have HE : Aside0 (g = g) := ⟨rfl⟩
 clear e0 hfin hfb hT1 hT2 hT3 hT4 hS1 hS3 hM1 hM2 hM4 hK2 hV hPq hRq hR2 hB2 hBq hwq e2 HKP hfz hc8
 unfold goInt at hE1 hE2 hE3 hE4
 unfold nodeCells at hE2
 refine start_ (n := 21) (S := fun w' => w'.cell? ⟨g, 0, none⟩ = some (.map (some d1)) ∧ w'.cell? ⟨g, 1, none⟩ = some (.map (some d2)) ∧ w'.cell? ⟨b0, 0, none⟩ = some (.string x.f0) ∧ w'.cell? ⟨b0, 1, none⟩ = some (.string x.f1) ∧ w'.cell? ⟨b0, 2, none⟩ = some (.string x.f2) ∧ w'.cell? ⟨b0, 3, none⟩ = some (.int .u8 x.f3) ∧ w'.cell? ⟨b0, 4, none⟩ = some (.int .i64 x.f4.f0) ∧ w'.cell? ⟨b0, 5, none⟩ = some (.int .i64 x.f4.f1) ∧ w'.cell? ⟨b0, 6, none⟩ = some (.int .i64 x.f4.f2) ∧ w'.cell? ⟨b0, 7, none⟩ = some (.int .i64 x.f4.f3) ∧ w'.cell? ⟨b0, 8, none⟩ = some (.slice A8 x.f5.length c8)) (ds := []) #[false, false, false, false, false, false, false, false, false, false, false, false, false, false, false, false, false, false, false, false, false] (by kernel_rfl) rfl rfl (put_cells hg0 hb0) (fun hHeld => ?_)
 refine pure_ (i := 0) (N := some 14) (v := ?_) (a' := ?_) #[true, false, false, false, false, false, false, false, false, false, false, false, false, false, false, false, false, false, false, false, false] rfl rfl (by kernel_rfl) (fun _ _ _ h => h) (Or.inl ⟨by rfl, ?_⟩) ?_ ?_
 rotate_left
 ·intro w'
  go_simp
  with_reducible rfl
 rotate_left
 ·simp only [Act.put, List.setIfInBounds_toArray, List.set_cons_zero, List.set_cons_succ, i64_w, i32_w]
  rfl
 refine pure_ (i := 1) (N := some 15) (v := ?_) (a' := ?_) #[true, true, false, false, false, false, false, false, false, false, false, false, false, false, false, false, false, false, false, false, false] rfl rfl (by kernel_rfl) (fun _ _ _ h => h) (Or.inl ⟨by rfl, ?_⟩) ?_ ?_
 rotate_left
 ·intro w'
  go_simp
  with_reducible rfl
 rotate_left
 ·simp only [Act.put, List.setIfInBounds_toArray, List.set_cons_zero, List.set_cons_succ, i64_w, i32_w]
  rfl
 refine pure_ (i := 2) (N := some 16) (v := ?_) (a' := ?_) #[true, true, true, false, false, false, false, false, false, false, false, false, false, false, false, false, false, false, false, false, false] rfl rfl (by kernel_rfl) (fun _ _ _ h => h) (Or.inl ⟨by rfl, ?_⟩) ?_ ?_
 rotate_left
 ·intro w'
  go_simp
  with_reducible rfl
 rotate_left
 ·simp only [Act.put, List.setIfInBounds_toArray, List.set_cons_zero, List.set_cons_succ, i64_w, i32_w]
  rfl
 refine take_ (i := 3) (N := some 17) (v := ?_) (a' := ?_) #[true, true, true, true, false, false, false, false, false, false, false, false, false, false, false, false, false, false, false, false, false] rfl rfl (by kernel_rfl) (fun _ _ _ h => h) (Or.inl ⟨by rfl, ?_⟩) hHeld ?_ ?_
 rotate_left
 ·rintro w' ⟨s0, s1, s2, s3, s4, s5, s6, s7, s8, s9, s10⟩
  go_simp
  with_reducible rfl
 rotate_left
 ·simp only [Act.put, List.setIfInBounds_toArray, List.set_cons_zero, List.set_cons_succ, i64_w, i32_w]
  rfl
 refine pure_ (i := 4) (N := some 18) (v := ?_) (a' := ?_) #[true, true, true, true, true, false, false, false, false, false, false, false, false, false, false, false, false, false, false, false, false] rfl rfl (by kernel_rfl) (fun _ _ _ h => h) (Or.inl ⟨by rfl, ?_⟩) ?_ ?_
 rotate_left
 ·intro w'
  go_simp
  with_reducible rfl
 rotate_left
 ·simp only [Act.put, List.setIfInBounds_toArray, List.set_cons_zero, List.set_cons_succ, i64_w, i32_w]
  rfl
 refine pure_ (i := 5) (N := some 19) (v := ?_) (a' := ?_) #[true, true, true, true, true, true, false, false, false, false, false, false, false, false, false, false, false, false, false, false, false] rfl rfl (by kernel_rfl) (fun _ _ _ h => h) (Or.inl ⟨by rfl, ?_⟩) ?_ ?_
 rotate_left
 ·intro w'
  go_simp
  with_reducible rfl
 rotate_left
 ·simp only [Act.put, List.setIfInBounds_toArray, List.set_cons_zero, List.set_cons_succ, i64_w, i32_w]
  rfl
 refine pure_ (i := 6) (N := some 20) (v := ?_) (a' := ?_) #[true, true, true, true, true, true, true, false, false, false, false, false, false, false, false, false, false, false, false, false, false] rfl rfl (by kernel_rfl) (fun _ _ _ h => h) (Or.inl ⟨by rfl, ?_⟩) ?_ ?_
 rotate_left
 ·intro w'
  go_simp
  with_reducible rfl
 rotate_left
 ·simp only [Act.put, List.setIfInBounds_toArray, List.set_cons_zero, List.set_cons_succ, i64_w, i32_w]
  rfl
 refine pure_ (i := 7) (N := some 21) (v := ?_) (a' := ?_) #[true, true, true, true, true, true, true, true, false, false, false, false, false, false, false, false, false, false, false, false, false] rfl rfl (by kernel_rfl) (fun _ _ _ h => h) (Or.inl ⟨by rfl, ?_⟩) ?_ ?_
 rotate_left
 ·intro w'
  go_simp
  with_reducible rfl
 rotate_left
 ·simp only [Act.put, List.setIfInBounds_toArray, List.set_cons_zero, List.set_cons_succ, i64_w, i32_w]
  rfl
 refine take_ (i := 8) (N := some 22) (v := ?_) (a' := ?_) #[true, true, true, true, true, true, true, true, true, false, false, false, false, false, false, false, false, false, false, false, false] rfl rfl (by kernel_rfl) (fun _ _ _ h => h) (Or.inl ⟨by rfl, ?_⟩) hHeld ?_ ?_
 rotate_left
 ·rintro w' ⟨s0, s1, s2, s3, s4, s5, s6, s7, s8, s9, s10⟩
  go_simp
  with_reducible rfl
 rotate_left
 ·simp only [Act.put, List.setIfInBounds_toArray, List.set_cons_zero, List.set_cons_succ, i64_w, i32_w]
  rfl
 refine pure_ (i := 9) (N := some 23) (v := ?_) (a' := ?_) #[true, true, true, true, true, true, true, true, true, true, false, false, false, false, false, false, false, false, false, false, false] rfl rfl (by kernel_rfl) (fun _ _ _ h => h) (Or.inl ⟨by rfl, ?_⟩) ?_ ?_
 rotate_left
 ·intro w'
  go_simp
  with_reducible rfl
 rotate_left
 ·simp only [Act.put, List.setIfInBounds_toArray, List.set_cons_zero, List.set_cons_succ, i64_w, i32_w]
  rfl
 refine take_ (i := 10) (N := some 24) (v := ?_) (a' := ?_) #[true, true, true, true, true, true, true, true, true, true, true, false, false, false, false, false, false, false, false, false, false] rfl rfl (by kernel_rfl) (fun _ _ _ h => h) (Or.inl ⟨by rfl, ?_⟩) hHeld ?_ ?_
 rotate_left
 ·rintro w' ⟨s0, s1, s2, s3, s4, s5, s6, s7, s8, s9, s10⟩
  go_simp
  with_reducible rfl
 rotate_left
 ·simp only [Act.put, List.setIfInBounds_toArray, List.set_cons_zero, List.set_cons_succ, i64_w, i32_w]
  rfl
 refine pure_ (i := 11) (N := some 25) (v := ?_) (a' := ?_) #[true, true, true, true, true, true, true, true, true, true, true, true, false, false, false, false, false, false, false, false, false] rfl rfl (by kernel_rfl) (fun _ _ _ h => h) (Or.inl ⟨by rfl, ?_⟩) ?_ ?_
 rotate_left
 ·intro w'
  go_simp
  with_reducible rfl
 rotate_left
 ·simp only [Act.put, List.setIfInBounds_toArray, List.set_cons_zero, List.set_cons_succ, i64_w, i32_w]
  rfl
 refine pure_ (i := 12) (N := some 26) (v := ?_) (a' := ?_) #[true, true, true, true, true, true, true, true, true, true, true, true, true, false, false, false, false, false, false, false, false] rfl rfl (by kernel_rfl) (fun _ _ _ h => h) (Or.inl ⟨by rfl, ?_⟩) ?_ ?_
 rotate_left
 ·intro w'
  go_simp
  with_reducible rfl
 rotate_left
 ·simp only [Act.put, List.setIfInBounds_toArray, List.set_cons_zero, List.set_cons_succ, i64_w, i32_w]
  rfl
 refine take_ (i := 13) (N := some 27) (v := ?_) (a' := ?_) #[true, true, true, true, true, true, true, true, true, true, true, true, true, true, false, false, false, false, false, false, false] rfl rfl (by kernel_rfl) (fun _ _ _ h => h) (Or.inl ⟨by rfl, ?_⟩) hHeld ?_ ?_
 rotate_left
 ·rintro w' ⟨s0, s1, s2, s3, s4, s5, s6, s7, s8, s9, s10⟩
  go_simp
  with_reducible rfl
 rotate_left
 ·simp only [Act.put, List.setIfInBounds_toArray, List.set_cons_zero, List.set_cons_succ, i64_w, i32_w]
  rfl
 refine pure_ (i := 14) (N := some 28) (v := ?_) (a' := ?_) #[true, true, true, true, true, true, true, true, true, true, true, true, true, true, true, false, false, false, false, false, false] rfl rfl (by kernel_rfl) (fun _ _ _ h => h) (Or.inl ⟨by rfl, ?_⟩) ?_ ?_
 rotate_left
 ·intro w'
  go_simp
  with_reducible rfl
 rotate_left
 ·simp only [Act.put, List.setIfInBounds_toArray, List.set_cons_zero, List.set_cons_succ, i64_w, i32_w]
  rfl
 refine one_ (i := 15) (N := some 29) #[true, true, true, true, true, true, true, true, true, true, true, true, true, true, true, true, false, false, false, false, false] rfl rfl (by kernel_rfl) (by decide) (fun K hK => ?_)
 refine value_ (w1 := we1) (v := .tuple #[va, .int .i64 (sta : Int)]) (by rfl) rfl ?_ ?_
 ·first | (go_simp; done) | (go_simp; rfl)
 refine hK.out _ _ (put_cells hga hba) (fun hHeld => ?_)
 clear hK K
 refine norm_ (a' := ?_) ?_ ?_
 rotate_left
 ·show Act.put _ (some 29) _ = _
  simp only [Act.put, List.setIfInBounds_toArray, List.set_cons_zero, List.set_cons_succ]
  rfl
 refine pure_ (i := 16) (N := some 30) (v := ?_) (a' := ?_) #[true, true, true, true, true, true, true, true, true, true, true, true, true, true, true, true, true, false, false, false, false] rfl rfl (by kernel_rfl) (fun _ _ _ h => h) (Or.inl ⟨by rfl, ?_⟩) ?_ ?_
 rotate_left
 ·intro w'
  go_simp
  with_reducible rfl
 rotate_left
 ·simp only [Act.put, List.setIfInBounds_toArray, List.set_cons_zero, List.set_cons_succ, i64_w, i32_w]
  rfl
 refine one_ (i := 17) (N := none) #[true, true, true, true, true, true, true, true, true, true, true, true, true, true, true, true, true, true, false, false, false] rfl rfl (by kernel_rfl) (by decide) (fun K hK => ?_)
 refine skip_ (w1 := we2) (by rfl) rfl ?_ ?_
 ·first | (go_simp; done) | (go_simp; rfl)
 refine hK.out _ _ (put_cells hgb hbb) (fun hHeld => ?_)
 clear hK K
 refine one_ (i := 18) (N := some 31) #[true, true, true, true, true, true, true, true, true, true, true, true, true, true, true, true, true, true, true, false, false] rfl rfl (by kernel_rfl) (by decide) (fun K hK => ?_)
 refine value_ (w1 := we3) (v := .tuple #[vb, .int .i64 (stb : Int)]) (by rfl) rfl ?_ ?_
 ·first | (go_simp; done) | (go_simp; rfl)
 refine hK.out _ _ (put_cells hgc hbc) (fun hHeld => ?_)
 clear hK K
 refine norm_ (a' := ?_) ?_ ?_
 rotate_left
 ·show Act.put _ (some 31) _ = _
  simp only [Act.put, List.setIfInBounds_toArray, List.set_cons_zero, List.set_cons_succ]
  rfl
 refine pure_ (i := 19) (N := some 32) (v := ?_) (a' := ?_) #[true, true, true, true, true, true, true, true, true, true, true, true, true, true, true, true, true, true, true, true, false] rfl rfl (by kernel_rfl) (fun _ _ _ h => h) (Or.inl ⟨by rfl, ?_⟩) ?_ ?_
 rotate_left
 ·intro w'
  go_simp
  with_reducible rfl
 rotate_left
 ·simp only [Act.put, List.setIfInBounds_toArray, List.set_cons_zero, List.set_cons_succ, i64_w, i32_w]
  rfl
 refine one_ (i := 20) (N := none) #[true, true, true, true, true, true, true, true, true, true, true, true, true, true, true, true, true, true, true, true, true] rfl rfl (by kernel_rfl) (by decide) (fun K hK => ?_)
 refine skip_ (w1 := we4) (by rfl) rfl ?_ ?_
 ·first | (go_simp; done) | (go_simp; rfl)
 refine hK.out _ _ (put_cells hgd hbd) (fun hHeld => ?_)
 clear hK K
 refine done_ (by kernel_rfl) ?_
 refine bodyPost_ret (v := .tuple #[]) (by simp [results, Tryd.results28, go_sem]) rfl ?_
 rw [← hQ.out]
 exact ⟨rfl, HFIN.out, HFB.out, HFR.out⟩
end Go.Proofs.YtfmphccoeinhcaaDoor

namespace Go.Proofs.YtfmphccoeinhcaaDoor
open Go.RowKit Go.Maps Go.Proofs.YtfmphccoeinhcaaDoor.Print Go.Proofs.YtfmphccoeinhcaaDoorW.PrintWords Go.Proofs.YtfmphccoeinhcaaDoorW.PrintLast Go.Proofs.YtfmphccoeinhcaaDoorW.PrintMore
set_option linter.unusedVariables false
set_option linter.unusedSimpArgs false
abbrev sortedwA_0 : Array Bool := #[false, false, false, false, false, false, false, false, false, false, false, false, false, false, false, false, false, false]
abbrev sortedwA_1 : Array Bool := tb_ 18 1
abbrev sortedwA_2 : Array Bool := tb_ 18 3
abbrev sortedwA_3 : Array Bool := tb_ 18 7
abbrev sortedwA_4 : Array Bool := tb_ 18 15
abbrev sortedwA_5 : Array Bool := tb_ 18 31
abbrev sortedwA_6 : Array Bool := tb_ 18 63
abbrev sortedwA_7 : Array Bool := tb_ 18 127
abbrev sortedwA_8 : Array Bool := tb_ 18 255
abbrev sortedwA_9 : Array Bool := tb_ 18 511
abbrev sortedwA_10 : Array Bool := tb_ 18 1023
abbrev sortedwA_11 : Array Bool := tb_ 18 2047
abbrev sortedwA_12 : Array Bool := tb_ 18 4095
abbrev sortedwA_13 : Array Bool := tb_ 18 8191
abbrev sortedwA_14 : Array Bool := tb_ 18 16383
abbrev sortedwA_15 : Array Bool := tb_ 18 32767
abbrev sortedwA_16 : Array Bool := tb_ 18 65535
abbrev sortedwA_17 : Array Bool := tb_ 18 131071
abbrev sortedwA_18 : Array Bool := tb_ 18 262143
theorem infoCls : (Tryd.prog.info? 60).map (fun i => (i.zero, i.size, i.bytes)) = some (some (.agg #[(.string ⟨#[]⟩), (.string ⟨#[]⟩), (.string ⟨#[]⟩), (.int .u8 0), (.int .i64 0), (.int .i64 0), (.int .i64 0), (.int .i64 0), (.slice none 0 0), (.int .i64 0)]), 10, 120) := by kernel_rfl
def clsCells (x : Cls) (v : Value) : List Value := [.string x.f0.f0, .string x.f0.f1, .string x.f0.f2, .int .u8 x.f0.f3, .int .i64 x.f0.f4.f0, .int .i64 x.f0.f4.f1, .int .i64 x.f0.f4.f2, .int .i64 x.f0.f4.f3, v, .int .i64 x.f1]
theorem cls_elem {W : World} {base g n cap : Nat} {ok : Nat → Prop} {xs : List Cls} (h : Kd.N k60 60 W base ok (.slice (some ⟨g, 0, none⟩) n cap) xs) (i : Nat) (hi : i < xs.length) (hn : n = xs.length) :
  ∃ A c, (∀ j u, (clsCells xs[i] (.slice A xs[i].f0.f5.length c))[j]? = some u → W.cell? ⟨g, i * 10 + j, none⟩ = some u) ∧ (∀ j, W.frozen? ⟨g, i * 10 + j, none⟩ = false) ∧ xs[i].f0.f5.length ≤ c ∧ Kd.F (Kd.int .u8) W (fun k => ok k ∧ k ≠ g) A xs[i].f0.f5.length xs[i].f0.f5 ∧
   Kd.FK k60 W (fun k => ok k ∧ k ≠ g) xs[i] (clsCells xs[i] (.slice A xs[i].f0.f5.length c)) := by
 obtain ⟨c, hcl, hF, hcc, hfr⟩ := Kd.N_elem h z60 (i : Int) (by omega) (by omega)
 have e : xs.getD ((i : Int)).toNat z60 = xs[i] := by rw [Int.toNat_natCast, List.getD_eq_getElem?_getD, List.getElem?_eq_getElem hi]; rfl
 rw [e] at hF
 simp only [Int.toNat_natCast] at hcc hfr
 obtain ⟨A, c', rfl, hl, hf⟩ := k60_openF hF
 exact ⟨A, c', hcc, hfr, hl, hf, hF⟩
theorem made_cls (W : World) (base : Nat) (hb : base ≤ W.heap.size := by exact Nat.le_refl _) : Kd.N k60 60 (W.alloc (.cells #[] 60)) base (fun k => W.heap.size ≤ k) (.slice (some ⟨W.heap.size, 0, none⟩) 0 0) [] :=
 ⟨fun k hk => by simp [Value.ownBlock] at hk; omega, [], rfl, ⟨fun k hk => hk.symm, [], World.ownsRow_made W #[] 0 hb (Nat.zero_le _) rfl, Reps.none _ _⟩, fun j x c h => by simp at h⟩
theorem cls_len (x : Cls) (v : Value) : (clsCells x v).length = 10 := rfl
theorem N_put {W : World} {base g n cap : Nat} {ok : Nat → Prop} {xs : List Cls} (h : Kd.N k60 60 W base ok (.slice (some ⟨g, 0, none⟩) n cap) xs) (i : Nat) (hi : i < xs.length) (hn : n = xs.length) {x : Cls} {v : Value}
  (hx : Kd.FK k60 W (fun k => ok k ∧ k ≠ g) x (clsCells x v)) :
  Kd.N k60 60 (W.setCells g (i * 10) (clsCells x v)) base ok (.slice (some ⟨g, 0, none⟩) n cap) (xs.set i x) ∧ W.grownBy (W.setCells g (i * 10) (clsCells x v)) (some g) := by
 obtain ⟨_, _, hc1, _, _, _, _⟩ := cls_elem h i hi hn
 obtain ⟨h1, g1⟩ := Kd.N_seg h (i : Int) (by omega) (by omega) (cls_len _ _) (by simp only [Int.toNat_natCast]; exact hc1) (seg := clsCells x v) (j := 0) (x' := x) (okp := fun k => ok k ∧ k ≠ g) (Nat.le_refl _) (by exact hx) (fun k hk => hk)
 simp only [Int.toNat_natCast, Nat.add_zero] at h1 g1
 exact ⟨h1, g1⟩
theorem cls_facts {W : World} {g o : Nat} {x : Cls} {v : Value} (h : ∀ j u, (clsCells x v)[j]? = some u → W.cell? ⟨g, o + j, none⟩ = some u) : W.cell? ⟨g, o, none⟩ = some (.string x.f0.f0) ∧ W.cell? ⟨g, o + 1, none⟩ = some (.string x.f0.f1) ∧ W.cell? ⟨g, o + 2, none⟩ = some (.string x.f0.f2) ∧ W.cell? ⟨g, o + 3, none⟩ = some (.int .u8 x.f0.f3) ∧
  W.cell? ⟨g, o + 4, none⟩ = some (.int .i64 x.f0.f4.f0) ∧ W.cell? ⟨g, o + 5, none⟩ = some (.int .i64 x.f0.f4.f1) ∧ W.cell? ⟨g, o + 6, none⟩ = some (.int .i64 x.f0.f4.f2) ∧ W.cell? ⟨g, o + 7, none⟩ = some (.int .i64 x.f0.f4.f3) ∧ W.cell? ⟨g, o + 8, none⟩ = some v ∧ W.cell? ⟨g, o + 9, none⟩ = some (.int .i64 x.f1) :=
 ⟨h 0 _ rfl, h 1 _ rfl, h 2 _ rfl, h 3 _ rfl, h 4 _ rfl, h 5 _ rfl, h 6 _ rfl, h 7 _ rfl, h 8 _ rfl, h 9 _ rfl⟩
def SRow (W wr : World) (M : Nat) (v : Value) (xs : List Cls) : Prop := Kd.N k60 60 wr W.heap.size (fun k => k < M) v xs ∧ Below W.heap.size W wr ∧ M ≤ wr.heap.size
theorem SRow.below {W wr w1 : World} {M : Nat} {v : Value} {xs : List Cls} (h : SRow W wr M v xs) (hb : Below wr.heap.size wr w1) : SRow W w1 M v xs :=
 ⟨Kd.N_below h.1 hb, h.2.1.trans (hb.mono h.2.1.size), Nat.le_trans h.2.2 hb.size⟩
def SRel1 (l : List Cls) (W : World) (M : Nat) (v : Value) (i : Int) (wr : World) : Prop := 1 ≤ i ∧ (i ≤ l.length ∨ i = 1) ∧ SRow W wr M v (sortC (l.take i.toNat) ++ l.drop i.toNat)
def SRel2 (l : List Cls) (W : World) (M : Nat) (v : Value) (i : Nat) (hi : i < l.length) (k : Int) (wr : World) : Prop :=
 0 ≤ k ∧ ∃ a b, sortC (l.take i) = a ++ b ∧ (a.length : Int) = k ∧ (∀ y ∈ b, lt l[i].f0.f0 y.f0.f0 = true) ∧ SRow W wr M v (a ++ l[i] :: (b ++ l.drop (i + 1)))
theorem sortC_take {l : List Cls} {i : Nat} (hi : i < l.length) : sortC (l.take (i + 1)) = insR l[i] (sortC (l.take i)) := by
 unfold sortC
 rw [List.take_succ_eq_append_getElem hi, List.foldl_append]
 rfl
theorem sortC_len (l : List Cls) : (sortC l).length = l.length := (sortC_perm l).length_eq
theorem srel2_exit {l : List Cls} {W : World} {M : Nat} {v : Value} {i : Nat} {hi : i < l.length} {k : Int} {wr : World} (h : SRel2 l W M v i hi k wr) (hex : ∀ a b y, sortC (l.take i) = a ++ b → (a.length : Int) = k → a.getLast? = some y → lt l[i].f0.f0 y.f0.f0 = false) (hi1 : 1 ≤ i) : SRel1 l W M v ((i : Int) + 1) wr := by
 obtain ⟨h0, a, b, h1, h2, h3, h4⟩ := h
 refine ⟨by omega, .inl (by omega), ?_⟩
 have e : ((i : Int) + 1).toNat = i + 1 := by omega
 rw [e, sortC_take hi, h1, insR_at _ _ _ h3 (fun y hy => hex a b y h1 h2 hy), List.append_assoc, List.cons_append]
 exact h4
theorem turn_row {a b : List Cls} {x y : Cls} {r : List Cls} (a' : List Cls) (ha : a = a' ++ [y]) : (((a ++ x :: (b ++ r)).set (a'.length + 1) y).set a'.length x) = a' ++ x :: ((y :: b) ++ r) := by
 subst ha
 have e1 : a' ++ [y] ++ x :: (b ++ r) = a' ++ (y :: x :: (b ++ r)) := by simp
 rw [e1, List.set_append, if_neg (by omega), show a'.length + 1 - a'.length = 1 from by omega]
 simp only [List.set_cons_succ, List.set_cons_zero]
 rw [List.set_append, if_neg (by omega), Nat.sub_self]
 simp
theorem outs_snoc {s : List Cls} {n : Nat} (hn : n < s.length) : (s.mapIdx (fun i x => outC s i x)).take (n + 1) = (s.mapIdx (fun i x => outC s i x)).take n ++ [outC s n s[n]] := by
 rw [List.take_succ_eq_append_getElem (by rw [List.length_mapIdx]; exact hn), List.getElem_mapIdx]
def SRel3 (s : List Cls) (W : World) (M : Nat) (v : Value) (i : Int) (o : Value) (wr : World) : Prop :=
 0 ≤ i ∧ i ≤ s.length ∧ SRow W wr M v s ∧ Kd.N k38 38 wr W.heap.size (fun k => M ≤ k ∧ k < wr.heap.size) o ((s.mapIdx (fun i x => outC s i x)).take i.toNat)
theorem first_here {s : List Cls} {n k : Nat} (hk : k ≤ n) (hn : n < s.length) {x : Cls} (h48 : x.f0.f3 = 48) (hm : (s[k]'(by omega)).f0.f3 = 48 ∧ (s[k]'(by omega)).f1 = x.f1) (hno : ∀ (j : Nat) (hj : j < k), ¬ ((s[j]'(by omega)).f0.f3 = 48 ∧ (s[j]'(by omega)).f1 = x.f1)) : leadC s n x = (s[k]'(by omega)).f0.f0 := by
 unfold leadC
 rw [if_pos h48]
 have hf : (s.take (n + 1)).find? (fun y => decide (y.f0.f3 = 48 ∧ y.f1 = x.f1)) = some (s[k]'(by omega)) := by
  rw [List.find?_eq_some_iff_getElem]
  refine ⟨decide_eq_true hm, k, by rw [List.length_take]; omega, by rw [List.getElem_take], fun j hj => ?_⟩
  rw [List.getElem_take, Bool.not_eq_true', decide_eq_false_iff_not]
  exact hno j hj
 rw [hf]
def SRel4 (s : List Cls) (n : Nat) (x : Cls) (k : Int) : Prop := 0 ≤ k ∧ ∀ (q : Nat), (q : Int) < k → ∀ (hq : q < s.length), ¬ (s[q].f0.f3 = 48 ∧ s[q].f1 = x.f1)
def boxCells (x : Cls) (ldr : ByteArray) (v : Value) : Array Value := #[.string x.f0.f0, .string x.f0.f1, .string ldr, .int .u8 x.f0.f3, .int .i64 x.f0.f4.f0, .int .i64 x.f0.f4.f1, .int .i64 x.f0.f4.f2, .int .i64 x.f0.f4.f3, v]
def SMid (s : List Cls) (W : World) (M : Nat) (v o : Value) (outs : List Node) (x : Cls) (A : Option Addr) (c b : Nat) (ldr : ByteArray) (wz : World) : Prop :=
 SRow W wz M v s ∧ Kd.N k38 38 wz W.heap.size (fun k => M ≤ k ∧ k < b) o outs ∧ wz.heap[b]? = some (.cells (boxCells x ldr (.slice A x.f0.f5.length c)) 38 (0, 0)) ∧ Kd.F (Kd.int .u8) wz (fun k => k < M) A x.f0.f5.length x.f0.f5 ∧ wz.heap.size = b + 1 ∧ M ≤ b
theorem fcell' {w : World} {p : Addr} {v : Value} (h : w.cell? p = some v) (o : Obj) : (w.alloc o).cell? p = some v := ((below_alloc (Below.refl _ _) o).cell (World.block_lt_of_cell? w _ h)).trans h
theorem box_facts {w : World} {b : Nat} {x : Cls} {ldr : ByteArray} {v : Value} (h : w.heap[b]? = some (.cells (boxCells x ldr v) 38 (0, 0))) :
  w.cell? ⟨b, 0, none⟩ = some (.string x.f0.f0) ∧ w.cell? ⟨b, 1, none⟩ = some (.string x.f0.f1) ∧ w.cell? ⟨b, 2, none⟩ = some (.string ldr) ∧ w.cell? ⟨b, 3, none⟩ = some (.int .u8 x.f0.f3) ∧ w.cell? ⟨b, 4, none⟩ = some (.int .i64 x.f0.f4.f0) ∧ w.cell? ⟨b, 5, none⟩ = some (.int .i64 x.f0.f4.f1) ∧
   w.cell? ⟨b, 6, none⟩ = some (.int .i64 x.f0.f4.f2) ∧ w.cell? ⟨b, 7, none⟩ = some (.int .i64 x.f0.f4.f3) ∧ w.cell? ⟨b, 8, none⟩ = some v := by
 refine ⟨?_, ?_, ?_, ?_, ?_, ?_, ?_, ?_, ?_⟩ <;> · unfold World.cell?; dsimp only; rw [h]; rfl
theorem box_soft {w : World} {b : Nat} {x : Cls} {ldr : ByteArray} {v : Value} (h : w.heap[b]? = some (.cells (boxCells x ldr v) 38 (0, 0))) (j : Nat) : w.frozen? ⟨b, j, none⟩ = false := by
 unfold World.frozen?
 dsimp only
 rw [h]
 rfl
theorem made_u8 (W : World) (base : Nat) (hb : base ≤ W.heap.size) : Kd.R (Kd.int .u8) 5 (W.alloc (.cells #[] 5)) base (fun k => W.heap.size ≤ k) (.slice (some ⟨W.heap.size, 0, none⟩) 0 0) [] :=
 ⟨fun k hk => by simp [Value.ownBlock] at hk; omega, [], World.ownsRow_made W #[] 0 hb (Nat.zero_le _) rfl, Reps.none _ _⟩
theorem cell_over (wz w5 : World) (o : Obj) {n c b : Nat} (hg : (wz.alloc o).grownBy w5 (Value.slice (some ⟨wz.heap.size, 0, none⟩) n c).ownBlock) (hb : b < wz.heap.size) (q : Nat) : w5.cell? ⟨b, q, none⟩ = wz.cell? ⟨b, q, none⟩ := by
 have h1 := hg.block b (by rw [World.size_alloc]; omega) (by simp [Value.ownBlock]; omega)
 have h2 : (wz.alloc o).heap[b]? = wz.heap[b]? := (below_alloc (Below.refl _ _) o).block b hb
 unfold World.cell?
 dsimp only
 rw [h1, h2]
theorem froz_over (wz w5 : World) (o : Obj) {n c b : Nat} (hg : (wz.alloc o).grownBy w5 (Value.slice (some ⟨wz.heap.size, 0, none⟩) n c).ownBlock) (hb : b < wz.heap.size) (q : Nat) : w5.frozen? ⟨b, q, none⟩ = wz.frozen? ⟨b, q, none⟩ := by
 have h1 := hg.block b (by rw [World.size_alloc]; omega) (by simp [Value.ownBlock]; omega)
 have h2 : (wz.alloc o).heap[b]? = wz.heap[b]? := (below_alloc (Below.refl _ _) o).block b hb
 unfold World.frozen?
 dsimp only
 rw [h1, h2]
theorem tail_mid {W wz w5 : World} {M b n c : Nat} {v o : Value} {ob : Obj} {s : List Cls} {outs : List Node} {A5 : Option Addr} {c5 : Nat} {body : List Int} (tS : SRow W wz M v s) (tO : Kd.N k38 38 wz W.heap.size (fun k => M ≤ k ∧ k < b) o outs) (hR : Kd.R (Kd.int .u8) 5 w5 W.heap.size (fun k => wz.heap.size ≤ k) (.slice A5 body.length c5) body)
  (hG : (wz.alloc ob).grownBy w5 (Value.slice (some ⟨wz.heap.size, 0, none⟩) n c).ownBlock) (hB : Below W.heap.size W w5) (hb : b < wz.heap.size) (tz : wz.heap.size = b + 1) (tM : M ≤ b) (u : Value) (hW : W.heap.size ≤ M) :
  SRow W (w5.setCell ⟨b, 8, none⟩ u) M v s ∧ Kd.N k38 38 (w5.setCell ⟨b, 8, none⟩ u) W.heap.size (fun k => M ≤ k) o outs ∧ Kd.F (Kd.int .u8) (w5.setCell ⟨b, 8, none⟩ u) (fun k => wz.heap.size ≤ k) A5 body.length body ∧ Below W.heap.size W (w5.setCell ⟨b, 8, none⟩ u) := by
 have hsz := hG.size
 rw [World.size_alloc] at hsz
 have hne : ∀ k, k < wz.heap.size → some k ≠ (Value.slice (some ⟨wz.heap.size, 0, none⟩) n c).ownBlock := fun k hk e => by
  have : k = wz.heap.size := by simpa [Value.ownBlock] using e
  omega
 have hB2 : Below W.heap.size W (w5.setCell ⟨b, 8, none⟩ u) := below_put hB _ _ (by omega) _
 refine ⟨⟨?_, hB2, ?_⟩, ?_, ?_, hB2⟩
 ·exact Kd.N_far (Kd.N_grown (Kd.N_alloc tS.1 ob) hG (fun k hk => hne k (by omega))) (p := ⟨b, 8, none⟩) (fun k hk e => by have e' : k = b := e; omega) u
 ·rw [World.size_setCell]; have := tS.2.2; omega
 ·exact Kd.N_mono (Kd.N_far (Kd.N_grown (Kd.N_alloc tO ob) hG (fun k hk => hne k (by omega))) (p := ⟨b, 8, none⟩) (fun k hk e => by have e' : k = b := e; omega) u) (fun k hk => hk.1)
 ·exact Kd.F_far (Kd.R_F hR) (p := ⟨b, 8, none⟩) (fun k hk e => by have e' : k = b := e; omega) u
theorem tail_row {W w1 w6 wz : World} {M b : Nat} {v o : Value} {s : List Cls} {outs : List Node} (mS : SRow W w1 M v s) (hg : w1.grownBy w6 o.ownBlock) (tO : Kd.N k38 38 wz W.heap.size (fun k => M ≤ k ∧ k < b) o outs) : SRow W w6 M v s :=
 ⟨Kd.N_grown mS.1 hg (fun k hk e => by have := (tO.1 k e.symm).1; omega), mS.2.1.grown hg mS.2.1.size (fun j hj => Kd.N_base tO j hj), by have := hg.size; have := mS.2.2; omega⟩
set_option maxRecDepth 100000 in
set_option maxHeartbeats 8000000 in
theorem Sorted_calls (A0 : Option Addr) (c0 : Nat) (l : List Cls) (W : World) (hC : Kd.C k60 W A0 l.length l) (hlen : l.length ≤ 1000000000000) (hz : ∀ x ∈ l, x.f0.f5.length ≤ 140737488351232) :
  Calls Tryd.prog 29 #[.slice A0 l.length c0] W fun e W' => ∃ v, e = .returned v ∧ Kd.N k38 38 W' W.heap.size (fun k => W.heap.size ≤ k) v (sortedF l) ∧ Below W.heap.size W W' := by
 have hF := Kd.C_F k60_heap hC
 have HF := Aside0.mk hF
 have HZ := Aside0.mk hz
 have hlI : (l.length : Int) ≤ 1000000000000 := by omega
 clear hC hz hF
 generalize hpost : (fun (e : Ending) (W' : World) => ∃ v, e = .returned v ∧ Kd.N k38 38 W' W.heap.size (fun k => W.heap.size ≤ k) v (sortedF l) ∧ Below W.heap.size W W') = Q
 have hQ := Aside0.mk hpost
 clear hpost
 go_enter Tryd.func29, Tryd.ntmps29
 go_wp2_with (at_builtin; refine Kd.N_append_rows k60 (w0 := W) W.heap.size rfl (.tmp 9) (.tmp 10) 55 60 _ 120 rfl Tryd.underlying55 infoCls rfl (by decide) (by decide) (.slice (some ⟨W.heap.size, 0, none⟩) 0 0) [] l A0 l.length c0 (fun _ => True) (fun k => k < W.heap.size) rfl rfl ?hO (Kd.F_alloc HF.out _) (fun k hk => ⟨trivial, fun e => by have e' : k = W.heap.size := (by simpa [Value.ownBlock] using e); omega⟩) (fun _ _ => trivial) (below_alloc (Below.refl _ _) _) (by simp) (by simp; omega) ?_; (case hO => exact Kd.N_mono (made_cls W W.heap.size) (fun _ _ => trivial)); intro v1 w1 hN1 hB1 hg1 hat1; rw [List.nil_append] at hN1; obtain ⟨A1, c1, rfl⟩ := Kd.N_slice hN1; have HN1 := Aside0.mk hN1; have HB1 := Aside0.mk hB1; clear hN1 hB1 hg1 hat1)
 have hrow : SRow W w1 w1.heap.size (.slice A1 l.length c1) l := ⟨Kd.N_mono (Kd.N_bound HN1.out) (fun k hk => hk.2), HB1.out, Nat.le_refl _⟩
 have hMW : W.heap.size ≤ w1.heap.size := HB1.out.size
 generalize hMe : w1.heap.size = M at hrow hMW
 have HROW := Aside0.mk hrow
 clear hrow HN1 HB1 hMe
 go_loopw [3] (fun i wr => ∃ n : Int, i = .int .i64 n ∧ Aside0 (SRel1 l W M (.slice A1 l.length c1) n wr)) (fun i _ => (l.length - (intOf i)).toNat)
 case atStart =>
  refine ⟨1, rfl, ⟨⟨by omega, .inr rfl, ?_⟩⟩⟩
  have e : sortC (l.take (1 : Int).toNat) ++ l.drop (1 : Int).toNat = l := by
   cases l with
   | nil => rfl
   | cons x l => rfl
  rw [e]
  exact HROW.out
 case round =>
  obtain ⟨n, rfl, HR⟩ := hrel
  have h0 := HR.out.1
  by_cases hlt : n < (l.length : Int)
  ·have c1b : decide (n < (l.length : Int)) = true := decide_eq_true hlt
   have hil : n.toNat < l.length := by omega
   have hstart : SRel2 l W M (.slice A1 l.length c1) n.toNat hil n wr := by
    refine ⟨by omega, sortC (l.take n.toNat), [], by rw [List.append_nil], ?_, fun y hy => (by cases hy), ?_⟩
    ·rw [sortC_len, List.length_take]; omega
    ·have := HR.out.2.2
     rw [List.drop_eq_getElem_cons hil] at this
     simpa using this
   have HST := Aside0.mk hstart
   have hnN : ((n.toNat : Nat) : Int) = n := by omega
   have HNN := Aside0.mk hnN
   clear hstart hnN
   go_wp2
   go_loopw [4] (fun i wr => ∃ k : Int, i = .int .i64 k ∧ Aside0 (SRel2 l W M (.slice A1 l.length c1) n.toNat hil k wr)) (fun i _ => (intOf i).toNat)
   case atStart => exact ⟨n, rfl, HST⟩
   case round =>
    obtain ⟨k, rfl, HR2⟩ := hrel
    have hk0 := HR2.out.1
    have HEX := Aside0.mk (fun (w2 : World) (hb : Below wr.heap.size wr w2) => (⟨hk0, by obtain ⟨a, b, h1, h2, h3, h4⟩ := HR2.out.2; exact ⟨a, b, h1, h2, h3, h4.below hb⟩⟩ : SRel2 l W M (.slice A1 l.length c1) n.toNat hil k w2))
    by_cases hkz : k = 0
    ·have g1 : decide (0 < k) = false := decide_eq_false (by omega)
     have g2 : decide (k > 0) = false := decide_eq_false (by omega)
     have HKZ := Aside0.mk hkz
     clear hkz
     go_upto_region 6 with (fail)
     go_quiet (fail)
     have hfin : SRel1 l W M (.slice A1 l.length c1) (n + 1) (wr.drewN nq) := by
      have h := srel2_exit (HEX.out _ (pw_below_drewN (Below.refl _ _) nq)) (fun a b y h1 h2 h3 => by
       have h4 := HKZ.out
       have : a = [] := List.eq_nil_of_length_eq_zero (by omega)
       rw [this] at h3
       cases h3) (by omega)
      rw [HNN.out] at h
      exact h
     have HF := Aside0.mk hfin
     clear hfin
     go_wp2
     go_roundw
     case rel => exact ⟨n + 1, by go_num, HF⟩
     case measure => simp [intOf]; omega
    ·have g1 : decide (0 < k) = true := decide_eq_true (by omega)
     have g2 : decide (k > 0) = true := decide_eq_true (by omega)
     obtain ⟨a, b, ha, hal, hbl, hS⟩ := HR2.out.2
     obtain ⟨a', y, haa⟩ : ∃ a' y, a = a' ++ [y] := by
      refine ⟨a.dropLast, a.getLast (fun e => by rw [e] at hal; simp at hal; omega), ?_⟩
      exact (List.dropLast_concat_getLast _).symm
     obtain ⟨j, hj⟩ : ∃ j, j = k - 1 := ⟨_, rfl⟩
     have hal' : a'.length = j.toNat := by rw [haa, List.length_append, List.length_singleton] at hal; omega
     have hxl := (Kd.N_reads' hS.1).1
     obtain ⟨g, cap, hv, hg0, hg1, _⟩ := Kd.N_form hS.1 (by omega)
     rw [← hxl] at hv
     cases hv
     have hkl : k < (l.length : Int) := by
      rw [List.length_append, List.length_cons, List.length_append, List.length_drop] at hxl
      omega
     have hjn : j.toNat + 1 = k.toNat := by omega
     have hjl : j < (l.length : Int) := by omega
     have hj0 : 0 ≤ j := by omega
     have hi1 : k.toNat < (a ++ l[n.toNat] :: (b ++ l.drop (n.toNat + 1))).length := by omega
     have hi2 : j.toNat < (a ++ l[n.toNat] :: (b ++ l.drop (n.toNat + 1))).length := by omega
     have hxe : (a ++ l[n.toNat] :: (b ++ l.drop (n.toNat + 1)))[k.toNat] = l[n.toNat] := by
      have hka : a.length = k.toNat := by omega
      simp [List.getElem_append, hka]
     have hye : (a ++ l[n.toNat] :: (b ++ l.drop (n.toNat + 1)))[j.toNat] = y := by
      subst haa
      simp [List.getElem_append, hal']
     obtain ⟨Ax, cx, fx, rx, lx, _, kx⟩ := cls_elem hS.1 k.toNat hi1 hxl
     obtain ⟨Ay, cy, fy, ry, ly, _, ky⟩ := cls_elem hS.1 j.toNat hi2 hxl
     rw [hxe] at fx lx kx
     rw [hye] at fy ly ky
     generalize hxs : a ++ l[n.toNat] :: (b ++ l.drop (n.toNat + 1)) = xs at hS hxl hi1 hi2 hxe hye
     generalize hx : l[n.toNat] = x at fx lx kx hbl hxe
     obtain ⟨x0, x1, x2, x3, x4, x5, x6, x7, x8, x9⟩ := cls_facts fx
     obtain ⟨y0, y1, y2, y3, y4, y5, y6, y7, y8, y9⟩ := cls_facts fy
     have rx0 := rx 0
     have ry0 := ry 0
     rw [Nat.add_zero] at rx0 ry0
     have HS := Aside0.mk hS
     have HXS := Aside0.mk hxs
     have HX := Aside0.mk hx
     have HHX := Aside0.mk hxe
     have HHY := Aside0.mk hye
     have HXL := Aside0.mk hxl
     have KX := Aside0.mk kx
     have KY := Aside0.mk ky
     have HA := Aside0.mk ha
     have HAA := Aside0.mk haa
     have HAL := Aside0.mk hal'
     have HBL := Aside0.mk hbl
     have HJN := Aside0.mk hjn
     have HJ := Aside0.mk hj
     have hw64 : wrap64 (k - 1) = j := by unfold wrap64; omega
     have hwi : IntKind.i64.wrap (k - 1) = j := by rw [IntKind.wrap_i64]; omega
     clear hS hxs hx hxe hye hxl kx ky ha haa hal hal' hbl hjn fx fy hkz
     cases hls : Op.bytesLess x.f0.f0.toList y.f0.f0.toList with
     | false =>
      clear hj
      go_upto_region 6 with (fail)
      go_quiet (fail)
      have hfin : SRel1 l W M (.slice (some ⟨g, 0, none⟩) l.length c1) (n + 1) (wr.drewN nq) := by
       have h := srel2_exit (HEX.out _ (pw_below_drewN (Below.refl _ _) nq)) (fun a2 b2 y2 h1 h2 h3 => by
        have e1 : a2 = a := by
         have h4 := HA.out
         rw [h1] at h4
         have hl2 : a2.length = a.length := by
          have := HAL.out; have := HJ.out
          rw [HAA.out, List.length_append, List.length_singleton]
          omega
         exact (List.append_inj h4 hl2).1
        rw [e1, HAA.out, List.getLast?_append] at h3
        simp at h3
        subst h3
        rw [HX.out]
        exact hls) (by omega)
       rw [HNN.out] at h
       exact h
      have HF := Aside0.mk hfin
      clear hfin hw64 hwi
      go_wp2
      go_roundw
      case rel => exact ⟨n + 1, by go_num, HF⟩
      case measure => simp [intOf]; omega
     | true =>
      clear hj
      go_upto_region 6 with (fail)
      go_quiet (fail)
      go_upto_region 8 with (fail)
      refine start_ (n := 18) (S := fun w' => w'.cell? ⟨g, j.toNat * 10, none⟩ = some (.string y.f0.f0) ∧ w'.cell? ⟨g, j.toNat * 10 + 1, none⟩ = some (.string y.f0.f1) ∧ w'.cell? ⟨g, j.toNat * 10 + 2, none⟩ = some (.string y.f0.f2) ∧ w'.cell? ⟨g, j.toNat * 10 + 3, none⟩ = some (.int .u8 y.f0.f3) ∧ w'.cell? ⟨g, j.toNat * 10 + 4, none⟩ = some (.int .i64 y.f0.f4.f0) ∧ w'.cell? ⟨g, j.toNat * 10 + 5, none⟩ = some (.int .i64 y.f0.f4.f1) ∧ w'.cell? ⟨g, j.toNat * 10 + 6, none⟩ = some (.int .i64 y.f0.f4.f2) ∧ w'.cell? ⟨g, j.toNat * 10 + 7, none⟩ = some (.int .i64 y.f0.f4.f3) ∧ w'.cell? ⟨g, j.toNat * 10 + 8, none⟩ = some (.slice Ay y.f0.f5.length cy) ∧ w'.cell? ⟨g, j.toNat * 10 + 9, none⟩ = some (.int .i64 y.f1) ∧ w'.cell? ⟨g, k.toNat * 10, none⟩ = some (.string x.f0.f0) ∧ w'.cell? ⟨g, k.toNat * 10 + 1, none⟩ = some (.string x.f0.f1) ∧ w'.cell? ⟨g, k.toNat * 10 + 2, none⟩ = some (.string x.f0.f2) ∧ w'.cell? ⟨g, k.toNat * 10 + 3, none⟩ = some (.int .u8 x.f0.f3) ∧ w'.cell? ⟨g, k.toNat * 10 + 4, none⟩ = some (.int .i64 x.f0.f4.f0) ∧ w'.cell? ⟨g, k.toNat * 10 + 5, none⟩ = some (.int .i64 x.f0.f4.f1) ∧ w'.cell? ⟨g, k.toNat * 10 + 6, none⟩ = some (.int .i64 x.f0.f4.f2) ∧ w'.cell? ⟨g, k.toNat * 10 + 7, none⟩ = some (.int .i64 x.f0.f4.f3) ∧ w'.cell? ⟨g, k.toNat * 10 + 8, none⟩ = some (.slice Ax x.f0.f5.length cx) ∧ w'.cell? ⟨g, k.toNat * 10 + 9, none⟩ = some (.int .i64 x.f1)) (ds := [15, 17]) sortedwA_0 (by kernel_rfl) rfl rfl ⟨by exact y0, by exact y1, by exact y2, by exact y3, by exact y4, by exact y5, by exact y6, by exact y7, by exact y8, by exact y9, by exact x0, by exact x1, by exact x2, by exact x3, by exact x4, by exact x5, by exact x6, by exact x7, by exact x8, by exact x9⟩ (fun hHeld => ?_)
      generalize hwq : World.drew _ = wq at hHeld ⊢
      have hq0 : Below wr.heap.size wr wq := by rw [← hwq]; exact below_drew (pw_below_drewN (Below.refl _ _) _)
      have hNq := HS.out.below hq0
      have put1 := N_put hNq.1 k.toNat (by omega) HXL.out (x := y) (v := .slice Ay y.f0.f5.length cy) (Kd.FK_below KY.out hq0)
      have rqx : ∀ q, wq.frozen? ⟨g, k.toNat * 10 + q, none⟩ = false := fun q => by rw [← hwq]; exact rx q
      have rqx0 : wq.frozen? ⟨g, k.toNat * 10, none⟩ = false := by rw [← hwq]; exact rx0
      have HNQ := Aside0.mk hNq
      have HQ0 := Aside0.mk hq0
      clear hNq hq0
      refine pur_ (i := 0) (N := some 39) sortedwA_1 (by kernel_rfl) ?_
      refine pur_ (i := 1) (N := some 40) sortedwA_2 (by kernel_rfl) ?_
      refine pur_ (i := 2) (N := some 41) sortedwA_3 (by kernel_rfl) ?_
      refine pur_ (i := 3) (N := some 42) sortedwA_4 (by kernel_rfl) ?_
      refine pur_ (i := 4) (N := some 43) sortedwA_5 (by kernel_rfl) ?_
      refine pur_ (i := 5) (N := some 44) sortedwA_6 (by kernel_rfl) ?_
      refine pur_ (i := 6) (N := some 45) sortedwA_7 (by kernel_rfl) ?_
      refine pur_ (i := 7) (N := some 46) sortedwA_8 (by kernel_rfl) ?_
      refine pur_ (i := 8) (N := some 47) sortedwA_9 (by kernel_rfl) ?_
      refine tak_ (i := 9) (N := some 48) sortedwA_10 (by kernel_rfl) hHeld ?_
      refine pur_ (i := 10) (N := some 49) sortedwA_11 (by kernel_rfl) ?_
      refine pur_ (i := 11) (N := some 50) sortedwA_12 (by kernel_rfl) ?_
      refine pur_ (i := 12) (N := some 51) sortedwA_13 (by kernel_rfl) ?_
      refine tak_ (i := 13) (N := some 52) sortedwA_14 (by kernel_rfl) hHeld ?_
      refine pur_ (i := 14) (N := some 53) sortedwA_15 (by kernel_rfl) ?_
      refine last_ (i := 15) (N := none) sortedwA_16 rfl rfl (by kernel_rfl) (by decide) (fun K hK => ?_)
      refine skip_ (w1 := wq.setCells g (k.toNat * 10) (clsCells y (.slice Ay y.f0.f5.length cy))) (by rfl) rfl ?_ ?_
      rotate_left
      ·refine hK.out _ _ ?_
       clear hK K
       obtain ⟨HP1, HG1⟩ := put1
       have hr2 := cls_elem HP1 j.toNat (by rw [List.length_set]; omega) (by rw [List.length_set]; exact HXL.out)
       obtain ⟨_, _, f2, r2, _, _, _⟩ := hr2
       generalize hw2 : wq.setCells g (k.toNat * 10) (clsCells y (.slice Ay y.f0.f5.length cy)) = w2 at HP1 HG1 r2 f2 ⊢
       obtain ⟨z0, z1, z2, z3, z4, z5, z6, z7, z8, z9⟩ := cls_facts f2
       have r20 := r2 0
       rw [Nat.add_zero] at r20
       have HP1 := Aside0.mk HP1
       have HG1 := Aside0.mk HG1
       clear hw2
       refine pur_ (i := 16) (N := some 54) sortedwA_17 (by kernel_rfl) ?_
       refine last_ (i := 17) (N := none) sortedwA_18 rfl rfl (by kernel_rfl) (by decide) (fun K hK => ?_)
       refine skip_ (w1 := w2.setCells g (j.toNat * 10) (clsCells x (.slice Ax x.f0.f5.length cx))) (by rfl) rfl ?_ ?_
       rotate_left
       ·refine hK.out _ _ ?_
        clear hK K
        refine done_ (by kernel_rfl) ?_
        have hput2 := N_put HP1.out j.toNat (by rw [List.length_set]; omega) (by rw [List.length_set]; exact HXL.out) (x := x) (v := .slice Ax x.f0.f5.length cx) (Kd.FK_grown (Kd.FK_below KX.out HQ0.out) HG1.out (fun q hq e => by cases e; exact hq.2 rfl))
        have hgs := HG1.out.size
        have hgs2 := hput2.2.size
        have hfin : SRel2 l W M (.slice (some ⟨g, 0, none⟩) l.length c1) n.toNat hil j (w2.setCells g (j.toNat * 10) (clsCells x (.slice Ax x.f0.f5.length cx))) := by
         refine ⟨hj0, a', y :: b, ?_, ?_, ?_, ?_, ?_, ?_⟩
         ·rw [HA.out, HAA.out]; simp
         ·have := HAL.out; omega
         ·intro z hz
          rw [HX.out]
          rcases List.mem_cons.1 hz with rfl | hz
          ·exact hls
          ·exact HBL.out z hz
         ·have e := turn_row (b := b) (x := x) (y := y) (r := l.drop (n.toNat + 1)) a' HAA.out
          have e2 := HXS.out
          rw [HX.out] at e2 ⊢
          rw [e2, HAL.out, HJN.out] at e
          rw [← e]
          exact hput2.1
         ·exact HNQ.out.2.1.grown (HG1.out.trans hput2.2) HNQ.out.2.1.size (fun q hq => by cases hq; exact hg0)
         ·have := HNQ.out.2.2
          omega
        have HF := Aside0.mk hfin
        clear hfin hput2 hwi hHeld
        generalize w2.setCells g (j.toNat * 10) (clsCells x (.slice Ax x.f0.f5.length cx)) = w3 at HF ⊢
        go_wp2
        go_roundw
        case rel => exact ⟨j, by rw [HJ.out], HF⟩
        case measure => simp [intOf]; have := HJN.out; omega
       ·go_simp
        rfl
      ·go_simp
       rfl
  ·have c1b : decide (n < (l.length : Int)) = false := decide_eq_false hlt
   have hdone : SRow W wr M (.slice A1 l.length c1) (sortC l) := by
    have h := HR.out.2.2
    rw [List.take_of_length_le (by have := HR.out.2.1; omega), List.drop_eq_nil_of_le (by have := HR.out.2.1; omega), List.append_nil] at h
    exact h
   have hsl := sortC_len l
   have hzs : ∀ x ∈ sortC l, x.f0.f5.length ≤ 140737488351232 := fun x hx => HZ.out x ((sortC_perm l).mem_iff.1 hx)
   have HZS := Aside0.mk hzs
   have HSO : Aside0 (sortedF l = (sortC l).mapIdx (fun i x => outC (sortC l) i x)) := ⟨rfl⟩
   generalize hse : sortC l = s at hdone hsl HZS HSO
   have HSL := Aside0.mk hsl
   have hstart : SRel3 s W M (.slice A1 l.length c1) 0 (.slice none 0 0) wr := ⟨by omega, by omega, hdone, Kd.N_nil _ _ _ _ _⟩
   have HST := Aside0.mk hstart
   clear hstart hdone hse hzs hsl
   go_wp2
   go_loopw [6, 5] (fun i o wr => ∃ n : Int, i = .int .i64 n ∧ Aside0 (SRel3 s W M (.slice A1 l.length c1) n o wr)) (fun i _ _ => (l.length - (intOf i)).toNat)
   case atStart => exact ⟨0, rfl, HST⟩
   case round =>
    obtain ⟨n, rfl, HR⟩ := hrel
    have h0 := HR.out.1
    have h1 := HR.out.2.1
    have hS := HR.out.2.2.1
    have hO := HR.out.2.2.2
    generalize houts : (s.mapIdx (fun i x => outC s i x)).take n.toNat = outs at hO
    obtain ⟨Ao, co, rfl⟩ := Kd.N_slice hO
    have hol : outs.length ≤ 1000000000000 := by rw [← houts, List.length_take, List.length_mapIdx]; have := HSL.out; omega
    have HOL := Aside0.mk hol
    have HOUTS := Aside0.mk houts
    have HO := Aside0.mk hO
    have HS := Aside0.mk hS
    clear hol houts hO hS
    by_cases hlt : n < (l.length : Int)
    ·have c1b : decide (n < (l.length : Int)) = true := decide_eq_true hlt
     have hnl : n.toNat < s.length := by have := HSL.out; omega
     obtain ⟨g, cap, hv, hg0, hg1, _⟩ := Kd.N_form HS.out.1 (by omega)
     rw [HSL.out] at hv
     cases hv
     have hgM : g < M := HS.out.1.1 g rfl
     obtain ⟨Ax, cx, fx, rx, lx, fF, _⟩ := cls_elem HS.out.1 n.toNat hnl HSL.out.symm
     have hxb : (s[n.toNat]).f0.f5.length ≤ 140737488351232 := HZS.out _ (List.getElem_mem _)
     have HXE : Aside0 (∀ (q : Nat) (hq : q < s.length), q = n.toNat → s[q] = s[n.toNat]) := ⟨fun q hq e => by subst e; rfl⟩
     generalize hx : s[n.toNat] = x at fx lx fF hxb HXE
     obtain ⟨x0, x1, x2, x3, x4, x5, x6, x7, x8, x9⟩ := cls_facts fx
     have HX := Aside0.mk hx
     have HF := Aside0.mk (Kd.F_mono fF (ok' := fun k => k < M) (fun k hk => hk.1))
     have HLX := Aside0.mk lx
     have hMw := HS.out.2.2
     have HXC := Aside0.mk fx
     clear fx rx lx fF hx
     have hmid : ∀ (q : Nat) (ldr : ByteArray) (wz : World), (wz = (wr.alloc (.cells (boxCells x emp (.slice Ax x.f0.f5.length cx)) 38)).drewN q ∧ ldr = emp ∨ wz = ((wr.alloc (.cells (boxCells x emp (.slice Ax x.f0.f5.length cx)) 38)).drewN q).setCell ⟨wr.heap.size, 2, none⟩ (.string ldr)) → SMid s W M (.slice (some ⟨g, 0, none⟩) l.length c1) (.slice Ao outs.length co) outs x Ax cx wr.heap.size ldr wz := by
      rintro q ldr wz (⟨rfl, rfl⟩ | rfl)
      ·have hb : Below wr.heap.size wr ((wr.alloc (.cells (boxCells x emp (.slice Ax x.f0.f5.length cx)) 38)).drewN q) := pw_below_drewN (below_alloc (Below.refl _ _) _) _
       exact ⟨HS.out.below hb, Kd.N_below HO.out hb, blk_new wr _, Kd.F_below HF.out hb, by show (wr.alloc _).heap.size = _; rw [World.size_alloc], hMw⟩
      ·have hb : Below wr.heap.size wr ((wr.alloc (.cells (boxCells x emp (.slice Ax x.f0.f5.length cx)) 38)).drewN q) := pw_below_drewN (below_alloc (Below.refl _ _) _) _
       have hb2 : Below wr.heap.size wr (((wr.alloc (.cells (boxCells x emp (.slice Ax x.f0.f5.length cx)) 38)).drewN q).setCell ⟨wr.heap.size, 2, none⟩ (.string ldr)) := below_put hb _ _ (Nat.le_refl _) _
       refine ⟨HS.out.below hb2, Kd.N_below HO.out hb2, blk_put (w := (wr.alloc (.cells (boxCells x emp (.slice Ax x.f0.f5.length cx)) 38)).drewN q) (blk_new wr _) 2 _ rfl, Kd.F_below HF.out hb2, ?_, hMw⟩
       rw [World.size_setCell]
       show (wr.alloc _).heap.size = _
       rw [World.size_alloc]
     have HMID := Aside0.mk hmid
     have hnn : (0 : Int) ≤ n := h0
     clear hmid
     by_cases h48 : x.f0.f3 = 48
     ·have e48 : (x.f0.f3 == 48) = true := beq_iff_eq.2 h48
      have H48 := Aside0.mk h48
      clear h48
      go_wp2
      go_loopw [8] (fun i w' => ∃ k : Int, i = .int .i64 k ∧ Aside0 (SRel4 s n.toNat x k ∧ k ≤ n ∧ ∃ q, w' = (wr.alloc (.cells (boxCells x emp (.slice Ax x.f0.f5.length cx)) 38)).drewN q)) (fun i _ => (n + 1 - (intOf i)).toNat)
      case atStart => exact ⟨0, rfl, ⟨⟨by omega, fun q hq hq2 => absurd hq (by omega)⟩, by omega, 0, rfl⟩⟩
      case round =>
       obtain ⟨k, rfl, HR4⟩ := hrel
       obtain ⟨hk0, hno⟩ := HR4.out.1
       have hkn := HR4.out.2.1
       obtain ⟨q4, hw4⟩ := HR4.out.2.2
       have HNO := Aside0.mk hno
       have ckn : decide (k ≤ n) = true := decide_eq_true hkn
       have hkl : k < (l.length : Int) := by omega
       have hks : k.toNat < s.length := by omega
       obtain ⟨Ak, ck, fk, _, _, _, _⟩ := cls_elem HS.out.1 k.toNat hks HSL.out.symm
       have hke : k.toNat = n.toNat → s[k.toNat] = x := fun e => HXE.out _ hks e
       generalize hyk : s[k.toNat] = y at fk hke
       obtain ⟨y0, _, _, y3, _, _, _, _, _, y9⟩ := cls_facts fk
       have HY := Aside0.mk hyk
       have HKE := Aside0.mk hke
       subst hw4
       have z0 : ((wr.alloc (.cells (boxCells x emp (.slice Ax x.f0.f5.length cx)) 38)).drewN q4).cell? ⟨g, k.toNat * 10, none⟩ = some (.string y.f0.f0) := fcell' y0 _
       have z3 : ((wr.alloc (.cells (boxCells x emp (.slice Ax x.f0.f5.length cx)) 38)).drewN q4).cell? ⟨g, k.toNat * 10 + 3, none⟩ = some (.int .u8 y.f0.f3) := fcell' y3 _
       have z9 : ((wr.alloc (.cells (boxCells x emp (.slice Ax x.f0.f5.length cx)) 38)).drewN q4).cell? ⟨g, k.toNat * 10 + 9, none⟩ = some (.int .i64 y.f1) := fcell' y9 _
       have z9n : ((wr.alloc (.cells (boxCells x emp (.slice Ax x.f0.f5.length cx)) 38)).drewN q4).cell? ⟨g, n.toNat * 10 + 9, none⟩ = some (.int .i64 x.f1) := fcell' x9 _
       obtain ⟨b0, b1, b2, b3, b4, b5, b6, b7, b8⟩ := box_facts (w := (wr.alloc (.cells (boxCells x emp (.slice Ax x.f0.f5.length cx)) 38)).drewN q4) (b := wr.heap.size) (blk_new wr (.cells (boxCells x emp (.slice Ax x.f0.f5.length cx)) 38))
       have bz : ((wr.alloc (.cells (boxCells x emp (.slice Ax x.f0.f5.length cx)) 38)).drewN q4).frozen? ⟨wr.heap.size, 2, none⟩ = false := box_soft (w := (wr.alloc (.cells (boxCells x emp (.slice Ax x.f0.f5.length cx)) 38)).drewN q4) (b := wr.heap.size) (blk_new wr (.cells (boxCells x emp (.slice Ax x.f0.f5.length cx)) 38)) 2
       clear fk hyk hke hno
       generalize hwv : (wr.alloc (.cells (boxCells x emp (.slice Ax x.f0.f5.length cx)) 38)).drewN q4 = wv at z0 z3 z9 z9n b0 b1 b2 b3 b4 b5 b6 b7 b8 bz ⊢
       have HWV := Aside0.mk hwv
       clear hwv
       by_cases hm : y.f0.f3 = 48 ∧ y.f1 = x.f1
       ·have m1 : (y.f0.f3 == 48) = true := beq_iff_eq.2 hm.1
        have m2 : (y.f1 == x.f1) = true := beq_iff_eq.2 hm.2
        have hlead : leadC s n.toNat x = y.f0.f0 := by
         rw [← HY.out]
         exact first_here (by omega) hnl H48.out (by rw [HY.out]; exact hm) (fun q hq h => HNO.out q (by omega) (by omega) h)
        have HLEAD := Aside0.mk hlead
        clear hm hlead
        go_upto_region 18 with (fail)
        go_quiet (fail)
        go_upto_region 20 with (fail)
        have hsm := HMID.out (q4 + nq) y.f0.f0 _ (.inr rfl)
        rw [show (wr.alloc (.cells (boxCells x emp (.slice Ax x.f0.f5.length cx)) 38)).drewN (q4 + nq) = (wv.drewN nq) from by rw [← HWV.out, World.drewN_drewN]] at hsm
        have HSM := Aside0.mk hsm
        have HLD : Aside0 (leadC s n.toNat x = y.f0.f0) := HLEAD
        generalize hwz : (wv.drewN nq).setCell ⟨wr.heap.size, 2, none⟩ (.string y.f0.f0) = wz at HSM ⊢
        generalize hld : y.f0.f0 = ldr at HSM HLD
        clear hsm hwz hld b0 b1 b2 b3 b4 b5 b6 b7 b8 bz z0 z3 z9 z9n y0 y3 y9
        obtain ⟨tS, tO, tB, tF, tz, tM⟩ := HSM.out
        obtain ⟨b0, b1, b2, b3, b4, b5, b6, b7, b8⟩ := box_facts tB
        have bz := box_soft tB 8
        have tC := Kd.F_now tF
        have tbne : ∀ k : Nat, wr.heap.size ≠ wz.heap.size + k := fun k => by omega
        have TS := Aside0.mk tS
        have TO := Aside0.mk tO
        have TB := Aside0.mk tB
        have TC := Aside0.mk tC
        have TF := Aside0.mk tF
        have hwb : wr.heap.size < wz.heap.size := by omega
        have hwW : W.heap.size ≤ wz.heap.size := tS.2.1.size
        have TZ := Aside0.mk tz
        clear tS tO tB tC tF tz tbne
        go_wp2_with (first
         | (at_builtin; refine Kd.R_append_rows (Kd.int .u8) (w0 := W) W.heap.size rfl (.tmp 104) (.tmp 106) 25 5 (.int .u8 0) 1 rfl Tryd.underlying25 infoU8 rfl (by decide) (by decide) (.slice (some ⟨wz.heap.size, 0, none⟩) 0 0) [] x.f0.f5 Ax x.f0.f5.length cx (fun k => wz.heap.size ≤ k) (fun _ => False) rfl rfl (made_u8 wz _ hwW) (Kd.C_alloc TC.out _) (fun _ _ h => h) (fun _ h => h.elim) (fun k hk => by rw [World.size_alloc] at hk; omega) (below_alloc TS.out.2.1 _) (by rw [World.size_alloc]; omega) (by simp; omega) ?_; intro v5 w5 hR5 hB5 hg5 hat5; rw [List.nil_append] at hR5; obtain ⟨A5, c5, rfl, hl5, _⟩ := Kd.R_reads hR5; have hc5 : ∀ q, w5.cell? ⟨wr.heap.size, q, none⟩ = wz.cell? ⟨wr.heap.size, q, none⟩ := (fun q => cell_over wz w5 _ hg5 hwb q); have hf5 : ∀ q, w5.frozen? ⟨wr.heap.size, q, none⟩ = wz.frozen? ⟨wr.heap.size, q, none⟩ := (fun q => froz_over wz w5 _ hg5 hwb q); have hz5 := hg5.size; rw [World.size_alloc] at hz5; have HR5 := Aside0.mk hR5; have HB5 := Aside0.mk hB5; have HG5 := Aside0.mk hg5; have HL5 := Aside0.mk hl5; clear hR5 hB5 hg5 hat5 hl5)
         | (at_builtin; obtain ⟨mS, mO, mF, mB⟩ := tail_mid TS.out TO.out HR5.out HG5.out HB5.out hwb TZ.out tM (.slice A5 x.f0.f5.length c5) hMW; refine Kd.N_append k38 (w0 := W) W.heap.size rfl (.tmp 109) (.tmp 111) 31 38 (.agg #[(.string ⟨#[]⟩), (.string ⟨#[]⟩), (.string ⟨#[]⟩), (.int .u8 0), (.int .i64 0), (.int .i64 0), (.int .i64 0), (.int .i64 0), (.slice none 0 0)]) 112 rfl Tryd.underlying31 infoNode rfl (by decide) (by decide) (.slice Ao outs.length co) outs (⟨x.f0.f0, x.f0.f1, ldr, x.f0.f3, x.f0.f4, x.f0.f5⟩ : Node) [.string x.f0.f0, .string x.f0.f1, .string ldr, .int .u8 x.f0.f3, .int .i64 x.f0.f4.f0, .int .i64 x.f0.f4.f1, .int .i64 x.f0.f4.f2, .int .i64 x.f0.f4.f3, .slice A5 x.f0.f5.length c5] (fun k => M ≤ k) (fun k => wz.heap.size ≤ k) rfl (by rw [World.size_setCell]; rfl) (k38_mkF _ _ _ HL5.out mF) (fun k hk => ⟨by omega, fun e => by have := TO.out.1 k e.symm; omega⟩) (fun k hk => by rw [World.size_setCell] at hk; omega) mO mB (by rw [World.size_setCell]; omega) (by have := HOL.out; omega) ?_; intro v6 w6 hN6 hB6 hg6 hat6; have hz6 := hg6.size; rw [World.size_setCell] at hz6; have hS6 := tail_row mS hg6 TO.out; have HN6 := Aside0.mk hN6; have HB6 := Aside0.mk hB6; have HS6 := Aside0.mk hS6; clear hN6 hB6 hg6 hat6 mS mO mF mB hS6))
        have hfin : SRel3 s W M (.slice (some ⟨g, 0, none⟩) l.length c1) (n + 1) v6 w6 := by
         refine ⟨by omega, by have := HSL.out; omega, HS6.out, ?_⟩
         have e1 : (n + 1).toNat = n.toNat + 1 := by omega
         have e2 : outC s n.toNat (s[n.toNat]'hnl) = (⟨x.f0.f0, x.f0.f1, ldr, x.f0.f3, x.f0.f4, x.f0.f5⟩ : Node) := by
          rw [HX.out]
          unfold outC
          rw [HLD.out]
         rw [e1, outs_snoc hnl, HOUTS.out, e2]
         exact Kd.N_bound HN6.out
        have HFIN := Aside0.mk hfin
        clear hfin HN6 HB6 HS6
        go_roundw
        case rel => exact ⟨n + 1, by go_num, HFIN⟩
        case measure => simp [intOf]; omega
       ·have HNM := Aside0.mk hm
        have hlt2 : k < n := by
         rcases Int.lt_or_eq_of_le hkn with h | h
         ·exact h
         ·exfalso
          have e := HKE.out (by omega)
          apply hm
          rw [e]
          exact ⟨H48.out, rfl⟩
        have hfin : SRel4 s n.toNat x (k + 1) := by
         refine ⟨by omega, fun q hq hq2 => ?_⟩
         rcases Nat.lt_or_ge q k.toNat with h | h
         ·exact HNO.out q (by omega) hq2
         ·obtain rfl : q = k.toNat := by omega
          rw [HY.out]
          exact HNM.out
        have HF4 := Aside0.mk hfin
        have hpick : (y.f0.f3 == 48) = true ∧ (y.f1 == x.f1) = false ∨ (y.f0.f3 == 48) = false := by
         by_cases h1 : y.f0.f3 = 48
         ·exact .inl ⟨beq_iff_eq.2 h1, beq_eq_false_iff_ne.2 (fun h2 => hm ⟨h1, h2⟩)⟩
         ·exact .inr (beq_eq_false_iff_ne.2 h1)
        clear hm hfin
        rcases hpick with ⟨m1, m2⟩ | m1
        all_goals
         go_upto_region 18 with (fail)
         go_quiet (fail)
         go_wp2
         go_roundw
         case rel => exact ⟨k + 1, by go_num, ⟨HF4.out, by omega, q4 + nq, by rw [← HWV.out, World.drewN_drewN]⟩⟩
         case measure => simp [intOf]; omega
     ·have e48 : (x.f0.f3 == 48) = false := beq_eq_false_iff_ne.2 h48
      have H48 := Aside0.mk h48
      clear h48
      go_wp2
      go_loopw [8] (fun i w' => i = .int .i64 0 ∧ Aside0 (w' = wr.alloc (.cells (boxCells x emp (.slice Ax x.f0.f5.length cx)) 38))) (fun _ _ => 0)
      case atStart => exact ⟨rfl, ⟨rfl⟩⟩
      case round =>
       obtain ⟨rfl, HW4⟩ := hrel
       have hw4 := HW4.out
       subst hw4
       have ckn : decide (0 ≤ n) = true := decide_eq_true h0
       obtain ⟨d0, d1, d2, d3, d4, d5, d6, d7, d8⟩ := box_facts (w := wr.alloc (.cells (boxCells x emp (.slice Ax x.f0.f5.length cx)) 38)) (b := wr.heap.size) (blk_new wr (.cells (boxCells x emp (.slice Ax x.f0.f5.length cx)) 38))
       go_upto_region 20 with (fail)
       clear d0 d1 d2 d3 d4 d5 d6 d7 d8
       have hsm := HMID.out 0 emp (wr.alloc (.cells (boxCells x emp (.slice Ax x.f0.f5.length cx)) 38)) (.inl ⟨rfl, rfl⟩)
       have HSM := Aside0.mk hsm
       have HLD : Aside0 (leadC s n.toNat x = emp) := ⟨by unfold leadC; rw [if_neg H48.out]⟩
       generalize hwz : wr.alloc (.cells (boxCells x emp (.slice Ax x.f0.f5.length cx)) 38) = wz at HSM ⊢
       generalize hld : emp = ldr at HSM HLD
       clear hsm hwz hld
       obtain ⟨tS, tO, tB, tF, tz, tM⟩ := HSM.out
       obtain ⟨b0, b1, b2, b3, b4, b5, b6, b7, b8⟩ := box_facts tB
       have bz := box_soft tB 8
       have tC := Kd.F_now tF
       have tbne : ∀ k : Nat, wr.heap.size ≠ wz.heap.size + k := fun k => by omega
       have TS := Aside0.mk tS
       have TO := Aside0.mk tO
       have TB := Aside0.mk tB
       have TC := Aside0.mk tC
       have TF := Aside0.mk tF
       have hwb : wr.heap.size < wz.heap.size := by omega
       have hwW : W.heap.size ≤ wz.heap.size := tS.2.1.size
       have TZ := Aside0.mk tz
       clear tS tO tB tC tF tz tbne
       go_wp2_with (first
        | (at_builtin; refine Kd.R_append_rows (Kd.int .u8) (w0 := W) W.heap.size rfl (.tmp 104) (.tmp 106) 25 5 (.int .u8 0) 1 rfl Tryd.underlying25 infoU8 rfl (by decide) (by decide) (.slice (some ⟨wz.heap.size, 0, none⟩) 0 0) [] x.f0.f5 Ax x.f0.f5.length cx (fun k => wz.heap.size ≤ k) (fun _ => False) rfl rfl (made_u8 wz _ hwW) (Kd.C_alloc TC.out _) (fun _ _ h => h) (fun _ h => h.elim) (fun k hk => by rw [World.size_alloc] at hk; omega) (below_alloc TS.out.2.1 _) (by rw [World.size_alloc]; omega) (by simp; omega) ?_; intro v5 w5 hR5 hB5 hg5 hat5; rw [List.nil_append] at hR5; obtain ⟨A5, c5, rfl, hl5, _⟩ := Kd.R_reads hR5; have hc5 : ∀ q, w5.cell? ⟨wr.heap.size, q, none⟩ = wz.cell? ⟨wr.heap.size, q, none⟩ := (fun q => cell_over wz w5 _ hg5 hwb q); have hf5 : ∀ q, w5.frozen? ⟨wr.heap.size, q, none⟩ = wz.frozen? ⟨wr.heap.size, q, none⟩ := (fun q => froz_over wz w5 _ hg5 hwb q); have hz5 := hg5.size; rw [World.size_alloc] at hz5; have HR5 := Aside0.mk hR5; have HB5 := Aside0.mk hB5; have HG5 := Aside0.mk hg5; have HL5 := Aside0.mk hl5; clear hR5 hB5 hg5 hat5 hl5)
        | (at_builtin; obtain ⟨mS, mO, mF, mB⟩ := tail_mid TS.out TO.out HR5.out HG5.out HB5.out hwb TZ.out tM (.slice A5 x.f0.f5.length c5) hMW; refine Kd.N_append k38 (w0 := W) W.heap.size rfl (.tmp 109) (.tmp 111) 31 38 (.agg #[(.string ⟨#[]⟩), (.string ⟨#[]⟩), (.string ⟨#[]⟩), (.int .u8 0), (.int .i64 0), (.int .i64 0), (.int .i64 0), (.int .i64 0), (.slice none 0 0)]) 112 rfl Tryd.underlying31 infoNode rfl (by decide) (by decide) (.slice Ao outs.length co) outs (⟨x.f0.f0, x.f0.f1, ldr, x.f0.f3, x.f0.f4, x.f0.f5⟩ : Node) [.string x.f0.f0, .string x.f0.f1, .string ldr, .int .u8 x.f0.f3, .int .i64 x.f0.f4.f0, .int .i64 x.f0.f4.f1, .int .i64 x.f0.f4.f2, .int .i64 x.f0.f4.f3, .slice A5 x.f0.f5.length c5] (fun k => M ≤ k) (fun k => wz.heap.size ≤ k) rfl (by rw [World.size_setCell]; rfl) (k38_mkF _ _ _ HL5.out mF) (fun k hk => ⟨by omega, fun e => by have := TO.out.1 k e.symm; omega⟩) (fun k hk => by rw [World.size_setCell] at hk; omega) mO mB (by rw [World.size_setCell]; omega) (by have := HOL.out; omega) ?_; intro v6 w6 hN6 hB6 hg6 hat6; have hz6 := hg6.size; rw [World.size_setCell] at hz6; have hS6 := tail_row mS hg6 TO.out; have HN6 := Aside0.mk hN6; have HB6 := Aside0.mk hB6; have HS6 := Aside0.mk hS6; clear hN6 hB6 hg6 hat6 mS mO mF mB hS6))
       have hfin : SRel3 s W M (.slice (some ⟨g, 0, none⟩) l.length c1) (n + 1) v6 w6 := by
        refine ⟨by omega, by have := HSL.out; omega, HS6.out, ?_⟩
        have e1 : (n + 1).toNat = n.toNat + 1 := by omega
        have e2 : outC s n.toNat (s[n.toNat]'hnl) = (⟨x.f0.f0, x.f0.f1, ldr, x.f0.f3, x.f0.f4, x.f0.f5⟩ : Node) := by
         rw [HX.out]
         unfold outC
         rw [HLD.out]
        rw [e1, outs_snoc hnl, HOUTS.out, e2]
        exact Kd.N_bound HN6.out
       have HFIN := Aside0.mk hfin
       clear hfin HN6 HB6 HS6
       go_roundw
       case rel => exact ⟨n + 1, by go_num, HFIN⟩
       case measure => simp [intOf]; omega
    ·have c1b : decide (n < (l.length : Int)) = false := decide_eq_false hlt
     go_wp2
     rw [← hQ.out]
     refine ⟨_, rfl, ?_, HS.out.2.1⟩
     have e : outs = sortedF l := by rw [HSO.out, ← HOUTS.out, List.take_of_length_le (by rw [List.length_mapIdx]; have := HSL.out; omega)]
     rw [← e]
     exact Kd.N_mono HO.out (fun k hk => by have := hk.1; have := HS.out.2.2; omega)
end Go.Proofs.YtfmphccoeinhcaaDoor

namespace Go.Proofs.YtfmphccoeinhcaaDoor
open Go.Proofs.YtfmphccoeinhcaaDoor.Print
def clsZ (l : List Cls) : Bool := decide (l.length ≤ 1000000000000) && l.all (fun x => decide (x.f0.f5.length ≤ 140737488351232))
theorem clsZ_iff (l : List Cls) : clsZ l = true ↔ l.length ≤ 1000000000000 ∧ ∀ x ∈ l, x.f0.f5.length ≤ 140737488351232 := by simp [clsZ]
end Go.Proofs.YtfmphccoeinhcaaDoor
namespace Go.Proofs.YtfmphccoeinhcaaDoor.Print
open Go.RowKit Go.Proofs.YtfmphccoeinhcaaDoor Go.Proofs.YtfmphccoeinhcaaDoorW.PrintWords Go.Proofs.YtfmphccoeinhcaaDoorW.PrintLast Go.Proofs.YtfmphccoeinhcaaDoorW.PrintMore
set_option linter.unusedVariables false
def bindleref08_Sorted.f (l : List S60) : Option (List S38) := if clsZ l = true then some (sortedF l) else none
theorem bindleref08_Sorted.calls (A0 : Option Addr) (c0 : Nat) (l0 : List S60) (r : List S38) (w : World) (hr0 : Kd.C k60 w A0 l0.length l0) (hc0 : l0.length ≤ c0) (h : bindleref08_Sorted.f l0 = some r) :
  Calls Tryd.prog 29 #[.slice A0 l0.length c0] w fun e w' => ∃ v0_ : Value, e = .returned v0_ ∧ Kd.V k38 38 w' w.heap.size (fun k_ => w.heap.size ≤ k_) v0_ r ∧ Below w.heap.size w w' := by
 unfold bindleref08_Sorted.f at h
 split at h
 ·rename_i hc
  simp only [Option.some.injEq] at h
  obtain ⟨h1, h2⟩ := (clsZ_iff l0).1 hc
  refine (Sorted_calls A0 c0 l0 w hr0 h1 h2).mono ?_
  rintro e w' ⟨v, rfl, hV, hB⟩
  rw [h] at hV
  exact ⟨v, rfl, Kd.N_V hV, hB⟩
 ·cases h
end Go.Proofs.YtfmphccoeinhcaaDoor.Print

namespace Go.Proofs.YtfmphccoeinhcaaDoor.Print
open Go.RowKit Go.Proofs.YtfmphccoeinhcaaDoorW.PrintWords Go.Proofs.YtfmphccoeinhcaaDoorW.PrintLast Go.Proofs.YtfmphccoeinhcaaDoorW.PrintMore
attribute [local go_sem] max2_int min2_int max_two min_two max_three min_three max_four min_four   -- for this text's walks alone
set_option linter.unusedVariables false
set_option linter.unusedSimpArgs false
attribute [local go_sem high] eqA24
def bindleref08_Equal.f (a0_0 : ByteArray) (a0_1 : ByteArray) (a0_2 : ByteArray) (a0_3 : Int) (a0_4 : Int) (a0_5 : Int) (a0_6 : Int) (a0_7 : Int) (l0_8 : List Int) (a1_0 : ByteArray) (a1_1 : ByteArray) (a1_2 : ByteArray) (a1_3 : Int) (a1_4 : Int) (a1_5 : Int) (a1_6 : Int) (a1_7 : Int) (l1_8 : List Int) : Option (Bool) := if a0_0.toList = a1_0.toList then (if a0_3 = a1_3 then (if (a0_4 == a1_4 && (a0_5 == a1_5 && (a0_6 == a1_6 && (a0_7 == a1_7)))) = true then (if a0_1.toList = a1_1.toList then (some ((strOfNums l0_8).toList == (strOfNums l1_8).toList)) else (some false)) else (some false)) else (some false)) else (some false)
set_option maxHeartbeats 8000000 in
set_option maxRecDepth 100000 in
theorem bindleref08_Equal.calls (a0_0 : ByteArray) (a0_1 : ByteArray) (a0_2 : ByteArray) (a0_3 : Int) (a0_4 : Int) (a0_5 : Int) (a0_6 : Int) (a0_7 : Int) (A0_8 : Option Addr) (c0_8 : Nat) (l0_8 : List Int) (a1_0 : ByteArray) (a1_1 : ByteArray) (a1_2 : ByteArray) (a1_3 : Int) (a1_4 : Int) (a1_5 : Int) (a1_6 : Int) (a1_7 : Int) (A1_8 : Option Addr) (c1_8 : Nat) (l1_8 : List Int) (r : Bool) (w : World) (hr0_8 : Kd.C (Kd.int .u8) w A0_8 l0_8.length l0_8) (hc0_8 : l0_8.length ≤ c0_8) (hr1_8 : Kd.C (Kd.int .u8) w A1_8 l1_8.length l1_8) (hc1_8 : l1_8.length ≤ c1_8) (h : bindleref08_Equal.f a0_0 a0_1 a0_2 a0_3 a0_4 a0_5 a0_6 a0_7 l0_8 a1_0 a1_1 a1_2 a1_3 a1_4 a1_5 a1_6 a1_7 l1_8 = some r) :
  Calls Tryd.prog 20 #[.agg #[.string a0_0, .string a0_1, .string a0_2, .int .u8 a0_3, .int .i64 a0_4, .int .i64 a0_5, .int .i64 a0_6, .int .i64 a0_7, .slice A0_8 l0_8.length c0_8], .agg #[.string a1_0, .string a1_1, .string a1_2, .int .u8 a1_3, .int .i64 a1_4, .int .i64 a1_5, .int .i64 a1_6, .int .i64 a1_7, .slice A1_8 l1_8.length c1_8]] w fun e w' => e = .returned (.bool r) ∧ Below w.heap.size w w' := by
 have hu38 := Tryd.underlying38
 have hu24 := Tryd.underlying24
 have HR0_8 := A0_ hr0_8
 have HC0_8 := A0_ hc0_8
 clear hr0_8 hc0_8
 have HR1_8 := A0_ hr1_8
 have HC1_8 := A0_ hc1_8
 clear hr1_8 hc1_8
 have HB := A0_ (Below.refl w.heap.size w)
 have H : (if a0_0.toList = a1_0.toList then (if a0_3 = a1_3 then (if (a0_4 == a1_4 && (a0_5 == a1_5 && (a0_6 == a1_6 && (a0_7 == a1_7)))) = true then (if a0_1.toList = a1_1.toList then (some ((strOfNums l0_8).toList == (strOfNums l1_8).toList)) else (some false)) else (some false)) else (some false)) else (some false)) = some r := h
 clear h
 by_cases c3 : a0_0.toList = a1_0.toList
 rotate_left
 ·rw [if_neg c3] at H
  have c3b0 : (a0_0.toList == a1_0.toList) = false := beq_eq_false_iff_ne.mpr c3
  have c3b1 : (a0_0.toList != a1_0.toList) = true := bne_iff_ne.mpr c3
  obtain rfl := Option.some.inj H
  go_enter Tryd.func20, Tryd.ntmps20
  go_wp2_with (first | ((with_reducible refine gate_dst (N := 2) rfl ?_); refine box_event ?hg (N := 2) ?hd (cs := #[.string a0_0, .string a0_1, .string a0_2, .int .u8 a0_3, .int .i64 a0_4, .int .i64 a0_5, .int .i64 a0_6, .int .i64 a0_7, .slice A0_8 l0_8.length c0_8]) (t := 38) ?hr ?_; (case hd => rfl); (case hg => rfl); (case hr => first | (go_simp; done) | (go_simp; rfl)); intro gb118 hg w29 hbox hb; have n0_ := A0_ (below_step (wb_ HB.out) hb); have n1_ := A0_ (hbox); have n2_ := A0_ ((by rw [hg]; exact (below_size (wb_ HB.out)) : w.heap.size ≤ gb118)); have n3_ := A0_ ((by rw [hg]; exact (below_size (wb_ HB.out)) : w.heap.size ≤ gb118)); clear HB; have HB := n0_; have BK118 := n1_; have GW118 := n2_; have GE118 := n3_; clear n0_ n1_ n2_ n3_; clear hb hbox hg) | ((with_reducible refine gate_dst (N := 3) rfl ?_); refine box_event ?hg (N := 3) ?hd (cs := #[.string a1_0, .string a1_1, .string a1_2, .int .u8 a1_3, .int .i64 a1_4, .int .i64 a1_5, .int .i64 a1_6, .int .i64 a1_7, .slice A1_8 l1_8.length c1_8]) (t := 38) ?hr ?_; (case hd => rfl); (case hg => rfl); (case hr => first | (go_simp; done) | (go_simp; rfl)); intro gb119 hg w30 hbox hb; have n0_ := A0_ (blk_below (g := gb118) (o := .cells #[.string a0_0, .string a0_1, .string a0_2, .int .u8 a0_3, .int .i64 a0_4, .int .i64 a0_5, .int .i64 a0_6, .int .i64 a0_7, .slice A0_8 l0_8.length c0_8] 38 (0, 0)) (wB_ BK118.out) hb); have n1_ := A0_ (below_step (wb1_ HB.out GE118.out) hb); have n2_ := A0_ (hbox); have n3_ := A0_ ((by rw [hg]; exact (below_size (wb1_ HB.out GE118.out)) : w.heap.size ≤ gb119)); have n4_ := A0_ ((by rw [hg]; exact (below_size (wb1_ HB.out GE118.out)) : w.heap.size ≤ gb119)); have n5_ := A0_ ((by rw [hg]; exact Nat.ne_of_lt (blk_lt (g := gb118) (o := .cells #[.string a0_0, .string a0_1, .string a0_2, .int .u8 a0_3, .int .i64 a0_4, .int .i64 a0_5, .int .i64 a0_6, .int .i64 a0_7, .slice A0_8 l0_8.length c0_8] 38 (0, 0)) (wB_ BK118.out)) : gb118 ≠ gb119)); have n6_ := A0_ ((by rw [hg]; exact Nat.ne_of_gt (blk_lt (g := gb118) (o := .cells #[.string a0_0, .string a0_1, .string a0_2, .int .u8 a0_3, .int .i64 a0_4, .int .i64 a0_5, .int .i64 a0_6, .int .i64 a0_7, .slice A0_8 l0_8.length c0_8] 38 (0, 0)) (wB_ BK118.out)) : gb119 ≠ gb118)); clear BK118; clear HB; have BK118 := n0_; have HB := n1_; have BK119 := n2_; have GW119 := n3_; have GE119 := n4_; have NB118_119 := n5_; have NB119_118 := n6_; clear n0_ n1_ n2_ n3_ n4_ n5_ n6_; clear hb hbox hg; have hnb31 := NB118_119.out; have hnc31 := NB119_118.out; have hcz32_0 : w30.cell? ⟨gb118, 0, none⟩ = some (.string a0_0) := (bc_ BK118.out 0).trans rfl; have hcz32_1 : w30.cell? ⟨gb118, 1, none⟩ = some (.string a0_1) := (bc_ BK118.out 1).trans rfl; have hcz32_2 : w30.cell? ⟨gb118, 2, none⟩ = some (.string a0_2) := (bc_ BK118.out 2).trans rfl; have hcz32_3 : w30.cell? ⟨gb118, 3, none⟩ = some (.int .u8 a0_3) := (bc_ BK118.out 3).trans rfl; have hcz32_4 : w30.cell? ⟨gb118, 4, none⟩ = some (.int .i64 a0_4) := (bc_ BK118.out 4).trans rfl; have hcz32_5 : w30.cell? ⟨gb118, 5, none⟩ = some (.int .i64 a0_5) := (bc_ BK118.out 5).trans rfl; have hcz32_6 : w30.cell? ⟨gb118, 6, none⟩ = some (.int .i64 a0_6) := (bc_ BK118.out 6).trans rfl; have hcz32_7 : w30.cell? ⟨gb118, 7, none⟩ = some (.int .i64 a0_7) := (bc_ BK118.out 7).trans rfl; have hcz32_8 : w30.cell? ⟨gb118, 8, none⟩ = some (.slice A0_8 l0_8.length c0_8) := (bc_ BK118.out 8).trans rfl; have hfz32_0 := bf_ BK118.out 0; have hfz32_1 := bf_ BK118.out 1; have hfz32_2 := bf_ BK118.out 2; have hfz32_3 := bf_ BK118.out 3; have hfz32_4 := bf_ BK118.out 4; have hfz32_5 := bf_ BK118.out 5; have hfz32_6 := bf_ BK118.out 6; have hfz32_7 := bf_ BK118.out 7; have hfz32_8 := bf_ BK118.out 8; have hcz33_0 : w30.cell? ⟨gb119, 0, none⟩ = some (.string a1_0) := (bc_ BK119.out 0).trans rfl; have hcz33_1 : w30.cell? ⟨gb119, 1, none⟩ = some (.string a1_1) := (bc_ BK119.out 1).trans rfl; have hcz33_2 : w30.cell? ⟨gb119, 2, none⟩ = some (.string a1_2) := (bc_ BK119.out 2).trans rfl; have hcz33_3 : w30.cell? ⟨gb119, 3, none⟩ = some (.int .u8 a1_3) := (bc_ BK119.out 3).trans rfl; have hcz33_4 : w30.cell? ⟨gb119, 4, none⟩ = some (.int .i64 a1_4) := (bc_ BK119.out 4).trans rfl; have hcz33_5 : w30.cell? ⟨gb119, 5, none⟩ = some (.int .i64 a1_5) := (bc_ BK119.out 5).trans rfl; have hcz33_6 : w30.cell? ⟨gb119, 6, none⟩ = some (.int .i64 a1_6) := (bc_ BK119.out 6).trans rfl; have hcz33_7 : w30.cell? ⟨gb119, 7, none⟩ = some (.int .i64 a1_7) := (bc_ BK119.out 7).trans rfl; have hcz33_8 : w30.cell? ⟨gb119, 8, none⟩ = some (.slice A1_8 l1_8.length c1_8) := (bc_ BK119.out 8).trans rfl; have hfz33_0 := bf_ BK119.out 0; have hfz33_1 := bf_ BK119.out 1; have hfz33_2 := bf_ BK119.out 2; have hfz33_3 := bf_ BK119.out 3; have hfz33_4 := bf_ BK119.out 4; have hfz33_5 := bf_ BK119.out 5; have hfz33_6 := bf_ BK119.out 6; have hfz33_7 := bf_ BK119.out 7; have hfz33_8 := bf_ BK119.out 8))
  go_ret
  exact ⟨we_, wb2_ HB.out GE118.out GE119.out⟩
 rw [if_pos c3] at H
 have c3b0 : (a0_0.toList == a1_0.toList) = true := beq_iff_eq.mpr c3
 have c3b1 : (a0_0.toList != a1_0.toList) = false := bne_eq_false_iff_eq.mpr c3
 clear c3
 by_cases c4 : a0_3 = a1_3
 rotate_left
 ·rw [if_neg c4] at H
  have c4b0 : (a0_3 == a1_3) = false := beq_eq_false_iff_ne.mpr c4
  have c4b1 : (a0_3 != a1_3) = true := bne_iff_ne.mpr c4
  obtain rfl := Option.some.inj H
  go_enter Tryd.func20, Tryd.ntmps20
  go_wp2_with (first | ((with_reducible refine gate_dst (N := 2) rfl ?_); refine box_event ?hg (N := 2) ?hd (cs := #[.string a0_0, .string a0_1, .string a0_2, .int .u8 a0_3, .int .i64 a0_4, .int .i64 a0_5, .int .i64 a0_6, .int .i64 a0_7, .slice A0_8 l0_8.length c0_8]) (t := 38) ?hr ?_; (case hd => rfl); (case hg => rfl); (case hr => first | (go_simp; done) | (go_simp; rfl)); intro gb118 hg w24 hbox hb; have n0_ := A0_ (below_step (wb_ HB.out) hb); have n1_ := A0_ (hbox); have n2_ := A0_ ((by rw [hg]; exact (below_size (wb_ HB.out)) : w.heap.size ≤ gb118)); have n3_ := A0_ ((by rw [hg]; exact (below_size (wb_ HB.out)) : w.heap.size ≤ gb118)); clear HB; have HB := n0_; have BK118 := n1_; have GW118 := n2_; have GE118 := n3_; clear n0_ n1_ n2_ n3_; clear hb hbox hg) | ((with_reducible refine gate_dst (N := 3) rfl ?_); refine box_event ?hg (N := 3) ?hd (cs := #[.string a1_0, .string a1_1, .string a1_2, .int .u8 a1_3, .int .i64 a1_4, .int .i64 a1_5, .int .i64 a1_6, .int .i64 a1_7, .slice A1_8 l1_8.length c1_8]) (t := 38) ?hr ?_; (case hd => rfl); (case hg => rfl); (case hr => first | (go_simp; done) | (go_simp; rfl)); intro gb119 hg w25 hbox hb; have n0_ := A0_ (blk_below (g := gb118) (o := .cells #[.string a0_0, .string a0_1, .string a0_2, .int .u8 a0_3, .int .i64 a0_4, .int .i64 a0_5, .int .i64 a0_6, .int .i64 a0_7, .slice A0_8 l0_8.length c0_8] 38 (0, 0)) (wB_ BK118.out) hb); have n1_ := A0_ (below_step (wb1_ HB.out GE118.out) hb); have n2_ := A0_ (hbox); have n3_ := A0_ ((by rw [hg]; exact (below_size (wb1_ HB.out GE118.out)) : w.heap.size ≤ gb119)); have n4_ := A0_ ((by rw [hg]; exact (below_size (wb1_ HB.out GE118.out)) : w.heap.size ≤ gb119)); have n5_ := A0_ ((by rw [hg]; exact Nat.ne_of_lt (blk_lt (g := gb118) (o := .cells #[.string a0_0, .string a0_1, .string a0_2, .int .u8 a0_3, .int .i64 a0_4, .int .i64 a0_5, .int .i64 a0_6, .int .i64 a0_7, .slice A0_8 l0_8.length c0_8] 38 (0, 0)) (wB_ BK118.out)) : gb118 ≠ gb119)); have n6_ := A0_ ((by rw [hg]; exact Nat.ne_of_gt (blk_lt (g := gb118) (o := .cells #[.string a0_0, .string a0_1, .string a0_2, .int .u8 a0_3, .int .i64 a0_4, .int .i64 a0_5, .int .i64 a0_6, .int .i64 a0_7, .slice A0_8 l0_8.length c0_8] 38 (0, 0)) (wB_ BK118.out)) : gb119 ≠ gb118)); clear BK118; clear HB; have BK118 := n0_; have HB := n1_; have BK119 := n2_; have GW119 := n3_; have GE119 := n4_; have NB118_119 := n5_; have NB119_118 := n6_; clear n0_ n1_ n2_ n3_ n4_ n5_ n6_; clear hb hbox hg; have hnb26 := NB118_119.out; have hnc26 := NB119_118.out; have hcz27_0 : w25.cell? ⟨gb118, 0, none⟩ = some (.string a0_0) := (bc_ BK118.out 0).trans rfl; have hcz27_1 : w25.cell? ⟨gb118, 1, none⟩ = some (.string a0_1) := (bc_ BK118.out 1).trans rfl; have hcz27_2 : w25.cell? ⟨gb118, 2, none⟩ = some (.string a0_2) := (bc_ BK118.out 2).trans rfl; have hcz27_3 : w25.cell? ⟨gb118, 3, none⟩ = some (.int .u8 a0_3) := (bc_ BK118.out 3).trans rfl; have hcz27_4 : w25.cell? ⟨gb118, 4, none⟩ = some (.int .i64 a0_4) := (bc_ BK118.out 4).trans rfl; have hcz27_5 : w25.cell? ⟨gb118, 5, none⟩ = some (.int .i64 a0_5) := (bc_ BK118.out 5).trans rfl; have hcz27_6 : w25.cell? ⟨gb118, 6, none⟩ = some (.int .i64 a0_6) := (bc_ BK118.out 6).trans rfl; have hcz27_7 : w25.cell? ⟨gb118, 7, none⟩ = some (.int .i64 a0_7) := (bc_ BK118.out 7).trans rfl; have hcz27_8 : w25.cell? ⟨gb118, 8, none⟩ = some (.slice A0_8 l0_8.length c0_8) := (bc_ BK118.out 8).trans rfl; have hfz27_0 := bf_ BK118.out 0; have hfz27_1 := bf_ BK118.out 1; have hfz27_2 := bf_ BK118.out 2; have hfz27_3 := bf_ BK118.out 3; have hfz27_4 := bf_ BK118.out 4; have hfz27_5 := bf_ BK118.out 5; have hfz27_6 := bf_ BK118.out 6; have hfz27_7 := bf_ BK118.out 7; have hfz27_8 := bf_ BK118.out 8; have hcz28_0 : w25.cell? ⟨gb119, 0, none⟩ = some (.string a1_0) := (bc_ BK119.out 0).trans rfl; have hcz28_1 : w25.cell? ⟨gb119, 1, none⟩ = some (.string a1_1) := (bc_ BK119.out 1).trans rfl; have hcz28_2 : w25.cell? ⟨gb119, 2, none⟩ = some (.string a1_2) := (bc_ BK119.out 2).trans rfl; have hcz28_3 : w25.cell? ⟨gb119, 3, none⟩ = some (.int .u8 a1_3) := (bc_ BK119.out 3).trans rfl; have hcz28_4 : w25.cell? ⟨gb119, 4, none⟩ = some (.int .i64 a1_4) := (bc_ BK119.out 4).trans rfl; have hcz28_5 : w25.cell? ⟨gb119, 5, none⟩ = some (.int .i64 a1_5) := (bc_ BK119.out 5).trans rfl; have hcz28_6 : w25.cell? ⟨gb119, 6, none⟩ = some (.int .i64 a1_6) := (bc_ BK119.out 6).trans rfl; have hcz28_7 : w25.cell? ⟨gb119, 7, none⟩ = some (.int .i64 a1_7) := (bc_ BK119.out 7).trans rfl; have hcz28_8 : w25.cell? ⟨gb119, 8, none⟩ = some (.slice A1_8 l1_8.length c1_8) := (bc_ BK119.out 8).trans rfl; have hfz28_0 := bf_ BK119.out 0; have hfz28_1 := bf_ BK119.out 1; have hfz28_2 := bf_ BK119.out 2; have hfz28_3 := bf_ BK119.out 3; have hfz28_4 := bf_ BK119.out 4; have hfz28_5 := bf_ BK119.out 5; have hfz28_6 := bf_ BK119.out 6; have hfz28_7 := bf_ BK119.out 7; have hfz28_8 := bf_ BK119.out 8))
  go_ret
  exact ⟨we_, wb2_ HB.out GE118.out GE119.out⟩
 rw [if_pos c4] at H
 have c4b0 : (a0_3 == a1_3) = true := beq_iff_eq.mpr c4
 have c4b1 : (a0_3 != a1_3) = false := bne_eq_false_iff_eq.mpr c4
 clear c4
 by_cases c5 : (a0_4 == a1_4 && (a0_5 == a1_5 && (a0_6 == a1_6 && (a0_7 == a1_7)))) = true
 rotate_left
 ·rw [if_neg c5] at H
  have c5b0 : (a0_4 == a1_4 && (a0_5 == a1_5 && (a0_6 == a1_6 && (a0_7 == a1_7)))) = false := by simpa using c5
  (try (have c5b1 : decide (a0_4 = a1_4 && (a0_5 == a1_5 && (a0_6 == a1_6 && (a0_7 == a1_7)))) = false := by simpa using c5))
  (try (have c5b2 : (a0_4 == a1_4 && (a0_5 == a1_5 && (a0_6 == a1_6 && (a0_7 == a1_7)))) = false := by simpa using c5))
  (try (have c5b3 : ¬ (a0_4 = a1_4 && (a0_5 == a1_5 && (a0_6 == a1_6 && (a0_7 == a1_7)))) := by simpa using c5))
  clear c5
  obtain rfl := Option.some.inj H
  go_enter Tryd.func20, Tryd.ntmps20
  go_wp2_with (first | ((with_reducible refine gate_dst (N := 2) rfl ?_); refine box_event ?hg (N := 2) ?hd (cs := #[.string a0_0, .string a0_1, .string a0_2, .int .u8 a0_3, .int .i64 a0_4, .int .i64 a0_5, .int .i64 a0_6, .int .i64 a0_7, .slice A0_8 l0_8.length c0_8]) (t := 38) ?hr ?_; (case hd => rfl); (case hg => rfl); (case hr => first | (go_simp; done) | (go_simp; rfl)); intro gb118 hg w19 hbox hb; have n0_ := A0_ (below_step (wb_ HB.out) hb); have n1_ := A0_ (hbox); have n2_ := A0_ ((by rw [hg]; exact (below_size (wb_ HB.out)) : w.heap.size ≤ gb118)); have n3_ := A0_ ((by rw [hg]; exact (below_size (wb_ HB.out)) : w.heap.size ≤ gb118)); clear HB; have HB := n0_; have BK118 := n1_; have GW118 := n2_; have GE118 := n3_; clear n0_ n1_ n2_ n3_; clear hb hbox hg) | ((with_reducible refine gate_dst (N := 3) rfl ?_); refine box_event ?hg (N := 3) ?hd (cs := #[.string a1_0, .string a1_1, .string a1_2, .int .u8 a1_3, .int .i64 a1_4, .int .i64 a1_5, .int .i64 a1_6, .int .i64 a1_7, .slice A1_8 l1_8.length c1_8]) (t := 38) ?hr ?_; (case hd => rfl); (case hg => rfl); (case hr => first | (go_simp; done) | (go_simp; rfl)); intro gb119 hg w20 hbox hb; have n0_ := A0_ (blk_below (g := gb118) (o := .cells #[.string a0_0, .string a0_1, .string a0_2, .int .u8 a0_3, .int .i64 a0_4, .int .i64 a0_5, .int .i64 a0_6, .int .i64 a0_7, .slice A0_8 l0_8.length c0_8] 38 (0, 0)) (wB_ BK118.out) hb); have n1_ := A0_ (below_step (wb1_ HB.out GE118.out) hb); have n2_ := A0_ (hbox); have n3_ := A0_ ((by rw [hg]; exact (below_size (wb1_ HB.out GE118.out)) : w.heap.size ≤ gb119)); have n4_ := A0_ ((by rw [hg]; exact (below_size (wb1_ HB.out GE118.out)) : w.heap.size ≤ gb119)); have n5_ := A0_ ((by rw [hg]; exact Nat.ne_of_lt (blk_lt (g := gb118) (o := .cells #[.string a0_0, .string a0_1, .string a0_2, .int .u8 a0_3, .int .i64 a0_4, .int .i64 a0_5, .int .i64 a0_6, .int .i64 a0_7, .slice A0_8 l0_8.length c0_8] 38 (0, 0)) (wB_ BK118.out)) : gb118 ≠ gb119)); have n6_ := A0_ ((by rw [hg]; exact Nat.ne_of_gt (blk_lt (g := gb118) (o := .cells #[.string a0_0, .string a0_1, .string a0_2, .int .u8 a0_3, .int .i64 a0_4, .int .i64 a0_5, .int .i64 a0_6, .int .i64 a0_7, .slice A0_8 l0_8.length c0_8] 38 (0, 0)) (wB_ BK118.out)) : gb119 ≠ gb118)); clear BK118; clear HB; have BK118 := n0_; have HB := n1_; have BK119 := n2_; have GW119 := n3_; have GE119 := n4_; have NB118_119 := n5_; have NB119_118 := n6_; clear n0_ n1_ n2_ n3_ n4_ n5_ n6_; clear hb hbox hg; have hnb21 := NB118_119.out; have hnc21 := NB119_118.out; have hcz22_0 : w20.cell? ⟨gb118, 0, none⟩ = some (.string a0_0) := (bc_ BK118.out 0).trans rfl; have hcz22_1 : w20.cell? ⟨gb118, 1, none⟩ = some (.string a0_1) := (bc_ BK118.out 1).trans rfl; have hcz22_2 : w20.cell? ⟨gb118, 2, none⟩ = some (.string a0_2) := (bc_ BK118.out 2).trans rfl; have hcz22_3 : w20.cell? ⟨gb118, 3, none⟩ = some (.int .u8 a0_3) := (bc_ BK118.out 3).trans rfl; have hcz22_4 : w20.cell? ⟨gb118, 4, none⟩ = some (.int .i64 a0_4) := (bc_ BK118.out 4).trans rfl; have hcz22_5 : w20.cell? ⟨gb118, 5, none⟩ = some (.int .i64 a0_5) := (bc_ BK118.out 5).trans rfl; have hcz22_6 : w20.cell? ⟨gb118, 6, none⟩ = some (.int .i64 a0_6) := (bc_ BK118.out 6).trans rfl; have hcz22_7 : w20.cell? ⟨gb118, 7, none⟩ = some (.int .i64 a0_7) := (bc_ BK118.out 7).trans rfl; have hcz22_8 : w20.cell? ⟨gb118, 8, none⟩ = some (.slice A0_8 l0_8.length c0_8) := (bc_ BK118.out 8).trans rfl; have hfz22_0 := bf_ BK118.out 0; have hfz22_1 := bf_ BK118.out 1; have hfz22_2 := bf_ BK118.out 2; have hfz22_3 := bf_ BK118.out 3; have hfz22_4 := bf_ BK118.out 4; have hfz22_5 := bf_ BK118.out 5; have hfz22_6 := bf_ BK118.out 6; have hfz22_7 := bf_ BK118.out 7; have hfz22_8 := bf_ BK118.out 8; have hcz23_0 : w20.cell? ⟨gb119, 0, none⟩ = some (.string a1_0) := (bc_ BK119.out 0).trans rfl; have hcz23_1 : w20.cell? ⟨gb119, 1, none⟩ = some (.string a1_1) := (bc_ BK119.out 1).trans rfl; have hcz23_2 : w20.cell? ⟨gb119, 2, none⟩ = some (.string a1_2) := (bc_ BK119.out 2).trans rfl; have hcz23_3 : w20.cell? ⟨gb119, 3, none⟩ = some (.int .u8 a1_3) := (bc_ BK119.out 3).trans rfl; have hcz23_4 : w20.cell? ⟨gb119, 4, none⟩ = some (.int .i64 a1_4) := (bc_ BK119.out 4).trans rfl; have hcz23_5 : w20.cell? ⟨gb119, 5, none⟩ = some (.int .i64 a1_5) := (bc_ BK119.out 5).trans rfl; have hcz23_6 : w20.cell? ⟨gb119, 6, none⟩ = some (.int .i64 a1_6) := (bc_ BK119.out 6).trans rfl; have hcz23_7 : w20.cell? ⟨gb119, 7, none⟩ = some (.int .i64 a1_7) := (bc_ BK119.out 7).trans rfl; have hcz23_8 : w20.cell? ⟨gb119, 8, none⟩ = some (.slice A1_8 l1_8.length c1_8) := (bc_ BK119.out 8).trans rfl; have hfz23_0 := bf_ BK119.out 0; have hfz23_1 := bf_ BK119.out 1; have hfz23_2 := bf_ BK119.out 2; have hfz23_3 := bf_ BK119.out 3; have hfz23_4 := bf_ BK119.out 4; have hfz23_5 := bf_ BK119.out 5; have hfz23_6 := bf_ BK119.out 6; have hfz23_7 := bf_ BK119.out 7; have hfz23_8 := bf_ BK119.out 8))
  go_ret
  exact ⟨we_, wb2_ HB.out GE118.out GE119.out⟩
 rw [if_pos c5] at H
 have c5b0 : (a0_4 == a1_4 && (a0_5 == a1_5 && (a0_6 == a1_6 && (a0_7 == a1_7)))) = true := c5
 (try (have c5b1 : decide (a0_4 = a1_4 && (a0_5 == a1_5 && (a0_6 == a1_6 && (a0_7 == a1_7)))) = true := by simpa using c5))
 (try (have c5b2 : (a0_4 == a1_4 && (a0_5 == a1_5 && (a0_6 == a1_6 && (a0_7 == a1_7)))) = true := by simpa using c5))
 clear c5
 by_cases c6 : a0_1.toList = a1_1.toList
 rotate_left
 ·rw [if_neg c6] at H
  have c6b0 : (a0_1.toList == a1_1.toList) = false := beq_eq_false_iff_ne.mpr c6
  have c6b1 : (a0_1.toList != a1_1.toList) = true := bne_iff_ne.mpr c6
  obtain rfl := Option.some.inj H
  go_enter Tryd.func20, Tryd.ntmps20
  go_wp2_with (first | ((with_reducible refine gate_dst (N := 2) rfl ?_); refine box_event ?hg (N := 2) ?hd (cs := #[.string a0_0, .string a0_1, .string a0_2, .int .u8 a0_3, .int .i64 a0_4, .int .i64 a0_5, .int .i64 a0_6, .int .i64 a0_7, .slice A0_8 l0_8.length c0_8]) (t := 38) ?hr ?_; (case hd => rfl); (case hg => rfl); (case hr => first | (go_simp; done) | (go_simp; rfl)); intro gb118 hg w14 hbox hb; have n0_ := A0_ (below_step (wb_ HB.out) hb); have n1_ := A0_ (hbox); have n2_ := A0_ ((by rw [hg]; exact (below_size (wb_ HB.out)) : w.heap.size ≤ gb118)); have n3_ := A0_ ((by rw [hg]; exact (below_size (wb_ HB.out)) : w.heap.size ≤ gb118)); clear HB; have HB := n0_; have BK118 := n1_; have GW118 := n2_; have GE118 := n3_; clear n0_ n1_ n2_ n3_; clear hb hbox hg) | ((with_reducible refine gate_dst (N := 3) rfl ?_); refine box_event ?hg (N := 3) ?hd (cs := #[.string a1_0, .string a1_1, .string a1_2, .int .u8 a1_3, .int .i64 a1_4, .int .i64 a1_5, .int .i64 a1_6, .int .i64 a1_7, .slice A1_8 l1_8.length c1_8]) (t := 38) ?hr ?_; (case hd => rfl); (case hg => rfl); (case hr => first | (go_simp; done) | (go_simp; rfl)); intro gb119 hg w15 hbox hb; have n0_ := A0_ (blk_below (g := gb118) (o := .cells #[.string a0_0, .string a0_1, .string a0_2, .int .u8 a0_3, .int .i64 a0_4, .int .i64 a0_5, .int .i64 a0_6, .int .i64 a0_7, .slice A0_8 l0_8.length c0_8] 38 (0, 0)) (wB_ BK118.out) hb); have n1_ := A0_ (below_step (wb1_ HB.out GE118.out) hb); have n2_ := A0_ (hbox); have n3_ := A0_ ((by rw [hg]; exact (below_size (wb1_ HB.out GE118.out)) : w.heap.size ≤ gb119)); have n4_ := A0_ ((by rw [hg]; exact (below_size (wb1_ HB.out GE118.out)) : w.heap.size ≤ gb119)); have n5_ := A0_ ((by rw [hg]; exact Nat.ne_of_lt (blk_lt (g := gb118) (o := .cells #[.string a0_0, .string a0_1, .string a0_2, .int .u8 a0_3, .int .i64 a0_4, .int .i64 a0_5, .int .i64 a0_6, .int .i64 a0_7, .slice A0_8 l0_8.length c0_8] 38 (0, 0)) (wB_ BK118.out)) : gb118 ≠ gb119)); have n6_ := A0_ ((by rw [hg]; exact Nat.ne_of_gt (blk_lt (g := gb118) (o := .cells #[.string a0_0, .string a0_1, .string a0_2, .int .u8 a0_3, .int .i64 a0_4, .int .i64 a0_5, .int .i64 a0_6, .int .i64 a0_7, .slice A0_8 l0_8.length c0_8] 38 (0, 0)) (wB_ BK118.out)) : gb119 ≠ gb118)); clear BK118; clear HB; have BK118 := n0_; have HB := n1_; have BK119 := n2_; have GW119 := n3_; have GE119 := n4_; have NB118_119 := n5_; have NB119_118 := n6_; clear n0_ n1_ n2_ n3_ n4_ n5_ n6_; clear hb hbox hg; have hnb16 := NB118_119.out; have hnc16 := NB119_118.out; have hcz17_0 : w15.cell? ⟨gb118, 0, none⟩ = some (.string a0_0) := (bc_ BK118.out 0).trans rfl; have hcz17_1 : w15.cell? ⟨gb118, 1, none⟩ = some (.string a0_1) := (bc_ BK118.out 1).trans rfl; have hcz17_2 : w15.cell? ⟨gb118, 2, none⟩ = some (.string a0_2) := (bc_ BK118.out 2).trans rfl; have hcz17_3 : w15.cell? ⟨gb118, 3, none⟩ = some (.int .u8 a0_3) := (bc_ BK118.out 3).trans rfl; have hcz17_4 : w15.cell? ⟨gb118, 4, none⟩ = some (.int .i64 a0_4) := (bc_ BK118.out 4).trans rfl; have hcz17_5 : w15.cell? ⟨gb118, 5, none⟩ = some (.int .i64 a0_5) := (bc_ BK118.out 5).trans rfl; have hcz17_6 : w15.cell? ⟨gb118, 6, none⟩ = some (.int .i64 a0_6) := (bc_ BK118.out 6).trans rfl; have hcz17_7 : w15.cell? ⟨gb118, 7, none⟩ = some (.int .i64 a0_7) := (bc_ BK118.out 7).trans rfl; have hcz17_8 : w15.cell? ⟨gb118, 8, none⟩ = some (.slice A0_8 l0_8.length c0_8) := (bc_ BK118.out 8).trans rfl; have hfz17_0 := bf_ BK118.out 0; have hfz17_1 := bf_ BK118.out 1; have hfz17_2 := bf_ BK118.out 2; have hfz17_3 := bf_ BK118.out 3; have hfz17_4 := bf_ BK118.out 4; have hfz17_5 := bf_ BK118.out 5; have hfz17_6 := bf_ BK118.out 6; have hfz17_7 := bf_ BK118.out 7; have hfz17_8 := bf_ BK118.out 8; have hcz18_0 : w15.cell? ⟨gb119, 0, none⟩ = some (.string a1_0) := (bc_ BK119.out 0).trans rfl; have hcz18_1 : w15.cell? ⟨gb119, 1, none⟩ = some (.string a1_1) := (bc_ BK119.out 1).trans rfl; have hcz18_2 : w15.cell? ⟨gb119, 2, none⟩ = some (.string a1_2) := (bc_ BK119.out 2).trans rfl; have hcz18_3 : w15.cell? ⟨gb119, 3, none⟩ = some (.int .u8 a1_3) := (bc_ BK119.out 3).trans rfl; have hcz18_4 : w15.cell? ⟨gb119, 4, none⟩ = some (.int .i64 a1_4) := (bc_ BK119.out 4).trans rfl; have hcz18_5 : w15.cell? ⟨gb119, 5, none⟩ = some (.int .i64 a1_5) := (bc_ BK119.out 5).trans rfl; have hcz18_6 : w15.cell? ⟨gb119, 6, none⟩ = some (.int .i64 a1_6) := (bc_ BK119.out 6).trans rfl; have hcz18_7 : w15.cell? ⟨gb119, 7, none⟩ = some (.int .i64 a1_7) := (bc_ BK119.out 7).trans rfl; have hcz18_8 : w15.cell? ⟨gb119, 8, none⟩ = some (.slice A1_8 l1_8.length c1_8) := (bc_ BK119.out 8).trans rfl; have hfz18_0 := bf_ BK119.out 0; have hfz18_1 := bf_ BK119.out 1; have hfz18_2 := bf_ BK119.out 2; have hfz18_3 := bf_ BK119.out 3; have hfz18_4 := bf_ BK119.out 4; have hfz18_5 := bf_ BK119.out 5; have hfz18_6 := bf_ BK119.out 6; have hfz18_7 := bf_ BK119.out 7; have hfz18_8 := bf_ BK119.out 8))
  go_ret
  exact ⟨we_, wb2_ HB.out GE118.out GE119.out⟩
 rw [if_pos c6] at H
 have c6b0 : (a0_1.toList == a1_1.toList) = true := beq_iff_eq.mpr c6
 have c6b1 : (a0_1.toList != a1_1.toList) = false := bne_eq_false_iff_eq.mpr c6
 clear c6
 obtain rfl := Option.some.inj H
 go_enter Tryd.func20, Tryd.ntmps20
 go_wp2_with (first | ((with_reducible refine gate_dst (N := 2) rfl ?_); refine box_event ?hg (N := 2) ?hd (cs := #[.string a0_0, .string a0_1, .string a0_2, .int .u8 a0_3, .int .i64 a0_4, .int .i64 a0_5, .int .i64 a0_6, .int .i64 a0_7, .slice A0_8 l0_8.length c0_8]) (t := 38) ?hr ?_; (case hd => rfl); (case hg => rfl); (case hr => first | (go_simp; done) | (go_simp; rfl)); intro gb118 hg w7 hbox hb; have n0_ := A0_ (below_step (wb_ HB.out) hb); have n1_ := A0_ (hbox); have n2_ := A0_ ((by rw [hg]; exact (below_size (wb_ HB.out)) : w.heap.size ≤ gb118)); have n3_ := A0_ ((by rw [hg]; exact (below_size (wb_ HB.out)) : w.heap.size ≤ gb118)); clear HB; have HB := n0_; have BK118 := n1_; have GW118 := n2_; have GE118 := n3_; clear n0_ n1_ n2_ n3_; clear hb hbox hg) | ((with_reducible refine gate_dst (N := 3) rfl ?_); refine box_event ?hg (N := 3) ?hd (cs := #[.string a1_0, .string a1_1, .string a1_2, .int .u8 a1_3, .int .i64 a1_4, .int .i64 a1_5, .int .i64 a1_6, .int .i64 a1_7, .slice A1_8 l1_8.length c1_8]) (t := 38) ?hr ?_; (case hd => rfl); (case hg => rfl); (case hr => first | (go_simp; done) | (go_simp; rfl)); intro gb119 hg w8 hbox hb; have n0_ := A0_ (blk_below (g := gb118) (o := .cells #[.string a0_0, .string a0_1, .string a0_2, .int .u8 a0_3, .int .i64 a0_4, .int .i64 a0_5, .int .i64 a0_6, .int .i64 a0_7, .slice A0_8 l0_8.length c0_8] 38 (0, 0)) (wB_ BK118.out) hb); have n1_ := A0_ (below_step (wb1_ HB.out GE118.out) hb); have n2_ := A0_ (hbox); have n3_ := A0_ ((by rw [hg]; exact (below_size (wb1_ HB.out GE118.out)) : w.heap.size ≤ gb119)); have n4_ := A0_ ((by rw [hg]; exact (below_size (wb1_ HB.out GE118.out)) : w.heap.size ≤ gb119)); have n5_ := A0_ ((by rw [hg]; exact Nat.ne_of_lt (blk_lt (g := gb118) (o := .cells #[.string a0_0, .string a0_1, .string a0_2, .int .u8 a0_3, .int .i64 a0_4, .int .i64 a0_5, .int .i64 a0_6, .int .i64 a0_7, .slice A0_8 l0_8.length c0_8] 38 (0, 0)) (wB_ BK118.out)) : gb118 ≠ gb119)); have n6_ := A0_ ((by rw [hg]; exact Nat.ne_of_gt (blk_lt (g := gb118) (o := .cells #[.string a0_0, .string a0_1, .string a0_2, .int .u8 a0_3, .int .i64 a0_4, .int .i64 a0_5, .int .i64 a0_6, .int .i64 a0_7, .slice A0_8 l0_8.length c0_8] 38 (0, 0)) (wB_ BK118.out)) : gb119 ≠ gb118)); clear BK118; clear HB; have BK118 := n0_; have HB := n1_; have BK119 := n2_; have GW119 := n3_; have GE119 := n4_; have NB118_119 := n5_; have NB119_118 := n6_; clear n0_ n1_ n2_ n3_ n4_ n5_ n6_; clear hb hbox hg; have hnb9 := NB118_119.out; have hnc9 := NB119_118.out; have hcz10_0 : w8.cell? ⟨gb118, 0, none⟩ = some (.string a0_0) := (bc_ BK118.out 0).trans rfl; have hcz10_1 : w8.cell? ⟨gb118, 1, none⟩ = some (.string a0_1) := (bc_ BK118.out 1).trans rfl; have hcz10_2 : w8.cell? ⟨gb118, 2, none⟩ = some (.string a0_2) := (bc_ BK118.out 2).trans rfl; have hcz10_3 : w8.cell? ⟨gb118, 3, none⟩ = some (.int .u8 a0_3) := (bc_ BK118.out 3).trans rfl; have hcz10_4 : w8.cell? ⟨gb118, 4, none⟩ = some (.int .i64 a0_4) := (bc_ BK118.out 4).trans rfl; have hcz10_5 : w8.cell? ⟨gb118, 5, none⟩ = some (.int .i64 a0_5) := (bc_ BK118.out 5).trans rfl; have hcz10_6 : w8.cell? ⟨gb118, 6, none⟩ = some (.int .i64 a0_6) := (bc_ BK118.out 6).trans rfl; have hcz10_7 : w8.cell? ⟨gb118, 7, none⟩ = some (.int .i64 a0_7) := (bc_ BK118.out 7).trans rfl; have hcz10_8 : w8.cell? ⟨gb118, 8, none⟩ = some (.slice A0_8 l0_8.length c0_8) := (bc_ BK118.out 8).trans rfl; have hfz10_0 := bf_ BK118.out 0; have hfz10_1 := bf_ BK118.out 1; have hfz10_2 := bf_ BK118.out 2; have hfz10_3 := bf_ BK118.out 3; have hfz10_4 := bf_ BK118.out 4; have hfz10_5 := bf_ BK118.out 5; have hfz10_6 := bf_ BK118.out 6; have hfz10_7 := bf_ BK118.out 7; have hfz10_8 := bf_ BK118.out 8; have hcz11_0 : w8.cell? ⟨gb119, 0, none⟩ = some (.string a1_0) := (bc_ BK119.out 0).trans rfl; have hcz11_1 : w8.cell? ⟨gb119, 1, none⟩ = some (.string a1_1) := (bc_ BK119.out 1).trans rfl; have hcz11_2 : w8.cell? ⟨gb119, 2, none⟩ = some (.string a1_2) := (bc_ BK119.out 2).trans rfl; have hcz11_3 : w8.cell? ⟨gb119, 3, none⟩ = some (.int .u8 a1_3) := (bc_ BK119.out 3).trans rfl; have hcz11_4 : w8.cell? ⟨gb119, 4, none⟩ = some (.int .i64 a1_4) := (bc_ BK119.out 4).trans rfl; have hcz11_5 : w8.cell? ⟨gb119, 5, none⟩ = some (.int .i64 a1_5) := (bc_ BK119.out 5).trans rfl; have hcz11_6 : w8.cell? ⟨gb119, 6, none⟩ = some (.int .i64 a1_6) := (bc_ BK119.out 6).trans rfl; have hcz11_7 : w8.cell? ⟨gb119, 7, none⟩ = some (.int .i64 a1_7) := (bc_ BK119.out 7).trans rfl; have hcz11_8 : w8.cell? ⟨gb119, 8, none⟩ = some (.slice A1_8 l1_8.length c1_8) := (bc_ BK119.out 8).trans rfl; have hfz11_0 := bf_ BK119.out 0; have hfz11_1 := bf_ BK119.out 1; have hfz11_2 := bf_ BK119.out 2; have hfz11_3 := bf_ BK119.out 3; have hfz11_4 := bf_ BK119.out 4; have hfz11_5 := bf_ BK119.out 5; have hfz11_6 := bf_ BK119.out 6; have hfz11_7 := bf_ BK119.out 7; have hfz11_8 := bf_ BK119.out 8; have hcv12 := Kd.C_string (P := Tryd.prog) (A := A0_8) (c := c0_8) Tryd.underlying25 Tryd.underlying5 Tryd.underlying9 (Kd.C_below HR0_8.out HB.out); have hcv13 := Kd.C_string (P := Tryd.prog) (A := A1_8) (c := c1_8) Tryd.underlying25 Tryd.underlying5 Tryd.underlying9 (Kd.C_below HR1_8.out HB.out)))
 go_ret
 exact ⟨we_, wb2_ HB.out GE118.out GE119.out⟩
end Go.Proofs.YtfmphccoeinhcaaDoor.Print

namespace Go.Proofs.YtfmphccoeinhcaaDoor.Print
open Go.RowKit Go.Proofs.YtfmphccoeinhcaaDoorW.PrintWords Go.Proofs.YtfmphccoeinhcaaDoorW.PrintLast Go.Proofs.YtfmphccoeinhcaaDoorW.PrintMore
attribute [local go_sem] max2_int min2_int max_two min_two max_three min_three max_four min_four   -- for this text's walks alone
set_option linter.unusedVariables false
set_option linter.unusedSimpArgs false
end Go.Proofs.YtfmphccoeinhcaaDoor.Print

namespace Go.Proofs.YtfmphccoeinhcaaDoor
open Go.RowKit Go.Proofs.YtfmphccoeinhcaaDoor.Print Go.Proofs.YtfmphccoeinhcaaDoorW.PrintWords
set_option linter.unusedVariables false
theorem requal_f (a b : Node) : bindleref08_Equal.f a.f0 a.f1 a.f2 a.f3 a.f4.f0 a.f4.f1 a.f4.f2 a.f4.f3 a.f5 b.f0 b.f1 b.f2 b.f3 b.f4.f0 b.f4.f1 b.f4.f2 b.f4.f3 b.f5 = some (equalB a b) := by
 unfold bindleref08_Equal.f
 exact equal_chain a b rfl
end Go.Proofs.YtfmphccoeinhcaaDoor

namespace Go.Proofs.YtfmphccoeinhcaaDoor
open Go.Proofs.YtfmphccoeinhcaaDoor.Print
def treeZB (t : List Node) : Bool := decide (t.length ≤ 10000) && nodesG t
def treesZB (ls : List (List Node)) : Bool := decide (ls.length ≤ 10000) && ls.all treeZB
def pathsZB (ps : List ByteArray) : Bool := decide (ps.length ≤ 10000) && strsZ ps
theorem treeZB_iff (t : List Node) : treeZB t = true ↔ TreeZ t := by simp [treeZB, TreeZ, nodesG_iff]
theorem treesZB_iff (ls : List (List Node)) : treesZB ls = true ↔ TreesZ ls := by simp [treesZB, TreesZ, treeZB_iff]
theorem pathsZB_iff (ps : List ByteArray) : pathsZB ps = true ↔ PathsZ ps := by simp [pathsZB, PathsZ, strsZ_iff]
end Go.Proofs.YtfmphccoeinhcaaDoor
namespace Go.Proofs.YtfmphccoeinhcaaDoor.Print
open Go.RowKit Go.Proofs.YtfmphccoeinhcaaDoor Go.Proofs.YtfmphccoeinhcaaDoorW.PrintWords Go.Proofs.YtfmphccoeinhcaaDoorW.PrintLast Go.Proofs.YtfmphccoeinhcaaDoorW.PrintMore
set_option linter.unusedVariables false
def union_Union.f (l : List (List S38)) : Option (List S38 × Int) := if treesZB l = true then some (unionF l) else none
theorem union_Union.calls (A0 : Option Addr) (c0 : Nat) (l0 : List (List S38)) (r1 : List S38) (r2 : Int) (w : World) (hT : Aside0 (Tabs w)) (hr0 : Kd.C (Kd.slice 38 k38) w A0 l0.length l0) (hc0 : l0.length ≤ c0) (h : union_Union.f l0 = some (r1, r2)) :
  Calls Tryd.prog 23 #[.slice A0 l0.length c0] w fun e w' => ∃ v0_ : Value, e = .returned (.tuple #[v0_, .int .i64 r2]) ∧ Kd.V k38 38 w' w.heap.size (fun k_ => w.heap.size ≤ k_) v0_ r1 ∧ Below w.heap.size w w' := by
 unfold union_Union.f at h
 split at h
 ·rename_i hc
  simp only [Option.some.injEq] at h
  refine (Union_calls A0 c0 l0 w hT.out hr0 ((treesZB_iff l0).1 hc)).mono ?_
  rintro e w' ⟨v, rfl, hV, hB⟩
  rw [h] at hV ⊢
  exact ⟨v, rfl, hV, hB⟩
 ·cases h
def sub_Keep.f (t : List S38) (ps : List ByteArray) : Option (List S38 × Int) := if treeZB t = true ∧ pathsZB ps = true then some (keepF t ps) else none
theorem sub_Keep.calls (A0 : Option Addr) (c0 : Nat) (l0 : List S38) (A1 : Option Addr) (c1 : Nat) (l1 : List ByteArray) (r1 : List S38) (r2 : Int) (w : World) (hT : Aside0 (Tabs w)) (hr0 : Kd.C k38 w A0 l0.length l0) (hc0 : l0.length ≤ c0) (hr1 : Kd.C Kd.string w A1 l1.length l1) (hc1 : l1.length ≤ c1) (h : sub_Keep.f l0 l1 = some (r1, r2)) :
  Calls Tryd.prog 36 #[.slice A0 l0.length c0, .slice A1 l1.length c1] w fun e w' => ∃ v0_ : Value, e = .returned (.tuple #[v0_, .int .i64 r2]) ∧ Kd.V k38 38 w' w.heap.size (fun k_ => w.heap.size ≤ k_) v0_ r1 ∧ Below w.heap.size w w' := by
 unfold sub_Keep.f at h
 split at h
 ·rename_i hc
  simp only [Option.some.injEq] at h
  refine (Keep_calls A0 c0 l0 A1 c1 l1 w hT.out hr0 hc0 hr1 ((treeZB_iff l0).1 hc.1) ((pathsZB_iff l1).1 hc.2)).mono ?_
  rintro e w' ⟨v, rfl, hV, hB⟩
  rw [h] at hV ⊢
  exact ⟨v, rfl, hV, hB⟩
 ·cases h
def sub_Subtract.f (a b : List S38) (whole : Bool) : Option (List S38 × Int) := if treeZB a = true ∧ treeZB b = true then some (subF a b whole) else none
theorem sub_Subtract.calls (A0 : Option Addr) (c0 : Nat) (l0 : List S38) (A1 : Option Addr) (c1 : Nat) (l1 : List S38) (a2 : Bool) (r1 : List S38) (r2 : Int) (w : World) (hT : Aside0 (Tabs w)) (hr0 : Kd.C k38 w A0 l0.length l0) (hc0 : l0.length ≤ c0) (hr1 : Kd.C k38 w A1 l1.length l1) (hc1 : l1.length ≤ c1) (h : sub_Subtract.f l0 l1 a2 = some (r1, r2)) :
  Calls Tryd.prog 38 #[.slice A0 l0.length c0, .slice A1 l1.length c1, .bool a2] w fun e w' => ∃ v0_ : Value, e = .returned (.tuple #[v0_, .int .i64 r2]) ∧ Kd.V k38 38 w' w.heap.size (fun k_ => w.heap.size ≤ k_) v0_ r1 ∧ Below w.heap.size w w' := by
 unfold sub_Subtract.f at h
 split at h
 ·rename_i hc
  simp only [Option.some.injEq] at h
  refine (Sub_calls A0 c0 l0 A1 c1 l1 a2 w hT.out hr0 hc0 hr1 hc1 ((treeZB_iff l0).1 hc.1) ((treeZB_iff l1).1 hc.2)).mono ?_
  rintro e w' ⟨v, rfl, hV, hB⟩
  rw [h] at hV ⊢
  exact ⟨v, rfl, hV, hB⟩
 ·cases h
end Go.Proofs.YtfmphccoeinhcaaDoor.Print

namespace Go.Proofs.YtfmphccoeinhcaaDoor.Print
open Go.RowKit Go.Proofs.YtfmphccoeinhcaaDoorW.PrintWords Go.Proofs.YtfmphccoeinhcaaDoorW.PrintLast Go.Proofs.YtfmphccoeinhcaaDoorW.PrintMore
attribute [local go_sem] max2_int min2_int max_two min_two max_three min_three max_four min_four   -- for this text's walks alone
set_option linter.unusedVariables false
set_option linter.unusedSimpArgs false
def bindlelaw19_answers.f  : Option (Bool) := (union_Union.f (([(([(⟨(⟨#[97]⟩ : ByteArray), (⟨#[]⟩ : ByteArray), (⟨#[97]⟩ : ByteArray), 48, (⟨0, 0, 0, 0⟩ : S24), ([] : List Int)⟩ : S38), (⟨(⟨#[98]⟩ : ByteArray), (⟨#[]⟩ : ByteArray), (⟨#[97]⟩ : ByteArray), 48, (⟨0, 0, 0, 0⟩ : S24), ([] : List Int)⟩ : S38)] : List (S38))), (([(⟨(⟨#[97]⟩ : ByteArray), (⟨#[]⟩ : ByteArray), (⟨#[]⟩ : ByteArray), 53, (⟨0, 0, 0, 0⟩ : S24), ([] : List Int)⟩ : S38)] : List (S38)))] : List (List (S38))))).bind fun bt202 => ((union_Union.f (([(([(⟨(⟨#[]⟩ : ByteArray), (⟨#[]⟩ : ByteArray), (⟨#[]⟩ : ByteArray), 0, (⟨0, 0, 0, 0⟩ : S24), ([] : List Int)⟩ : S38)] : List (S38)))] : List (List (S38))))).bind fun bt212 => (if bt202.2 = 0 then (if (bt202.1.length : Int) = 2 then (if 0 < (bt202.1.length : Int) then (if ((rd_T38 bt202.1 0).f3) = 53 then (if 1 < (bt202.1.length : Int) then (if ((rd_T38 bt202.1 1).f2).toList = ([98] : List UInt8) then (some (bt212.2 == 1)) else (some false)) else (none)) else (some false)) else (none)) else (some false)) else (some false)))
theorem bindlelaw19_answers.val : bindlelaw19_answers.f = some true := by kernel_rfl
set_option maxHeartbeats 8000000 in
set_option maxRecDepth 100000 in
theorem bindlelaw19_answers.calls  (r : Bool) (w : World) (hT : Aside0 (Tabs w)) (h : bindlelaw19_answers.f  = some r) :
  Calls Tryd.prog 22 #[] w fun e w' => e = .returned (.bool r) ∧ Below w.heap.size w w' := by
 have hr_ : r = true := Option.some.inj (h.symm.trans bindlelaw19_answers.val)
 have hu38 := Tryd.underlying38
 have HB := A0_ (Below.refl w.heap.size w)
 have H : ((union_Union.f (([(([(⟨(⟨#[97]⟩ : ByteArray), (⟨#[]⟩ : ByteArray), (⟨#[97]⟩ : ByteArray), 48, (⟨0, 0, 0, 0⟩ : S24), ([] : List Int)⟩ : S38), (⟨(⟨#[98]⟩ : ByteArray), (⟨#[]⟩ : ByteArray), (⟨#[97]⟩ : ByteArray), 48, (⟨0, 0, 0, 0⟩ : S24), ([] : List Int)⟩ : S38)] : List (S38))), (([(⟨(⟨#[97]⟩ : ByteArray), (⟨#[]⟩ : ByteArray), (⟨#[]⟩ : ByteArray), 53, (⟨0, 0, 0, 0⟩ : S24), ([] : List Int)⟩ : S38)] : List (S38)))] : List (List (S38))))).bind fun bt202 => ((union_Union.f (([(([(⟨(⟨#[]⟩ : ByteArray), (⟨#[]⟩ : ByteArray), (⟨#[]⟩ : ByteArray), 0, (⟨0, 0, 0, 0⟩ : S24), ([] : List Int)⟩ : S38)] : List (S38)))] : List (List (S38))))).bind fun bt212 => (if bt202.2 = 0 then (if (bt202.1.length : Int) = 2 then (if 0 < (bt202.1.length : Int) then (if ((rd_T38 bt202.1 0).f3) = 53 then (if 1 < (bt202.1.length : Int) then (if ((rd_T38 bt202.1 1).f2).toList = ([98] : List UInt8) then (some (bt212.2 == 1)) else (some false)) else (none)) else (some false)) else (none)) else (some false)) else (some false)))) = some r := h
 clear h
 obtain ⟨y193, hy193⟩ : ∃ y_ : List (S38), y_ = (([(⟨(⟨#[97]⟩ : ByteArray), (⟨#[]⟩ : ByteArray), (⟨#[97]⟩ : ByteArray), 48, (⟨0, 0, 0, 0⟩ : S24), ([] : List Int)⟩ : S38), (⟨(⟨#[98]⟩ : ByteArray), (⟨#[]⟩ : ByteArray), (⟨#[97]⟩ : ByteArray), 48, (⟨0, 0, 0, 0⟩ : S24), ([] : List Int)⟩ : S38)] : List (S38))) := ⟨_, rfl⟩
 replace H : ((union_Union.f (([y193, (([(⟨(⟨#[97]⟩ : ByteArray), (⟨#[]⟩ : ByteArray), (⟨#[]⟩ : ByteArray), 53, (⟨0, 0, 0, 0⟩ : S24), ([] : List Int)⟩ : S38)] : List (S38)))] : List (List (S38))))).bind fun bt202 => ((union_Union.f (([(([(⟨(⟨#[]⟩ : ByteArray), (⟨#[]⟩ : ByteArray), (⟨#[]⟩ : ByteArray), 0, (⟨0, 0, 0, 0⟩ : S24), ([] : List Int)⟩ : S38)] : List (S38)))] : List (List (S38))))).bind fun bt212 => (if bt202.2 = 0 then (if (bt202.1.length : Int) = 2 then (if 0 < (bt202.1.length : Int) then (if ((rd_T38 bt202.1 0).f3) = 53 then (if 1 < (bt202.1.length : Int) then (if ((rd_T38 bt202.1 1).f2).toList = ([98] : List UInt8) then (some (bt212.2 == 1)) else (some false)) else (none)) else (some false)) else (none)) else (some false)) else (some false)))) = some r := by first | (rw [hy193]; with_reducible exact H) | (have H2_ := (Option.bind_some _ _).symm.trans H; rw [hy193]; with_reducible exact H2_) | (have H2_ := (Option.bind_some _ _).symm.trans H; with_reducible exact H2_) | with_reducible exact H | (rw [hy193]; exact H) | exact H
 have Ny193 := A0_ hy193
 clear hy193
 obtain ⟨y196, hy196⟩ : ∃ y_ : List (S38), y_ = (([(⟨(⟨#[97]⟩ : ByteArray), (⟨#[]⟩ : ByteArray), (⟨#[]⟩ : ByteArray), 53, (⟨0, 0, 0, 0⟩ : S24), ([] : List Int)⟩ : S38)] : List (S38))) := ⟨_, rfl⟩
 replace H : ((union_Union.f (([y193, y196] : List (List (S38))))).bind fun bt202 => ((union_Union.f (([(([(⟨(⟨#[]⟩ : ByteArray), (⟨#[]⟩ : ByteArray), (⟨#[]⟩ : ByteArray), 0, (⟨0, 0, 0, 0⟩ : S24), ([] : List Int)⟩ : S38)] : List (S38)))] : List (List (S38))))).bind fun bt212 => (if bt202.2 = 0 then (if (bt202.1.length : Int) = 2 then (if 0 < (bt202.1.length : Int) then (if ((rd_T38 bt202.1 0).f3) = 53 then (if 1 < (bt202.1.length : Int) then (if ((rd_T38 bt202.1 1).f2).toList = ([98] : List UInt8) then (some (bt212.2 == 1)) else (some false)) else (none)) else (some false)) else (none)) else (some false)) else (some false)))) = some r := by first | (rw [hy196]; with_reducible exact H) | (have H2_ := (Option.bind_some _ _).symm.trans H; rw [hy196]; with_reducible exact H2_) | (have H2_ := (Option.bind_some _ _).symm.trans H; with_reducible exact H2_) | with_reducible exact H | (rw [hy196]; exact H) | exact H
 have Ny196 := A0_ hy196
 clear hy196
 obtain ⟨y199, hy199⟩ : ∃ y_ : List (List (S38)), y_ = (([y193, y196] : List (List (S38)))) := ⟨_, rfl⟩
 replace H : ((union_Union.f y199).bind fun bt202 => ((union_Union.f (([(([(⟨(⟨#[]⟩ : ByteArray), (⟨#[]⟩ : ByteArray), (⟨#[]⟩ : ByteArray), 0, (⟨0, 0, 0, 0⟩ : S24), ([] : List Int)⟩ : S38)] : List (S38)))] : List (List (S38))))).bind fun bt212 => (if bt202.2 = 0 then (if (bt202.1.length : Int) = 2 then (if 0 < (bt202.1.length : Int) then (if ((rd_T38 bt202.1 0).f3) = 53 then (if 1 < (bt202.1.length : Int) then (if ((rd_T38 bt202.1 1).f2).toList = ([98] : List UInt8) then (some (bt212.2 == 1)) else (some false)) else (none)) else (some false)) else (none)) else (some false)) else (some false)))) = some r := by first | (rw [hy199]; with_reducible exact H) | (have H2_ := (Option.bind_some _ _).symm.trans H; rw [hy199]; with_reducible exact H2_) | (have H2_ := (Option.bind_some _ _).symm.trans H; with_reducible exact H2_) | with_reducible exact H | (rw [hy199]; exact H) | exact H
 have Ny199 := A0_ hy199
 clear hy199
 replace H := Option.bind_eq_some_iff.mp H
 obtain ⟨⟨t202, t205⟩, A10, H⟩ := H
 replace H : ((union_Union.f (([(([(⟨(⟨#[]⟩ : ByteArray), (⟨#[]⟩ : ByteArray), (⟨#[]⟩ : ByteArray), 0, (⟨0, 0, 0, 0⟩ : S24), ([] : List Int)⟩ : S38)] : List (S38)))] : List (List (S38))))).bind fun bt212 => (if t205 = 0 then (if (t202.length : Int) = 2 then (if 0 < (t202.length : Int) then (if ((rd_T38 t202 0).f3) = 53 then (if 1 < (t202.length : Int) then (if ((rd_T38 t202 1).f2).toList = ([98] : List UInt8) then (some (bt212.2 == 1)) else (some false)) else (none)) else (some false)) else (none)) else (some false)) else (some false))) = some r := H
 have A1 := A0_ A10
 clear A10
 obtain ⟨y206, hy206⟩ : ∃ y_ : List (S38), y_ = (([(⟨(⟨#[]⟩ : ByteArray), (⟨#[]⟩ : ByteArray), (⟨#[]⟩ : ByteArray), 0, (⟨0, 0, 0, 0⟩ : S24), ([] : List Int)⟩ : S38)] : List (S38))) := ⟨_, rfl⟩
 replace H : ((union_Union.f (([y206] : List (List (S38))))).bind fun bt212 => (if t205 = 0 then (if (t202.length : Int) = 2 then (if 0 < (t202.length : Int) then (if ((rd_T38 t202 0).f3) = 53 then (if 1 < (t202.length : Int) then (if ((rd_T38 t202 1).f2).toList = ([98] : List UInt8) then (some (bt212.2 == 1)) else (some false)) else (none)) else (some false)) else (none)) else (some false)) else (some false))) = some r := by first | (rw [hy206]; with_reducible exact H) | (have H2_ := (Option.bind_some _ _).symm.trans H; rw [hy206]; with_reducible exact H2_) | (have H2_ := (Option.bind_some _ _).symm.trans H; with_reducible exact H2_) | with_reducible exact H | (rw [hy206]; exact H) | exact H
 have Ny206 := A0_ hy206
 clear hy206
 obtain ⟨y209, hy209⟩ : ∃ y_ : List (List (S38)), y_ = (([y206] : List (List (S38)))) := ⟨_, rfl⟩
 replace H : ((union_Union.f y209).bind fun bt212 => (if t205 = 0 then (if (t202.length : Int) = 2 then (if 0 < (t202.length : Int) then (if ((rd_T38 t202 0).f3) = 53 then (if 1 < (t202.length : Int) then (if ((rd_T38 t202 1).f2).toList = ([98] : List UInt8) then (some (bt212.2 == 1)) else (some false)) else (none)) else (some false)) else (none)) else (some false)) else (some false))) = some r := by first | (rw [hy209]; with_reducible exact H) | (have H2_ := (Option.bind_some _ _).symm.trans H; rw [hy209]; with_reducible exact H2_) | (have H2_ := (Option.bind_some _ _).symm.trans H; with_reducible exact H2_) | with_reducible exact H | (rw [hy209]; exact H) | exact H
 have Ny209 := A0_ hy209
 clear hy209
 replace H := Option.bind_eq_some_iff.mp H
 obtain ⟨⟨t212, t215⟩, A20, H⟩ := H
 replace H : (if t205 = 0 then (if (t202.length : Int) = 2 then (if 0 < (t202.length : Int) then (if ((rd_T38 t202 0).f3) = 53 then (if 1 < (t202.length : Int) then (if ((rd_T38 t202 1).f2).toList = ([98] : List UInt8) then (some (t215 == 1)) else (some false)) else (none)) else (some false)) else (none)) else (some false)) else (some false)) = some r := H
 have A2 := A0_ A20
 clear A20
 by_cases c3 : t205 = 0
 rotate_left
 ·rw [if_neg c3] at H
  have c3b0 : (t205 == 0) = false := beq_eq_false_iff_ne.mpr c3
  have c3b1 : (t205 != 0) = true := bne_iff_ne.mpr c3
  exact absurd ((Option.some.inj H).trans hr_) (by decide)
 rw [if_pos c3] at H
 have c3b0 : (t205 == 0) = true := beq_iff_eq.mpr c3
 have c3b1 : (t205 != 0) = false := bne_eq_false_iff_eq.mpr c3
 clear c3
 by_cases c4 : (t202.length : Int) = 2
 rotate_left
 ·rw [if_neg c4] at H
  have c4b0 : ((t202.length : Int) == 2) = false := beq_eq_false_iff_ne.mpr c4
  have c4b1 : ((t202.length : Int) != 2) = true := bne_iff_ne.mpr c4
  exact absurd ((Option.some.inj H).trans hr_) (by decide)
 rw [if_pos c4] at H
 have c4b0 : ((t202.length : Int) == 2) = true := beq_iff_eq.mpr c4
 have c4b1 : ((t202.length : Int) != 2) = false := bne_eq_false_iff_eq.mpr c4
 clear c4
 by_cases c5 : 0 < (t202.length : Int)
 rotate_left
 ·rw [if_neg c5] at H
  exact absurd H (by simp)
 rw [if_pos c5] at H
 have c5b0 : decide (0 < (t202.length : Int)) = true := decide_eq_true c5
 have c5b1 : decide (0 < t202.length) = true := decide_eq_true (by omega)
 clear c5
 by_cases c6 : ((rd_T38 t202 0).f3) = 53
 rotate_left
 ·rw [if_neg c6] at H
  have c6b0 : (((rd_T38 t202 0).f3) == 53) = false := beq_eq_false_iff_ne.mpr c6
  have c6b1 : (((rd_T38 t202 0).f3) != 53) = true := bne_iff_ne.mpr c6
  exact absurd ((Option.some.inj H).trans hr_) (by decide)
 rw [if_pos c6] at H
 have c6b0 : (((rd_T38 t202 0).f3) == 53) = true := beq_iff_eq.mpr c6
 have c6b1 : (((rd_T38 t202 0).f3) != 53) = false := bne_eq_false_iff_eq.mpr c6
 clear c6
 by_cases c7 : 1 < (t202.length : Int)
 rotate_left
 ·rw [if_neg c7] at H
  exact absurd H (by simp)
 rw [if_pos c7] at H
 have c7b0 : decide (1 < (t202.length : Int)) = true := decide_eq_true c7
 have c7b1 : decide (1 < t202.length) = true := decide_eq_true (by omega)
 clear c7
 by_cases c8 : ((rd_T38 t202 1).f2).toList = ([98] : List UInt8)
 rotate_left
 ·rw [if_neg c8] at H
  have c8b0 : (((rd_T38 t202 1).f2).toList == ([98] : List UInt8)) = false := beq_eq_false_iff_ne.mpr c8
  have c8b1 : (((rd_T38 t202 1).f2).toList != ([98] : List UInt8)) = true := bne_iff_ne.mpr c8
  exact absurd ((Option.some.inj H).trans hr_) (by decide)
 rw [if_pos c8] at H
 have c8b0 : (((rd_T38 t202 1).f2).toList == ([98] : List UInt8)) = true := beq_iff_eq.mpr c8
 have c8b1 : (((rd_T38 t202 1).f2).toList != ([98] : List UInt8)) = false := bne_eq_false_iff_eq.mpr c8
 clear c8
 clear hr_
 obtain rfl := Option.some.inj H
 go_enter Tryd.func22, Tryd.ntmps22
 go_wp2_with (first | ((with_reducible refine gate_dst (N := 8) rfl ?_); (try (refine gate_guard (by rfl) ?_; dsimp only)); refine Kd.N_lit k38 _ 38 ?hg (N' := 8) ?hd (xs := ([(⟨(⟨#[97]⟩ : ByteArray), (⟨#[]⟩ : ByteArray), (⟨#[97]⟩ : ByteArray), 48, (⟨0, 0, 0, 0⟩ : S24), ([] : List Int)⟩ : S38), (⟨(⟨#[98]⟩ : ByteArray), (⟨#[]⟩ : ByteArray), (⟨#[97]⟩ : ByteArray), 48, (⟨0, 0, 0, 0⟩ : S24), ([] : List Int)⟩ : S38)] : List (S38))) (inner := [.string (⟨#[97]⟩ : ByteArray), .string (⟨#[]⟩ : ByteArray), .string (⟨#[97]⟩ : ByteArray), .int .u8 48, .int .i64 0, .int .i64 0, .int .i64 0, .int .i64 0, .slice none 0 0, .string (⟨#[98]⟩ : ByteArray), .string (⟨#[]⟩ : ByteArray), .string (⟨#[97]⟩ : ByteArray), .int .u8 48, .int .i64 0, .int .i64 0, .int .i64 0, .int .i64 0, .slice none 0 0]) (ok := (fun _ => True)) (okp := (fun _ => True)) ?hr ?hp (fun _ hk => hk) ((show ∀ k_, w.heap.size ≤ k_ → (fun _ => True) k_ from fun k_ hk => trivial) _ (Nat.le_refl _)) (Below.refl _ _) (Nat.le_refl _) (by simp) ?_; (case hd => rfl); (case hg => rfl); (case hr => first | (go_simp; done) | (go_simp; rfl)); (case hp => exact (Reps.c9 (show Kd.FK k38 _ _ (⟨(⟨#[97]⟩ : ByteArray), (⟨#[]⟩ : ByteArray), (⟨#[97]⟩ : ByteArray), 48, (⟨0, 0, 0, 0⟩ : S24), ([] : List Int)⟩ : S38) [.string (⟨#[97]⟩ : ByteArray), .string (⟨#[]⟩ : ByteArray), .string (⟨#[97]⟩ : ByteArray), .int .u8 48, .int .i64 0, .int .i64 0, .int .i64 0, .int .i64 0, .slice none 0 0] from (k38_mkF _ _ (⟨(⟨#[97]⟩ : ByteArray), (⟨#[]⟩ : ByteArray), (⟨#[97]⟩ : ByteArray), 48, (⟨0, 0, 0, 0⟩ : S24), ([] : List Int)⟩ : S38) (Nat.le_refl _) (Kd.F_nil _ _ _))) (Reps.c9 (show Kd.FK k38 _ _ (⟨(⟨#[98]⟩ : ByteArray), (⟨#[]⟩ : ByteArray), (⟨#[97]⟩ : ByteArray), 48, (⟨0, 0, 0, 0⟩ : S24), ([] : List Int)⟩ : S38) [.string (⟨#[98]⟩ : ByteArray), .string (⟨#[]⟩ : ByteArray), .string (⟨#[97]⟩ : ByteArray), .int .u8 48, .int .i64 0, .int .i64 0, .int .i64 0, .int .i64 0, .slice none 0 0] from (k38_mkF _ _ (⟨(⟨#[98]⟩ : ByteArray), (⟨#[]⟩ : ByteArray), (⟨#[97]⟩ : ByteArray), 48, (⟨0, 0, 0, 0⟩ : S24), ([] : List Int)⟩ : S38) (Nat.le_refl _) (Kd.F_nil _ _ _))) (Reps.none _ _)))); intro v194 w9 ho10 hb hg_ hnew_; clear hg_ hnew_; (first | rw [← Ny193.out] at ho10 | (simp only [Int.reduceToNat] at ho10; rw [← Ny193.out] at ho10)); have n0_ := A0_ (Kd.N_lower ho10 (below_size (wb_ HB.out))); have n1_ := A0_ (below_step (wb_ HB.out) hb); clear HB; have HO195 := n0_; have HB := n1_; clear n0_ n1_; clear hb ho10) | ((with_reducible refine gate_dst (N := 12) rfl ?_); (try (refine gate_guard (by rfl) ?_; dsimp only)); refine Kd.N_lit k38 _ 38 ?hg (N' := 12) ?hd (xs := ([(⟨(⟨#[97]⟩ : ByteArray), (⟨#[]⟩ : ByteArray), (⟨#[]⟩ : ByteArray), 53, (⟨0, 0, 0, 0⟩ : S24), ([] : List Int)⟩ : S38)] : List (S38))) (inner := [.string (⟨#[97]⟩ : ByteArray), .string (⟨#[]⟩ : ByteArray), .string (⟨#[]⟩ : ByteArray), .int .u8 53, .int .i64 0, .int .i64 0, .int .i64 0, .int .i64 0, .slice none 0 0]) (ok := (fun k_ => some k_ ≠ (v194 : Value).ownBlock)) (okp := (fun k_ => some k_ ≠ (v194 : Value).ownBlock)) ?hr ?hp (fun _ hk => hk) ((show ∀ k_, w9.heap.size ≤ k_ → (fun k_ => some k_ ≠ (v194 : Value).ownBlock) k_ from fun k_ hk => Kd.fresh' (Kd.N_lt (wN_ HO195.out)) k_ hk) _ (Nat.le_refl _)) (Below.refl _ _) (Nat.le_refl _) (by simp) ?_; (case hd => rfl); (case hg => rfl); (case hr => first | (go_simp; done) | (go_simp; rfl)); (case hp => exact (Reps.c9 (show Kd.FK k38 _ _ (⟨(⟨#[97]⟩ : ByteArray), (⟨#[]⟩ : ByteArray), (⟨#[]⟩ : ByteArray), 53, (⟨0, 0, 0, 0⟩ : S24), ([] : List Int)⟩ : S38) [.string (⟨#[97]⟩ : ByteArray), .string (⟨#[]⟩ : ByteArray), .string (⟨#[]⟩ : ByteArray), .int .u8 53, .int .i64 0, .int .i64 0, .int .i64 0, .int .i64 0, .slice none 0 0] from (k38_mkF _ _ (⟨(⟨#[97]⟩ : ByteArray), (⟨#[]⟩ : ByteArray), (⟨#[]⟩ : ByteArray), 53, (⟨0, 0, 0, 0⟩ : S24), ([] : List Int)⟩ : S38) (Nat.le_refl _) (Kd.F_nil _ _ _))) (Reps.none _ _))); intro v197 w11 ho12 hb hg_ hnew_; clear hg_ hnew_; (first | rw [← Ny196.out] at ho12 | (simp only [Int.reduceToNat] at ho12; rw [← Ny196.out] at ho12)); have n0_ := A0_ (Kd.N_elder' (wN_ HO195.out) (Kd.N_base ho12) hb); have n1_ := A0_ (Kd.N_lower ho12 (below_size (wb_ HB.out))); have n2_ := A0_ (below_step (wb_ HB.out) hb); clear HO195; clear HB; have HO195 := n0_; have HO198 := n1_; have HB := n2_; clear n0_ n1_ n2_; clear hb ho12; obtain ⟨Ao13, co13, eo13⟩ := Kd.N_slice HO195.out; subst eo13; obtain ⟨Ao14, co14, eo14⟩ := Kd.N_slice HO198.out; subst eo14) | ((with_reducible refine gate_dst (N := 13) rfl ?_); (try (refine gate_guard (by rfl) ?_; dsimp only)); refine Kd.N_lit (Kd.slice 38 k38) _ 31 ?hg (N' := 13) ?hd (xs := ([y193, y196] : List (List (S38)))) (inner := [.slice Ao13 y193.length co13, .slice Ao14 y196.length co14]) (ok := (fun _ => True)) (okp := (fun _ => True)) ?hr ?hp (fun _ hk => hk) ((show ∀ k_, w11.heap.size ≤ k_ → (fun _ => True) k_ from fun k_ hk => trivial) _ (Nat.le_refl _)) (Below.refl _ _) (Nat.le_refl _) (by simp) ?_; (case hd => rfl); (case hg => rfl); (case hr => first | (go_simp; done) | (go_simp; rfl)); (case hp => exact (Reps.one (show Kd.FK (Kd.slice 38 k38) _ _ y193 [.slice Ao13 y193.length co13] from (Kd.FK_slice_mk (Kd.N_reads' (Kd.N_mono (ok' := (fun _ => True)) (HO195.out) (fun k_ hk => trivial))).2.1 (Kd.N_F (Kd.N_mono (ok' := (fun _ => True)) (HO195.out) (fun k_ hk => trivial))))) (Reps.one (show Kd.FK (Kd.slice 38 k38) _ _ y196 [.slice Ao14 y196.length co14] from (Kd.FK_slice_mk (Kd.N_reads' (Kd.N_mono (ok' := (fun _ => True)) (HO198.out) (fun k_ hk => trivial))).2.1 (Kd.N_F (Kd.N_mono (ok' := (fun _ => True)) (HO198.out) (fun k_ hk => trivial))))) (Reps.none _ _)))); intro v200 w15 ho16 hb hg_ hnew_; clear hg_ hnew_; (first | rw [← Ny199.out] at ho16 | (simp only [Int.reduceToNat] at ho16; rw [← Ny199.out] at ho16)); have n0_ := A0_ (Kd.N_lower ho16 (below_size (wb_ HB.out))); have n1_ := A0_ (below_step (wb_ HB.out) hb); clear HB; clear HO195; clear HO198; have HO201 := n0_; have HB := n1_; clear n0_ n1_; clear hb ho16; obtain ⟨Ao17, co17, eo17⟩ := Kd.N_slice HO201.out; subst eo17) | ((with_reducible refine gate_callee (f := 23) rfl ?_); refine goesL_ (some 14) rfl rfl Tryd.func23 (by kernel_rfl) rfl #[.slice Ao17 y199.length co17] rfl wm_ ?_; (with_reducible refine (union_Union.calls _ _ y199 t202 t205 _ ?side1 ?side2 ?side3 A1.out).mono ?_); (case side1 => exact A0_ (Tabs.below hT.out (wb_ HB.out))); (case side2 => exact wc_ (Kd.N_reads' HO201.out).2.2); (case side3 => exact (Kd.N_reads' HO201.out).2.1); rintro e w18 ⟨v203, rfl, ho0, hb⟩; refine ⟨_, rfl, ?_⟩; have n0_ := A0_ (Kd.N_below (wN_ HO201.out) hb); have n1_ := A0_ (Kd.V_lower (Kd.V_mono (ok' := fun k_ => some k_ ≠ (.slice Ao17 y199.length co17 : Value).ownBlock) ho0 (fun k_ hk_ => (Kd.fresh' (Kd.N_lt (wN_ HO201.out)) k_ hk_))) (below_size (wb_ HB.out))); have n2_ := A0_ (below_step (wb_ HB.out) hb); clear HO201; clear HB; have HO201 := n0_; have HO204 := n1_; have HB := n2_; clear n0_ n1_ n2_; (try clear hb); (try clear hb2); (try clear hk); (try clear hi); (try clear ho0)) | ((with_reducible refine gate_dst (N := 19) rfl ?_); (try (refine gate_guard (by rfl) ?_; dsimp only)); refine Kd.N_lit k38 _ 38 ?hg (N' := 19) ?hd (xs := ([(⟨(⟨#[]⟩ : ByteArray), (⟨#[]⟩ : ByteArray), (⟨#[]⟩ : ByteArray), 0, (⟨0, 0, 0, 0⟩ : S24), ([] : List Int)⟩ : S38)] : List (S38))) (inner := [.string (⟨#[]⟩ : ByteArray), .string (⟨#[]⟩ : ByteArray), .string (⟨#[]⟩ : ByteArray), .int .u8 0, .int .i64 0, .int .i64 0, .int .i64 0, .int .i64 0, .slice none 0 0]) (ok := (fun k_ => some k_ ≠ (.slice Ao17 y199.length co17 : Value).ownBlock)) (okp := (fun k_ => some k_ ≠ (.slice Ao17 y199.length co17 : Value).ownBlock)) ?hr ?hp (fun _ hk => hk) ((show ∀ k_, w18.heap.size ≤ k_ → (fun k_ => some k_ ≠ (.slice Ao17 y199.length co17 : Value).ownBlock) k_ from fun k_ hk => Kd.fresh' (Kd.N_lt (wN_ HO201.out)) k_ hk) _ (Nat.le_refl _)) (Below.refl _ _) (Nat.le_refl _) (by simp) ?_; (case hd => rfl); (case hg => rfl); (case hr => first | (go_simp; done) | (go_simp; rfl)); (case hp => exact (Reps.c9 (show Kd.FK k38 _ _ (⟨(⟨#[]⟩ : ByteArray), (⟨#[]⟩ : ByteArray), (⟨#[]⟩ : ByteArray), 0, (⟨0, 0, 0, 0⟩ : S24), ([] : List Int)⟩ : S38) [.string (⟨#[]⟩ : ByteArray), .string (⟨#[]⟩ : ByteArray), .string (⟨#[]⟩ : ByteArray), .int .u8 0, .int .i64 0, .int .i64 0, .int .i64 0, .int .i64 0, .slice none 0 0] from (k38_mkF _ _ (⟨(⟨#[]⟩ : ByteArray), (⟨#[]⟩ : ByteArray), (⟨#[]⟩ : ByteArray), 0, (⟨0, 0, 0, 0⟩ : S24), ([] : List Int)⟩ : S38) (Nat.le_refl _) (Kd.F_nil _ _ _))) (Reps.none _ _))); intro v207 w19 ho20 hb hg_ hnew_; clear hg_ hnew_; (first | rw [← Ny206.out] at ho20 | (simp only [Int.reduceToNat] at ho20; rw [← Ny206.out] at ho20)); have n0_ := A0_ (Kd.N_elder' (wN_ HO201.out) (Kd.N_base ho20) hb); have n1_ := A0_ (Kd.V_elder' (wV_ HO204.out) (Kd.N_base ho20) hb); have n2_ := A0_ (Kd.N_lower ho20 (below_size (wb_ HB.out))); have n3_ := A0_ (below_step (wb_ HB.out) hb); clear HO201; clear HO204; clear HB; have HO201 := n0_; have HO204 := n1_; have HO208 := n2_; have HB := n3_; clear n0_ n1_ n2_ n3_; clear hb ho20; obtain ⟨Ao21, co21, eo21⟩ := Kd.N_slice HO208.out; subst eo21) | ((with_reducible refine gate_dst (N := 20) rfl ?_); (try (refine gate_guard (by rfl) ?_; dsimp only)); refine Kd.N_lit (Kd.slice 38 k38) _ 31 ?hg (N' := 20) ?hd (xs := ([y206] : List (List (S38)))) (inner := [.slice Ao21 y206.length co21]) (ok := (fun k_ => some k_ ≠ (.slice Ao17 y199.length co17 : Value).ownBlock)) (okp := (fun k_ => some k_ ≠ (.slice Ao17 y199.length co17 : Value).ownBlock)) ?hr ?hp (fun _ hk => hk) ((show ∀ k_, w19.heap.size ≤ k_ → (fun k_ => some k_ ≠ (.slice Ao17 y199.length co17 : Value).ownBlock) k_ from fun k_ hk => Kd.fresh' (Kd.N_lt (wN_ HO201.out)) k_ hk) _ (Nat.le_refl _)) (Below.refl _ _) (Nat.le_refl _) (by simp) ?_; (case hd => rfl); (case hg => rfl); (case hr => first | (go_simp; done) | (go_simp; rfl)); (case hp => exact (Reps.one (show Kd.FK (Kd.slice 38 k38) _ _ y206 [.slice Ao21 y206.length co21] from (Kd.FK_slice_mk (Kd.N_reads' (Kd.N_mono (ok' := (fun k_ => some k_ ≠ (.slice Ao17 y199.length co17 : Value).ownBlock)) (HO208.out) (fun k_ hk => hk))).2.1 (Kd.N_F (Kd.N_mono (ok' := (fun k_ => some k_ ≠ (.slice Ao17 y199.length co17 : Value).ownBlock)) (HO208.out) (fun k_ hk => hk))))) (Reps.none _ _))); intro v210 w22 ho23 hb hg_ hnew_; clear hg_ hnew_; (first | rw [← Ny209.out] at ho23 | (simp only [Int.reduceToNat] at ho23; rw [← Ny209.out] at ho23)); have n0_ := A0_ (Kd.N_elder' (wN_ HO201.out) (Kd.N_base ho23) hb); have n1_ := A0_ (Kd.V_elder' (wV_ HO204.out) (Kd.N_base ho23) hb); have n2_ := A0_ (Kd.N_lower ho23 (below_size (wb_ HB.out))); have n3_ := A0_ (below_step (wb_ HB.out) hb); clear HO201; clear HO204; clear HB; clear HO208; have HO201 := n0_; have HO204 := n1_; have HO211 := n2_; have HB := n3_; clear n0_ n1_ n2_ n3_; clear hb ho23; obtain ⟨Ao24, co24, eo24⟩ := Kd.N_slice HO211.out; subst eo24) | ((with_reducible refine gate_callee (f := 23) rfl ?_); refine goesL_ (some 21) rfl rfl Tryd.func23 (by kernel_rfl) rfl #[.slice Ao24 y209.length co24] rfl wm_ ?_; (with_reducible refine (union_Union.calls _ _ y209 t212 t215 _ ?side1 ?side2 ?side3 A2.out).mono ?_); (case side1 => exact A0_ (Tabs.below hT.out (wb_ HB.out))); (case side2 => exact wc_ (Kd.N_reads' HO211.out).2.2); (case side3 => exact (Kd.N_reads' HO211.out).2.1); rintro e w25 ⟨v213, rfl, ho0, hb⟩; refine ⟨_, rfl, ?_⟩; have n0_ := A0_ (Kd.N_below (wN_ HO201.out) hb); have n1_ := A0_ (Vb_ (wV_ HO204.out) hb); have n2_ := A0_ (Kd.N_below (wN_ HO211.out) hb); have n3_ := A0_ (Kd.V_lower (Kd.V_mono (ok' := fun k_ => some k_ ≠ (.slice Ao17 y199.length co17 : Value).ownBlock ∧ some k_ ≠ (.slice Ao24 y209.length co24 : Value).ownBlock) ho0 (fun k_ hk_ => ⟨(Kd.fresh' (Kd.N_lt (wN_ HO201.out)) k_ hk_), (Kd.fresh' (Kd.N_lt (wN_ HO211.out)) k_ hk_)⟩)) (below_size (wb_ HB.out))); have n4_ := A0_ (below_step (wb_ HB.out) hb); clear HO201; clear HO204; clear HO211; clear HB; have HO201 := n0_; have HO204 := n1_; have HO211 := n2_; have HO214 := n3_; have HB := n4_; clear n0_ n1_ n2_ n3_ n4_; (try clear hb); (try clear hb2); (try clear hk); (try clear hi); (try clear ho0); obtain ⟨Ao26, co26, eo26⟩ := Kd.V_slice HO204.out; subst eo26; have p216 : 0 ≤ (0 : Int) := (by omega); have q216 : 0 < (t202.length : Int) := wd_; obtain ⟨ad216, A216_8, c216_8, e216, hx216_0, hx216_1, hx216_2, hx216_3, hx216_4, hx216_5, hx216_6, hx216_7, hx216_8, hl216_8, hi216_8⟩ := at_T38 (Kd.V_reads' HO204.out).2.2 0 p216 q216; cases e216; obtain ⟨ce216, hce216, hMe216, hcc216⟩ := Kd.V_get HO204.out z38 0 p216 (by first | exact q216 | exact wd_ | (have e_ := (Kd.V_reads' HO204.out).1; omega)); obtain ⟨ua216_8, uc216_8, rfl, ul216_8, ge216_8⟩ := k38_openF hMe216; have hv216_8 := hcc216 8 _ rfl; rw [add_field _ _ 8 (by omega)] at hv216_8; replace hv216_8 := Option.some.inj (hv216_8.symm.trans hx216_8); injection hv216_8 with hva_ hvn_ hvc_; rw [hva_] at ge216_8; rw [hvc_] at ul216_8; have HL216_8 := A0_ (show Kd.V (Kd.int .u8) 5 _ w.heap.size _ _ ((rd_T38 t202 0).f5) from Kd.V_mk ul216_8 ge216_8); clear hva_ hvn_ hvc_ ge216_8 ul216_8; clear hcc216 hce216; have qi216 : (0 < t202.length) = True := eq_true (by omega); (try rw [show ((0 : Int)).toNat = 0 from rfl] at hx216_0); (try rw [show 0 * 9 = 0 from rfl] at hx216_0); (try rw [Addr.add_zero'] at hx216_0); (try rw [show ((0 : Int)).toNat = 0 from rfl] at hx216_1); (try rw [show 0 * 9 = 0 from rfl] at hx216_1); (try rw [Addr.add_zero'] at hx216_1); (try rw [show ((0 : Int)).toNat = 0 from rfl] at hx216_2); (try rw [show 0 * 9 = 0 from rfl] at hx216_2); (try rw [Addr.add_zero'] at hx216_2); (try rw [show ((0 : Int)).toNat = 0 from rfl] at hx216_3); (try rw [show 0 * 9 = 0 from rfl] at hx216_3); (try rw [Addr.add_zero'] at hx216_3); (try rw [show ((0 : Int)).toNat = 0 from rfl] at hx216_4); (try rw [show 0 * 9 = 0 from rfl] at hx216_4); (try rw [Addr.add_zero'] at hx216_4); (try rw [show ((0 : Int)).toNat = 0 from rfl] at hx216_5); (try rw [show 0 * 9 = 0 from rfl] at hx216_5); (try rw [Addr.add_zero'] at hx216_5); (try rw [show ((0 : Int)).toNat = 0 from rfl] at hx216_6); (try rw [show 0 * 9 = 0 from rfl] at hx216_6); (try rw [Addr.add_zero'] at hx216_6); (try rw [show ((0 : Int)).toNat = 0 from rfl] at hx216_7); (try rw [show 0 * 9 = 0 from rfl] at hx216_7); (try rw [Addr.add_zero'] at hx216_7); (try rw [show ((0 : Int)).toNat = 0 from rfl] at hx216_8); (try rw [show 0 * 9 = 0 from rfl] at hx216_8); (try rw [Addr.add_zero'] at hx216_8); have HR216_8 := A0_ hi216_8; have HC216_8 := A0_ hl216_8; clear hi216_8 hl216_8; replace p216 := eq_true p216; replace q216 := eq_true q216; have p217 : 0 ≤ (1 : Int) := (by omega); have q217 : 1 < (t202.length : Int) := wd_; obtain ⟨ad217, A217_8, c217_8, e217, hx217_0, hx217_1, hx217_2, hx217_3, hx217_4, hx217_5, hx217_6, hx217_7, hx217_8, hl217_8, hi217_8⟩ := at_T38 (Kd.V_reads' HO204.out).2.2 1 p217 q217; obtain rfl : ad216 = ad217 := (by injection e217); obtain ⟨ce217, hce217, hMe217, hcc217⟩ := Kd.V_get HO204.out z38 1 p217 (by first | exact q217 | exact wd_ | (have e_ := (Kd.V_reads' HO204.out).1; omega)); obtain ⟨ua217_8, uc217_8, rfl, ul217_8, ge217_8⟩ := k38_openF hMe217; have hv217_8 := hcc217 8 _ rfl; rw [add_field _ _ 8 (by omega)] at hv217_8; replace hv217_8 := Option.some.inj (hv217_8.symm.trans hx217_8); injection hv217_8 with hva_ hvn_ hvc_; rw [hva_] at ge217_8; rw [hvc_] at ul217_8; have HL217_8 := A0_ (show Kd.V (Kd.int .u8) 5 _ w.heap.size _ _ ((rd_T38 t202 1).f5) from Kd.V_mk ul217_8 ge217_8); clear hva_ hvn_ hvc_ ge217_8 ul217_8; clear hcc217 hce217; (try simp only [one_n, Nat.reduceMul, Nat.reduceEqDiff, Go.Addr.add, ↓reduceIte] at hx217_0); (try simp only [one_n, Nat.reduceMul, Nat.reduceEqDiff, Go.Addr.add, ↓reduceIte] at hx217_1); (try simp only [one_n, Nat.reduceMul, Nat.reduceEqDiff, Go.Addr.add, ↓reduceIte] at hx217_2); (try simp only [one_n, Nat.reduceMul, Nat.reduceEqDiff, Go.Addr.add, ↓reduceIte] at hx217_3); (try simp only [one_n, Nat.reduceMul, Nat.reduceEqDiff, Go.Addr.add, ↓reduceIte] at hx217_4); (try simp only [one_n, Nat.reduceMul, Nat.reduceEqDiff, Go.Addr.add, ↓reduceIte] at hx217_5); (try simp only [one_n, Nat.reduceMul, Nat.reduceEqDiff, Go.Addr.add, ↓reduceIte] at hx217_6); (try simp only [one_n, Nat.reduceMul, Nat.reduceEqDiff, Go.Addr.add, ↓reduceIte] at hx217_7); (try simp only [one_n, Nat.reduceMul, Nat.reduceEqDiff, Go.Addr.add, ↓reduceIte] at hx217_8); have qi217 : (1 < t202.length) = True := eq_true (by omega); (try rw [show ((1 : Int)).toNat = 1 from rfl] at hx217_0); (try rw [show 1 * 9 = 9 from rfl] at hx217_0); (try rw [show ((1 : Int)).toNat = 1 from rfl] at hx217_1); (try rw [show 1 * 9 = 9 from rfl] at hx217_1); (try rw [show ((1 : Int)).toNat = 1 from rfl] at hx217_2); (try rw [show 1 * 9 = 9 from rfl] at hx217_2); (try rw [show ((1 : Int)).toNat = 1 from rfl] at hx217_3); (try rw [show 1 * 9 = 9 from rfl] at hx217_3); (try rw [show ((1 : Int)).toNat = 1 from rfl] at hx217_4); (try rw [show 1 * 9 = 9 from rfl] at hx217_4); (try rw [show ((1 : Int)).toNat = 1 from rfl] at hx217_5); (try rw [show 1 * 9 = 9 from rfl] at hx217_5); (try rw [show ((1 : Int)).toNat = 1 from rfl] at hx217_6); (try rw [show 1 * 9 = 9 from rfl] at hx217_6); (try rw [show ((1 : Int)).toNat = 1 from rfl] at hx217_7); (try rw [show 1 * 9 = 9 from rfl] at hx217_7); (try rw [show ((1 : Int)).toNat = 1 from rfl] at hx217_8); (try rw [show 1 * 9 = 9 from rfl] at hx217_8); have HR217_8 := A0_ hi217_8; have HC217_8 := A0_ hl217_8; clear hi217_8 hl217_8; replace p217 := eq_true p217; replace q217 := eq_true q217))
 go_ret
 exact ⟨we_, wb_ HB.out⟩
end Go.Proofs.YtfmphccoeinhcaaDoor.Print

namespace Go.Proofs.YtfmphccoeinhcaaDoor.Print
open Go.RowKit Go.Proofs.YtfmphccoeinhcaaDoorW.PrintWords Go.Proofs.YtfmphccoeinhcaaDoorW.PrintLast Go.Proofs.YtfmphccoeinhcaaDoorW.PrintMore
attribute [local go_sem] max2_int min2_int max_two min_two max_three min_three max_four min_four   -- for this text's walks alone
set_option linter.unusedVariables false
set_option linter.unusedSimpArgs false
def bindlelaw19_at.l0 : Nat → List (S60) → ByteArray → Int → Int → Option (Int)
 | 0, _, _, _, _ => none
 | k + 1, x0, x1, x5, x6 => if x6 < (x0.length : Int) then (if 0 ≤ x6 then (if ((rd_T60 x0 x6).f0.f0).toList = x1.toList then (bindlelaw19_at.l0 k x0 x1 x6 (wrap64 (x6 + 1))) else (bindlelaw19_at.l0 k x0 x1 x5 (wrap64 (x6 + 1)))) else (none)) else (some x5)
def bindlelaw19_at.f (k : Nat) (l0 : List (S60)) (a1 : ByteArray) : Option (Int) := bindlelaw19_at.l0 k l0 a1 0 0
set_option maxHeartbeats 8000000 in
set_option maxRecDepth 100000 in
theorem bindlelaw19_at.calls (k : Nat) (A0 : Option Addr) (c0 : Nat) (l0 : List (S60)) (a1 : ByteArray) (r : Int) (w : World) (hr0 : Kd.C k60 w A0 l0.length l0) (hc0 : l0.length ≤ c0) (h : bindlelaw19_at.f k l0 a1 = some r) :
  Calls Tryd.prog 32 #[.slice A0 l0.length c0, .string a1] w fun e w' => e = .returned (.int .i64 r) ∧ Drawn0 w w' := by
 have HR0 := A0_ hr0
 have HC0 := A0_ hc0
 clear hr0 hc0
 have H : (bindlelaw19_at.l0 k l0 a1 0 0) = some r := h
 clear h
 have H' := A0_ H
 clear H
 go_enter Tryd.func32, Tryd.ntmps32
 go_wp2
 go_loopg [5, 6] k (fun kq v5 v6 w' => ∃ (x5_1 : Int) (x6_1 : Int), v5 = .int .i64 x5_1 ∧ v6 = .int .i64 x6_1 ∧ Aside0 (bindlelaw19_at.l0 kq l0 a1 x5_1 x6_1 = some r) ∧ Aside0 (kq ≤ k) ∧ Drawn0 w w')
 case atStart => exact ⟨(0), (0), wr_, wr_, H', ⟨Nat.le_refl _⟩, by repeat (first | exact Drawn0.refl _ | apply Drawn0.step)⟩
 case round =>
  clear H'
  try clear p2
  obtain ⟨x5_1, x6_1, rfl, rfl, HA, HK1, ⟨m1, rfl⟩⟩ := hrel
  cases gk with
  | zero => exact absurd HA.out (by simp [bindlelaw19_at.l0])
  | succ k1 =>
   have H := HA.out
   clear HA
   simp only [bindlelaw19_at.l0] at H
   by_cases c3 : x6_1 < (l0.length : Int)
   rotate_left
   ·rw [if_neg c3] at H
    have c3b0 : decide (x6_1 < (l0.length : Int)) = false := decide_eq_false c3
    clear c3
    obtain rfl := Option.some.inj H
    go_wp2
    go_ret
    exact ⟨by first | rfl | (simp; done) | (simp [*]; done), by repeat (first | exact Drawn0.refl _ | apply Drawn0.step)⟩
   rw [if_pos c3] at H
   have c3b0 : decide (x6_1 < (l0.length : Int)) = true := decide_eq_true c3
   clear c3
   by_cases c4 : 0 ≤ x6_1
   rotate_left
   ·rw [if_neg c4] at H
    exact absurd H (by simp)
   rw [if_pos c4] at H
   have c4b0 : decide (0 ≤ x6_1) = true := decide_eq_true c4
   clear c4
   by_cases c5 : ((rd_T60 l0 x6_1).f0.f0).toList = a1.toList
   rotate_left
   ·rw [if_neg c5] at H
    have c5b0 : (((rd_T60 l0 x6_1).f0.f0).toList == a1.toList) = false := beq_eq_false_iff_ne.mpr c5
    have c5b1 : (((rd_T60 l0 x6_1).f0.f0).toList != a1.toList) = true := bne_iff_ne.mpr c5
    have H' := A0_ H
    clear H
    have p613 : 0 ≤ (x6_1 : Int) := wd_
    have q613 : x6_1 < (l0.length : Int) := wd_
    obtain ⟨ad613, A613_8, c613_8, e613, hx613_0, hx613_1, hx613_2, hx613_3, hx613_4, hx613_5, hx613_6, hx613_7, hx613_8, hx613_9, hl613_8, hi613_8⟩ := at_T60 HR0.out x6_1 p613 q613
    cases e613
    have HR613_8 := A0_ hi613_8
    have HC613_8 := A0_ hl613_8
    clear hi613_8 hl613_8
    replace p613 := eq_true p613
    replace q613 := eq_true q613
    go_wp2
    go_roundg k1
    case measure => have := HK1.out; omega
    case rel => exact ⟨(x5_1), (wrap64 (x6_1 + 1)), wr_, wr_, H', ⟨by have := HK1.out; omega⟩, by repeat (first | exact Drawn0.refl _ | apply Drawn0.step)⟩
   rw [if_pos c5] at H
   have c5b0 : (((rd_T60 l0 x6_1).f0.f0).toList == a1.toList) = true := beq_iff_eq.mpr c5
   have c5b1 : (((rd_T60 l0 x6_1).f0.f0).toList != a1.toList) = false := bne_eq_false_iff_eq.mpr c5
   clear c5
   have H' := A0_ H
   clear H
   have p613 : 0 ≤ (x6_1 : Int) := wd_
   have q613 : x6_1 < (l0.length : Int) := wd_
   obtain ⟨ad613, A613_8, c613_8, e613, hx613_0, hx613_1, hx613_2, hx613_3, hx613_4, hx613_5, hx613_6, hx613_7, hx613_8, hx613_9, hl613_8, hi613_8⟩ := at_T60 HR0.out x6_1 p613 q613
   cases e613
   have HR613_8 := A0_ hi613_8
   have HC613_8 := A0_ hl613_8
   clear hi613_8 hl613_8
   replace p613 := eq_true p613
   replace q613 := eq_true q613
   go_wp2
   go_roundg k1
   case measure => have := HK1.out; omega
   case rel => exact ⟨(x6_1), (wrap64 (x6_1 + 1)), wr_, wr_, H', ⟨by have := HK1.out; omega⟩, by repeat (first | exact Drawn0.refl _ | apply Drawn0.step)⟩
end Go.Proofs.YtfmphccoeinhcaaDoor.Print

namespace Go.Proofs.YtfmphccoeinhcaaDoor
open Go.RowKit Go.Maps Go.Proofs.YtfmphccoeinhcaaDoor.Print Go.Proofs.YtfmphccoeinhcaaDoorW.PrintWords Go.Proofs.YtfmphccoeinhcaaDoorW.PrintLast Go.Proofs.YtfmphccoeinhcaaDoorW.PrintMore
set_option linter.unusedVariables false
set_option linter.unusedSimpArgs false
theorem putF {W : World} {ok : Nat → Prop} {x : PutR} {cs : List Value} (h : Kd.FK k57 W ok x cs) : ∃ A8 c8, cs = [.int .i64 x.f0, .string x.f1.f0, .string x.f1.f1, .string x.f1.f2, .int .u8 x.f1.f3, .int .i64 x.f1.f4.f0, .int .i64 x.f1.f4.f1, .int .i64 x.f1.f4.f2, .int .i64 x.f1.f4.f3, .slice A8 x.f1.f5.length c8, .string x.f2] ∧ x.f1.f5.length ≤ c8 ∧ Kd.F (Kd.int .u8) W ok A8 x.f1.f5.length x.f1.f5 := by
 obtain ⟨A8, c8, rfl, l8, _⟩ := k57_open (Kd.FK_now h)
 exact ⟨A8, c8, rfl, l8, (fun W' hW => by obtain ⟨A8_, c8_, he, l8_, g8_⟩ := k57_open (h W' hW); injection (Option.some.inj (show some (Value.slice A8 x.f1.f5.length c8) = some (Value.slice A8_ x.f1.f5.length c8_) from congrArg (fun l => l[9]?) he)) with ha_ _ _; rw [ha_]; exact g8_)⟩
theorem put_at {w : World} {base : Nat} {ok : Nat → Prop} {A : Option Addr} {n cap : Nat} {xs : List PutR} (h : Kd.V k57 57 w base ok (.slice A n cap) xs) (i : Int) (h0 : 0 ≤ i) (h1 : i < n) : ∃ ad A8 c8, A = some ad ∧ w.cell? (ad.add (i.toNat * 11)) = some (.int .i64 (rd_T57 xs i).f0) ∧ w.cell? ⟨(ad.add (i.toNat * 11)).block, (ad.add (i.toNat * 11)).off + 1, none⟩ = some (.string (rd_T57 xs i).f1.f0) ∧ w.cell? ⟨(ad.add (i.toNat * 11)).block, (ad.add (i.toNat * 11)).off + 2, none⟩ = some (.string (rd_T57 xs i).f1.f1) ∧ w.cell? ⟨(ad.add (i.toNat * 11)).block, (ad.add (i.toNat * 11)).off + 3, none⟩ = some (.string (rd_T57 xs i).f1.f2) ∧ w.cell? ⟨(ad.add (i.toNat * 11)).block, (ad.add (i.toNat * 11)).off + 4, none⟩ = some (.int .u8 (rd_T57 xs i).f1.f3) ∧ w.cell? ⟨(ad.add (i.toNat * 11)).block, (ad.add (i.toNat * 11)).off + 5, none⟩ = some (.int .i64 (rd_T57 xs i).f1.f4.f0) ∧ w.cell? ⟨(ad.add (i.toNat * 11)).block, (ad.add (i.toNat * 11)).off + 6, none⟩ = some (.int .i64 (rd_T57 xs i).f1.f4.f1) ∧ w.cell? ⟨(ad.add (i.toNat * 11)).block, (ad.add (i.toNat * 11)).off + 7, none⟩ = some (.int .i64 (rd_T57 xs i).f1.f4.f2) ∧ w.cell? ⟨(ad.add (i.toNat * 11)).block, (ad.add (i.toNat * 11)).off + 8, none⟩ = some (.int .i64 (rd_T57 xs i).f1.f4.f3) ∧ w.cell? ⟨(ad.add (i.toNat * 11)).block, (ad.add (i.toNat * 11)).off + 9, none⟩ = some (.slice A8 (rd_T57 xs i).f1.f5.length c8) ∧ w.cell? ⟨(ad.add (i.toNat * 11)).block, (ad.add (i.toNat * 11)).off + 10, none⟩ = some (.string (rd_T57 xs i).f2) ∧ (rd_T57 xs i).f1.f5.length ≤ c8 ∧ Kd.F (Kd.int .u8) w ok A8 (rd_T57 xs i).f1.f5.length (rd_T57 xs i).f1.f5 := by
 have hr := Kd.V_reads' h
 obtain ⟨ad, _, _, hA, _⟩ := at_T57 hr.2.2 i h0 (by rw [← hr.1]; exact h1)
 subst hA
 obtain ⟨cs, _, hK, hcc⟩ := Kd.V_get h z57 i h0 h1
 have hc : ∀ j u, cs[j]? = some u → w.cell? (ad.add (i.toNat * 11 + j)) = some u := hcc
 obtain ⟨A8, c8, rfl, l8, g8⟩ := putF hK
 exact ⟨ad, A8, c8, rfl, hc 0 _ rfl, by rw [← add_field _ _ 1 (by omega)]; exact hc 1 _ rfl, by rw [← add_field _ _ 2 (by omega)]; exact hc 2 _ rfl, by rw [← add_field _ _ 3 (by omega)]; exact hc 3 _ rfl, by rw [← add_field _ _ 4 (by omega)]; exact hc 4 _ rfl, by rw [← add_field _ _ 5 (by omega)]; exact hc 5 _ rfl, by rw [← add_field _ _ 6 (by omega)]; exact hc 6 _ rfl, by rw [← add_field _ _ 7 (by omega)]; exact hc 7 _ rfl, by rw [← add_field _ _ 8 (by omega)]; exact hc 8 _ rfl, by rw [← add_field _ _ 9 (by omega)]; exact hc 9 _ rfl, by rw [← add_field _ _ 10 (by omega)]; exact hc 10 _ rfl, l8, g8⟩
theorem cls_at {w : World} {base : Nat} {ok : Nat → Prop} {A : Option Addr} {n cap : Nat} {xs : List Cls} (h : Kd.V k60 60 w base ok (.slice A n cap) xs) (i : Int) (h0 : 0 ≤ i) (h1 : i < n) : ∃ ad A8 c8, A = some ad ∧ w.cell? (ad.add (i.toNat * 10)) = some (.string (rd_T60 xs i).f0.f0) ∧ w.cell? ⟨(ad.add (i.toNat * 10)).block, (ad.add (i.toNat * 10)).off + 1, none⟩ = some (.string (rd_T60 xs i).f0.f1) ∧ w.cell? ⟨(ad.add (i.toNat * 10)).block, (ad.add (i.toNat * 10)).off + 2, none⟩ = some (.string (rd_T60 xs i).f0.f2) ∧ w.cell? ⟨(ad.add (i.toNat * 10)).block, (ad.add (i.toNat * 10)).off + 3, none⟩ = some (.int .u8 (rd_T60 xs i).f0.f3) ∧ w.cell? ⟨(ad.add (i.toNat * 10)).block, (ad.add (i.toNat * 10)).off + 4, none⟩ = some (.int .i64 (rd_T60 xs i).f0.f4.f0) ∧ w.cell? ⟨(ad.add (i.toNat * 10)).block, (ad.add (i.toNat * 10)).off + 5, none⟩ = some (.int .i64 (rd_T60 xs i).f0.f4.f1) ∧ w.cell? ⟨(ad.add (i.toNat * 10)).block, (ad.add (i.toNat * 10)).off + 6, none⟩ = some (.int .i64 (rd_T60 xs i).f0.f4.f2) ∧ w.cell? ⟨(ad.add (i.toNat * 10)).block, (ad.add (i.toNat * 10)).off + 7, none⟩ = some (.int .i64 (rd_T60 xs i).f0.f4.f3) ∧ w.cell? ⟨(ad.add (i.toNat * 10)).block, (ad.add (i.toNat * 10)).off + 8, none⟩ = some (.slice A8 (rd_T60 xs i).f0.f5.length c8) ∧ w.cell? ⟨(ad.add (i.toNat * 10)).block, (ad.add (i.toNat * 10)).off + 9, none⟩ = some (.int .i64 (rd_T60 xs i).f1) ∧ (rd_T60 xs i).f0.f5.length ≤ c8 ∧ Kd.F (Kd.int .u8) w ok A8 (rd_T60 xs i).f0.f5.length (rd_T60 xs i).f0.f5 := by
 have hr := Kd.V_reads' h
 obtain ⟨ad, _, _, hA, _⟩ := at_T60 hr.2.2 i h0 (by rw [← hr.1]; exact h1)
 subst hA
 obtain ⟨cs, _, hK, hcc⟩ := Kd.V_get h z60 i h0 h1
 have hc : ∀ j u, cs[j]? = some u → w.cell? (ad.add (i.toNat * 10 + j)) = some u := hcc
 obtain ⟨A8, c8, rfl, l8, g8⟩ := k60_openF hK
 exact ⟨ad, A8, c8, rfl, hc 0 _ rfl, by rw [← add_field _ _ 1 (by omega)]; exact hc 1 _ rfl, by rw [← add_field _ _ 2 (by omega)]; exact hc 2 _ rfl, by rw [← add_field _ _ 3 (by omega)]; exact hc 3 _ rfl, by rw [← add_field _ _ 4 (by omega)]; exact hc 4 _ rfl, by rw [← add_field _ _ 5 (by omega)]; exact hc 5 _ rfl, by rw [← add_field _ _ 6 (by omega)]; exact hc 6 _ rfl, by rw [← add_field _ _ 7 (by omega)]; exact hc 7 _ rfl, by rw [← add_field _ _ 8 (by omega)]; exact hc 8 _ rfl, by rw [← add_field _ _ 9 (by omega)]; exact hc 9 _ rfl, l8, g8⟩
theorem rdK_at (l : List Cls) (n : Int) (h0 : 0 ≤ n) (h1 : n < l.length) : rd_T60 l n = l[n.toNat]'(by omega) := by
 unfold rd_T60
 rw [List.getD_eq_getElem?_getD, List.getElem?_eq_getElem (by omega)]
 rfl
theorem nsoft {w : World} {b : Nat} {cs : Array Value} {t : TypeId} (h : w.heap[b]? = some (.cells cs t (0, 0))) (j : Nat) : w.frozen? ⟨b, j, none⟩ = false := by
 unfold World.frozen?
 dsimp only
 rw [h]
 rfl
def otherB (x : PutR) (y : Cls) : Bool := !decide (y.f0.f0.toList = x.f2.toList)
def CRel3 (c : List Cls) (x : PutR) (wc : World) (d1 d2 : Nat) (k : Int) (v : Value) (w' : World) : Prop :=
 0 ≤ k ∧ k ≤ c.length ∧ Kd.N k60 60 w' wc.heap.size (fun k => k ≠ d1 ∧ k ≠ d2) v ((c.take k.toNat).filter (otherB x)) ∧ Below wc.heap.size wc w'
theorem crel3_skip {c : List Cls} {x : PutR} {wc w' : World} {d1 d2 : Nat} {k : Int} {v : Value} (h : CRel3 c x wc d1 d2 k v w') (hk : k < c.length) (hp : otherB x (c[k.toNat]'(by have := h.1; omega)) = false) {w2 : World} (hb : Below w'.heap.size w' w2) : CRel3 c x wc d1 d2 (k + 1) v w2 := by
 have h0 := h.1
 refine ⟨by omega, by omega, ?_, h.2.2.2.trans (hb.mono h.2.2.2.size)⟩
 rw [show (k + 1).toNat = k.toNat + 1 from by omega, List.take_succ_eq_append_getElem (by omega), List.filter_append, List.filter_cons_of_neg (by rw [hp]; decide), List.filter_nil, List.append_nil]
 exact Kd.N_below h.2.2.1 hb
theorem crel3_keep {c : List Cls} {x : PutR} {wc w' : World} {d1 d2 : Nat} {k : Int} {v : Value} (h : CRel3 c x wc d1 d2 k v w') {w2 : World} (hb : Below w'.heap.size w' w2) : CRel3 c x wc d1 d2 k v w2 := ⟨h.1, h.2.1, Kd.N_below h.2.2.1 hb, h.2.2.2.trans (hb.mono h.2.2.2.size)⟩
theorem crel3_take {c : List Cls} {y : Cls} {p : PutR} {wc w1 : World} {d1 d2 : Nat} {k : Int} {v1 : Value} (h0 : 0 ≤ k) (hk : k < c.length) (hy : y = c[k.toNat]'(by omega)) (hp : otherB p y = true) (ho : Kd.N k60 60 w1 wc.heap.size (fun k => k ≠ d1 ∧ k ≠ d2) v1 ((c.take k.toNat).filter (otherB p) ++ [y])) (hb : Below wc.heap.size wc w1) : CRel3 c p wc d1 d2 (k + 1) v1 w1 := by
 refine ⟨by omega, by omega, ?_, hb⟩
 rw [show (k + 1).toNat = k.toNat + 1 from by omega, List.take_succ_eq_append_getElem (by omega), List.filter_append, ← hy, List.filter_cons_of_pos hp, List.filter_nil]
 exact ho
theorem PileAt.maps {w : World} {base g d1 d2 n : Nat} {s : PL} (h : PileAt w base g d1 d2 n s) : d1 < w.heap.size ∧ d2 < w.heap.size := by
 obtain ⟨V, h1, _⟩ := h.nodes
 exact ⟨h1.lt, h.keys.lt⟩
def PutZ (r : PutR) : Prop := EntZ (entR r)
abbrev OK2 (d1 d2 : Nat) : Nat → Prop := fun k => k ≠ d1 ∧ k ≠ d2
def PRel1 (l : List PutR) (W : World) (g d1 d2 : Nat) (n : Int) (v : Value) (wr : World) : Prop :=
 0 ≤ n ∧ n ≤ l.length ∧ (0 < n → l.length ≤ 60) ∧ PileAt wr W.heap.size g d1 d2 n.toNat (pileR (l.take n.toNat)) ∧ Kd.V k60 60 wr 0 (OK2 d1 d2) v (clsR l n.toNat) ∧ Below W.heap.size W wr
theorem rdP_at (l : List PutR) (n : Int) (h0 : 0 ≤ n) (h1 : n < l.length) : rd_T57 l n = l[n.toNat]'(by omega) := by
 unfold rd_T57
 rw [List.getD_eq_getElem?_getD, List.getElem?_eq_getElem (by omega)]
 rfl
def CRel2 (l : List PutR) (x : PutR) (n : Int) (w3 : World) (k : Int) (w' : World) : Prop :=
 0 ≤ k ∧ k ≤ n ∧ (∀ (q : Nat) (hq : q < l.length), (q : Int) < k → ¬ (l[q].f0 = x.f0 ∧ l[q].f1.f2.toList = x.f1.f2.toList)) ∧ Below w3.heap.size w3 w'
theorem crel2_hit {l : List PutR} {x : PutR} {n k : Int} {w3 w' : World} (h : CRel2 l x n w3 k w') (hk : k < l.length) (h0 : 0 ≤ n) (hn : n < l.length) (hx : x = l[n.toNat]'(by omega)) (hs : (l[k.toNat]'(by have := h.1; omega)).f0 = x.f0 ∧ (l[k.toNat]'(by have := h.1; omega)).f1.f2.toList = x.f1.f2.toList) : (firstIx l x.f0 x.f1.f2 : Int) = k := by
 have hk0 := h.1
 have := firstIx_is (l := l) (i := n.toNat) (j := k.toNat) (by omega) (by omega) (by rw [← hx]; exact hs) (fun q hq hqk => by rw [← hx]; exact h.2.2.1 q hq (by omega))
 rw [← hx] at this
 omega
theorem crel2_next {l : List PutR} {x : PutR} {n k : Int} {w3 w' : World} (h : CRel2 l x n w3 k w') (hk : k < l.length) (hs : ¬ ((l[k.toNat]'(by have := h.1; omega)).f0 = x.f0 ∧ (l[k.toNat]'(by have := h.1; omega)).f1.f2.toList = x.f1.f2.toList)) : k < n → ∀ w2, Below w'.heap.size w' w2 → CRel2 l x n w3 (k + 1) w2 := fun hkn w2 hb => by
 refine ⟨by have := h.1; omega, by omega, fun q hq hqk => ?_, h.2.2.2.trans (hb.mono h.2.2.2.size)⟩
 have hk0 := h.1
 rcases Int.lt_or_le (q : Int) k with h1 | h1
 ·exact h.2.2.1 q hq h1
 ·obtain rfl : q = k.toNat := by omega
  exact hs
theorem crel2_end {l : List PutR} {x : PutR} {n k : Int} {w3 w' : World} (h : CRel2 l x n w3 k w') (hk : ¬ k < n) (h0 : 0 ≤ n) (hn : n < l.length) (hx : x = l[n.toNat]'(by omega)) : (firstIx l x.f0 x.f1.f2 : Int) = n := by
 have hkn : k = n := by have := h.2.1; omega
 subst hkn
 exact crel2_hit h hn h0 hn hx (by rw [← hx]; exact ⟨rfl, rfl⟩)
theorem enter_step {P : Program} {ops : Array Oper} {Q : Exit → Act → World → Prop} {rest : List Oper} {o : Oper} {a : Act} {w : World} {f : FuncId} {fn : Func} {ars : Array Operand} {ts : Array TypeId} (hf : P.funcs[f]? = some fn) (hname : (fn.name == "runtime.NumGoroutine") = false) (hb : fn.body.isSome = true) (args : Array Value)
  (hop : o.op = .call { callee := .value (.func f), args := ars, argTypes := ts }) (hargs : ars.map a.eval = args) (hw : Region.wanted o (yielded ops a.tmps) = true)
  (h : Calls P f args w fun e w' => ∃ v, e = .returned v ∧ wpList P ops Q rest (a.put o.dst v) w') : wpList P ops Q (o :: rest) a w :=
 wpList_step fun K hK => goes_ (N := o.dst) hf hname hb args hw rfl hop hargs (h.mono fun e w' ⟨v, e1, hk⟩ => ⟨v, e1, hK _ _ hk⟩)
set_option maxRecDepth 100000 in
theorem PutNil_calls (W : World) : Calls Tryd.prog 28 #[.pointer none, .int .i64 1, .agg #[.string ⟨#[]⟩, .string ⟨#[]⟩, .string ⟨#[]⟩, .int .u8 0, .int .i64 0, .int .i64 0, .int .i64 0, .int .i64 0, .slice none 0 0], .string ⟨#[97]⟩] W fun e W' => e = .returned (.tuple #[]) ∧ Below W.heap.size W W' := by
 go_enter Tryd.func28, Tryd.ntmps28
 go_wp2
 refine bodyPost_ret (v := .tuple #[]) (by simp [results, Tryd.results28, go_sem]) rfl ?_
 exact ⟨rfl, below_alloc (Below.refl _ _) _⟩
set_option maxRecDepth 100000 in
theorem LenNil_calls (W : World) : Calls Tryd.prog 31 #[.pointer none] W fun e W' => e = .returned (.int .i64 0) ∧ Below W.heap.size W W' := by
 go_enter Tryd.func31, Tryd.ntmps31
 go_wp2
 go_ret
 exact ⟨rfl, Below.refl _ _⟩
set_option maxRecDepth 100000 in
theorem TreeNil_calls (W : World) : Calls Tryd.prog 30 #[.pointer none] W fun e W' => e = .returned (.slice none 0 0) ∧ Below W.heap.size W W' := by
 go_enter Tryd.func30, Tryd.ntmps30
 go_wp2
 go_ret
 exact ⟨rfl, Below.refl _ _⟩
theorem clsR_z (l : List PutR) (h60 : l.length ≤ 60) (hz : ∀ r ∈ l, PutZ r) : clsZ (clsR l l.length) = true := by
 rw [clsZ_iff]
 have hc : clsR l l.length = (pileR l).map (hC l) := by unfold clsR; rw [List.take_length]
 rw [hc]
 refine ⟨?_, fun x hx => ?_⟩
 ·have := pileR_len l
  rw [List.length_map]
  omega
 ·obtain ⟨e, he, rfl⟩ := List.mem_map.1 hx
  obtain ⟨r, hr, rfl⟩ := pileR_mem he
  exact (hz r hr).2.1.2.2.2
theorem rat_l (c : List Cls) (p : ByteArray) (hl : c.length ≤ 1000000) (hn : (c.map (fun x => x.f0.f0)).Nodup) (j : Nat) (hj : j < c.length) (hp : c[j].f0.f0 = p) : ∀ (d i : Nat), i + d = c.length → Ev (fun k => bindlelaw19_at.l0 k c p (if j < i then (j : Int) else 0) (i : Int)) (j : Int) := by
 intro d
 induction d with
 | zero =>
  intro i hi
  refine Ev.step (f := fun _ => some (j : Int)) (fun k => ?_) (Ev.now _)
  rw [bindlelaw19_at.l0, if_neg (by omega), if_pos (by omega)]
 | succ d ih =>
  intro i hi
  have hil : i < c.length := by omega
  have hrd := rdK_at c (i : Int) (by omega) (by omega)
  simp only [Int.toNat_natCast] at hrd
  have hw : wrap64 ((i : Int) + 1) = ((i + 1 : Nat) : Int) := by unfold wrap64; omega
  have hnx := ih (i + 1) (by omega)
  by_cases e : c[i].f0.f0 = p
  ·have hij : i = j := by
    have h1 : (c.map (fun x => x.f0.f0))[i]'(by simpa using hil) = (c.map (fun x => x.f0.f0))[j]'(by simpa using hj) := by simp only [List.getElem_map]; rw [e, hp]
    have hp2 := List.pairwise_iff_getElem.1 hn
    rcases Nat.lt_trichotomy i j with h | h | h
    ·exact absurd h1 (hp2 i j _ _ h)
    ·exact h
    ·exact absurd h1.symm (hp2 j i _ _ h)
   subst hij
   refine Ev.step (fun k => ?_) hnx
   rw [bindlelaw19_at.l0, if_pos (by omega), if_pos (by omega), hrd, if_pos (by rw [e]), hw, if_pos (by omega)]
  ·have hij : i ≠ j := fun h => e (by subst h; exact hp)
   refine Ev.step (fun k => ?_) hnx
   have e2 : ¬ c[i].f0.f0.toList = p.toList := fun h => e (ba_ext h)
   rw [bindlelaw19_at.l0, if_pos (by omega), if_pos (by omega), hrd, if_neg e2, hw]
   by_cases h1 : j < i
   ·rw [if_pos h1, if_pos (by omega)]
   ·rw [if_neg h1, if_neg (by omega)]
theorem rat_eq (c : List Cls) (p : ByteArray) (hl : c.length ≤ 1000000) (hn : (c.map (fun x => x.f0.f0)).Nodup) (j : Nat) (hj : j < c.length) (hp : c[j].f0.f0 = p) : Ev (fun k => bindlelaw19_at.f k c p) (j : Int) := by
 have := rat_l c p hl hn j hj hp c.length 0 (by omega)
 rw [if_neg (Nat.not_lt_zero _)] at this
 exact this
set_option maxRecDepth 100000 in
set_option maxHeartbeats 8000000 in
theorem Piles_calls (A0 : Option Addr) (c0 : Nat) (l : List PutR) (W : World) (hT : Tabs W) (hC : Kd.C k57 W A0 l.length l) (hc : l.length ≤ c0) (hz : ∀ r ∈ l, PutZ r) (hll : l.length ≤ 140737488351232) :
  Calls Tryd.prog 8 #[.slice A0 l.length c0] W fun e W' => e = .returned (.bool true) ∧ Below W.heap.size W W' := by
 have HT := Aside0.mk (fun (w1 : World) (hb : Below W.heap.size W w1) => (⟨Tabs.below hT hb⟩ : Aside0 (Tabs w1)))
 have HC := Aside0.mk hC
 have HV : Aside0 (Kd.V k57 57 W 0 (fun k => k < W.heap.size) (.slice A0 l.length c0) l) := ⟨Kd.V_mk hc (Kd.C_F k57_heap hC)⟩
 have HZ := Aside0.mk hz
 have HLL := Aside0.mk hll
 clear hT hC hc hz hll
 generalize hpost : (fun (e : Ending) (W' : World) => e = .returned (.bool true) ∧ Below W.heap.size W W') = Q
 have hQ := Aside0.mk hpost
 clear hpost
 go_enter Tryd.func8, Tryd.ntmps8
 go_upto_region 2 with (first
  | (go_at_call 27; refine (New_calls W.heap.size _ (Nat.le_refl _)).mono ?_; rintro e w1 ⟨g, d1, d2, rfl, hP, hB⟩; have HP := Aside0.mk hP; have HB := Aside0.mk hB; clear hP hB)
  | fail)
 have HST : Aside0 (PRel1 l W g d1 d2 0 (.slice none 0 0) w1) := ⟨⟨by omega, by omega, fun h => absurd h (by omega), HP.out, Kd.V_nil _ _ _ _ _, HB.out⟩⟩
 have HFN := Aside0.mk HP.out.fence
 clear HP HB
 go_wp2
 go_loopw [5, 4] (fun i v wr => ∃ n : Int, i = .int .i64 n ∧ Aside0 (PRel1 l W g d1 d2 n v wr)) (fun i _ _ => (l.length - (intOf i)).toNat)
 case atStart => exact ⟨0, rfl, HST⟩
 case round =>
  clear HST
  obtain ⟨n, rfl, HR⟩ := hrel
  have h0 := HR.out.1
  have h1 := HR.out.2.1
  obtain ⟨A4, c4, rfl⟩ := Kd.V_slice HR.out.2.2.2.2.1
  by_cases hlt : n < (l.length : Int)
  ·have c1b : decide (n < (l.length : Int)) = true := decide_eq_true hlt
   have hll := HLL.out
   by_cases h60 : (60 : Int) < (l.length : Int)
   ·have c2b : decide ((60 : Int) < (l.length : Int)) = true := decide_eq_true h60
    go_wp2_with (first
     | (go_at_call 22; refine (bindlelaw19_answers.calls true _ (HT.out _ HR.out.2.2.2.2.2) bindlelaw19_answers.val).mono ?_; rintro e w9 ⟨rfl, hbe⟩; have HBE := Aside0.mk (HR.out.2.2.2.2.2.trans (hbe.mono HR.out.2.2.2.2.2.size)); clear hbe)
     | fail)
    rw [← hQ.out]
    exact ⟨rfl, HBE.out⟩
   ·have c2b : decide ((60 : Int) < (l.length : Int)) = false := decide_eq_false h60
    obtain ⟨ad, Ax, cx, hA0, x0, x1, x2, x3, x4, x5, x6, x7, x8, x9, x10, hcx, hCx⟩ := at_T57 (Kd.C_below HC.out HR.out.2.2.2.2.2) n h0 hlt
    have hxe := rdP_at l n h0 hlt
    generalize hxg : rd_T57 l n = x at x0 x1 x2 x3 x4 x5 x6 x7 x8 x9 x10 hcx hCx hxe
    have HXG := Aside0.mk hxg
    have HXE := Aside0.mk hxe
    have HXZ := Aside0.mk (HZ.out x (by rw [hxe]; exact List.getElem_mem _))
    have HCX := Aside0.mk hCx
    have HLX := Aside0.mk hcx
    clear hxg hxe hCx hcx
    subst hA0
    by_cases hbd : (1000 : Int) < (x.f1.f5.length : Int)
    ·have c3b : decide ((1000 : Int) < (x.f1.f5.length : Int)) = true := decide_eq_true hbd
     clear x0 x1 x2 x3 x4 x5 x6 x7 x8 x10
     go_wp2_with (first
      | (go_at_call 22; refine (bindlelaw19_answers.calls true _ (HT.out _ HR.out.2.2.2.2.2) bindlelaw19_answers.val).mono ?_; rintro e w9 ⟨rfl, hbe⟩; have HBE := Aside0.mk (HR.out.2.2.2.2.2.trans (hbe.mono HR.out.2.2.2.2.2.size)); clear hbe x9)
      | fail)
     rw [← hQ.out]
     exact ⟨rfl, HBE.out⟩
    ·have c3b : decide ((1000 : Int) < (x.f1.f5.length : Int)) = false := decide_eq_false hbd
     go_upto_region 8 with (fail)
     go_still_tail 16, (by kernel_rfl)
     change wpList _ _ _ _ _ wr.drew
     obtain ⟨w2, e2, hb2⟩ : ∃ w2, w2 = wr.drew ∧ Below wr.heap.size wr w2 := ⟨_, rfl, below_drew (Below.refl _ _)⟩
     rw [← e2]
     have HB2 := Aside0.mk hb2
     have HP2 := Aside0.mk (HR.out.2.2.2.1.below hb2)
     have HCV2 := Aside0.mk (Kd.V_below HR.out.2.2.2.2.1 hb2)
     have HBW := Aside0.mk (HR.out.2.2.2.2.2.trans (hb2.mono HR.out.2.2.2.2.2.size))
     clear e2 hb2 x0 x1 x2 x3 x4 x5 x6 x7 x8 x9 x10 c3b
     go_upto_region 10 with (first
      | (go_at_call 28; refine (Put_frame W.heap.size g d1 d2 n.toNat (pileR (l.take n.toNat)) x.f0 x.f1 Ax cx x.f2 _ HP2.out (by omega) HXZ.out (Kd.C_below HCX.out HB2.out) HBW.out.size).mono ?_; rintro e w3 ⟨rfl, hP3, hB3, hfr⟩; have HP3 := Aside0.mk hP3; have HB3 := Aside0.mk (HBW.out.trans hB3); have HCV3 := Aside0.mk (Kd.V_step HCV2.out (fun k hk hlt => hfr k hlt hk.1 hk.2)); clear hP3 hB3 hfr)
      | fail)
     go_upto_block 2 with (fail)
     go_cut [6] (fun v6 wx => v6 = .int .i64 (firstIx l x.f0 x.f1.f2 : Int) ∧ Aside0 (Below w3.heap.size w3 wx))
     case first =>
      go_wp2
      go_loopw [7, 6] (fun i v6 w' => ∃ k : Int, i = .int .i64 k ∧ v6 = .int .i64 n ∧ Aside0 (CRel2 l x n w3 k w')) (fun i _ _ => (n - (intOf i)).toNat)
      case atStart => exact ⟨0, rfl, rfl, ⟨⟨by omega, by omega, fun q hq hqk => absurd hqk (by omega), Below.refl _ _⟩⟩⟩
      case round =>
       obtain ⟨k, rfl, rfl, HK⟩ := hrel
       have k0 := HK.out.1
       have k1 := HK.out.2.1
       by_cases hkn : k < n
       ·have c4b : decide (k < n) = true := decide_eq_true hkn
        have hBx := HB3.out.trans (HK.out.2.2.2.mono HB3.out.size)
        obtain ⟨ad', Ax', cx', hA0, x0, _, _, x3, _⟩ := at_T57 (Kd.C_below HC.out hBx) n h0 hlt
        obtain rfl := Option.some.inj hA0
        obtain ⟨ad', Ay, cy, hA0, y0, _, _, y3, _⟩ := at_T57 (Kd.C_below HC.out hBx) k k0 (by omega)
        obtain rfl := Option.some.inj hA0
        rw [HXG.out] at x0 x3
        have hye := rdP_at l k k0 (by omega)
        generalize hyg : rd_T57 l k = y at y0 y3 hye
        have HYE := Aside0.mk hye
        clear hyg hye hA0
        go_upto_region 13 with (fail)
        by_cases hs1 : y.f0 = x.f0
        ·have e1 : (y.f0 == x.f0) = true := beq_iff_eq.2 hs1
         by_cases hs2 : y.f1.f2.toList = x.f1.f2.toList
         ·have e2 : (y.f1.f2.toList == x.f1.f2.toList) = true := beq_iff_eq.2 hs2
          have hix : (firstIx l x.f0 x.f1.f2 : Int) = k := by
           have h := crel2_hit HK.out (by omega) h0 hlt HXE.out (by rw [← HYE.out]; exact ⟨hs1, hs2⟩)
           exact h
          have HIX := Aside0.mk hix
          clear hs1 hs2 hix
          go_quiet (fail)
          have HBQ := Aside0.mk (HK.out.2.2.2.trans ((pw_below_drewN (Below.refl _ _) nq).mono HK.out.2.2.2.size))
          go_wp2
          go_meet
          exact ⟨by rw [HIX.out], HBQ⟩
         ·have e2 : (y.f1.f2.toList == x.f1.f2.toList) = false := beq_eq_false_iff_ne.2 hs2
          have HNX := Aside0.mk (crel2_next HK.out (by omega) (by rw [← HYE.out]; exact fun h => hs2 h.2) hkn)
          clear hs1 hs2
          go_quiet (fail)
          have HFN := Aside0.mk (HNX.out _ (pw_below_drewN (Below.refl _ _) nq))
          go_wp2
          go_roundw
          case rel => exact ⟨k + 1, by go_num, rfl, HFN⟩
          case measure => simp [intOf]; omega
        ·have e1 : (y.f0 == x.f0) = false := beq_eq_false_iff_ne.2 hs1
         have HNX := Aside0.mk (crel2_next HK.out (by omega) (by rw [← HYE.out]; exact fun h => hs1 h.1) hkn)
         clear hs1
         go_quiet (fail)
         have HFN := Aside0.mk (HNX.out _ (pw_below_drewN (Below.refl _ _) nq))
         go_wp2
         go_roundw
         case rel => exact ⟨k + 1, by go_num, rfl, HFN⟩
         case measure => simp [intOf]; omega
       ·have c4b : decide (k < n) = false := decide_eq_false hkn
        have HIX := Aside0.mk (crel2_end HK.out (by omega) h0 hlt HXE.out)
        go_wp2
        go_meet
        exact ⟨by rw [HIX.out], ⟨HK.out.2.2.2⟩⟩
     case rest =>
      obtain ⟨rfl, HB4⟩ := hcut
      have hcl : (clsR l n.toNat).length ≤ 60 := by
       have h := pileR_len (l.take n.toNat)
       rw [List.length_take] at h
       unfold clsR
       rw [List.length_map]
       omega
      have HCL := Aside0.mk hcl
      have HP4 := Aside0.mk (HP3.out.below HB4.out)
      have HB5 := Aside0.mk (HB3.out.trans (HB4.out.mono HB3.out.size))
      have HCV4 := Aside0.mk (Kd.V_bound (Kd.V_below HCV3.out HB4.out))
      have HMP := Aside0.mk HP4.out.maps
      have HST3 : Aside0 (CRel3 (clsR l n.toNat) x wc d1 d2 0 (.slice none 0 0) wc) := ⟨⟨by omega, by omega, Kd.N_nil _ _ _ _ _, Below.refl _ _⟩⟩
      generalize hce : clsR l n.toNat = c at HST3 HCL HCV4 hcl
      have HCE := Aside0.mk hce
      clear hce HP3 HB3 HCV3 HB4 HCV2 HBW HP2 HB2 HR HCX HLX
      go_wp2
      go_loopw [9, 8] (fun i v w' => ∃ k : Int, i = .int .i64 k ∧ Aside0 (CRel3 c x wc d1 d2 k v w')) (fun i _ _ => (c.length - (intOf i)).toNat)
      case atStart => exact ⟨0, rfl, HST3⟩
      case round =>
       clear HST3
       obtain ⟨k, rfl, HK⟩ := hrel
       have k0 := HK.out.1
       have k1 := HK.out.2.1
       obtain ⟨A8v, c8v, rfl⟩ := Kd.N_slice HK.out.2.2.1
       have hcl5 := HCL.out
       by_cases hkn : k < (c.length : Int)
       ·have c4b : decide (k < (c.length : Int)) = true := decide_eq_true hkn
        obtain ⟨ac, A8, c8, hA4, q0, _⟩ := cls_at (Kd.V_below HCV4.out HK.out.2.2.2) k k0 hkn
        have hye := rdK_at c k k0 hkn
        generalize hyg : rd_T60 c k = y at q0 hye
        have HYG := Aside0.mk hyg
        have HYE := Aside0.mk hye
        clear hyg hye
        subst hA4
        obtain ⟨ad', _, _, hA0, _, _, _, _, _, _, _, _, _, _, x10, _⟩ := put_at (Kd.V_below HV.out (HB5.out.trans (HK.out.2.2.2.mono HB5.out.size))) n h0 hlt
        obtain rfl := Option.some.inj hA0
        rw [HXG.out] at x10
        clear hA0
        go_upto_region 19 with (fail)
        by_cases heq : y.f0.f0.toList = x.f2.toList
        ·have e1 : (y.f0.f0.toList == x.f2.toList) = true := beq_iff_eq.2 heq
         have e2 : (y.f0.f0.toList != x.f2.toList) = false := by rw [bne, e1]; rfl
         have hyo : otherB x y = false := by unfold otherB; rw [decide_eq_true heq]; rfl
         have HNX := Aside0.mk (fun w2 hb => crel3_skip HK.out (by omega) (by rw [← HYE.out]; exact hyo) (w2 := w2) hb)
         clear heq hyo
         go_quiet (fail)
         have HFN := Aside0.mk (HNX.out _ (pw_below_drewN (Below.refl _ _) nq))
         go_wp2
         go_roundw
         case rel => exact ⟨k + 1, by go_num, HFN⟩
         case measure => simp [intOf]; omega
        ·have e1 : (y.f0.f0.toList == x.f2.toList) = false := beq_eq_false_iff_ne.2 heq
         have e2 : (y.f0.f0.toList != x.f2.toList) = true := by rw [bne, e1]; rfl
         have HYO : Aside0 (otherB x y = true) := ⟨by unfold otherB; rw [decide_eq_false heq]; rfl⟩
         have HSTEP := Aside0.mk (fun w2 hb => crel3_keep HK.out (w2 := w2) hb)
         clear heq
         go_quiet (fail)
         have hk5 := HSTEP.out _ (pw_below_drewN (Below.refl _ _) nq)
         generalize World.drewN _ nq = w5 at hk5 ⊢
         have HB55 := Aside0.mk hk5.2.2.2
         have HN5 := Aside0.mk hk5.2.2.1
         have KK : Aside0 (0 ≤ k ∧ k < c.length) := ⟨k0, by omega⟩
         have HFL : Aside0 (((c.take k.toNat).filter (otherB x)).length ≤ 60) := ⟨by have h1 := List.length_filter_le (otherB x) (c.take k.toNat); rw [List.length_take] at h1; omega⟩
         obtain ⟨ac', A8, c8, hA4, q0, q1, q2, q3, q4, q5, q6, q7, q8, q9, hly, hfy⟩ := cls_at (Kd.V_below HCV4.out HB55.out) k k0 hkn
         rw [HYG.out] at q0 q1 q2 q3 q4 q5 q6 q7 q8 q9 hly hfy
         obtain rfl := Option.some.inj hA4
         have HLY := Aside0.mk hly
         have HFY5 := Aside0.mk hfy
         clear hA4 hly hfy hk5 HSTEP HK x10
         go_wp2_with (first
          | ((with_reducible refine gate_builtin (b := .append) (xs := #[.tmp 105, .tmp 110]) rfl ?_); at_builtin; refine Kd.N_append k60 (w0 := wc) wc.heap.size rfl (.tmp 105) (.tmp 110) 55 60 (.agg #[(.string ⟨#[]⟩), (.string ⟨#[]⟩), (.string ⟨#[]⟩), (.int .u8 0), (.int .i64 0), (.int .i64 0), (.int .i64 0), (.int .i64 0), (.slice none 0 0), (.int .i64 0)]) 120 rfl Tryd.underlying55 info60 rfl (by decide) (by omega) (.slice A8v ((c.take k.toNat).filter (otherB x)).length c8v) ((c.take k.toNat).filter (otherB x)) y [.string y.f0.f0, .string y.f0.f1, .string y.f0.f2, .int .u8 y.f0.f3, .int .i64 y.f0.f4.f0, .int .i64 y.f0.f4.f1, .int .i64 y.f0.f4.f2, .int .i64 y.f0.f4.f3, .slice A8 y.f0.f5.length c8, .int .i64 y.f1] (fun k => k ≠ d1 ∧ k ≠ d2) (fun k => (k ≠ d1 ∧ k ≠ d2) ∧ k < wc.heap.size) rfl rfl ?aP ?aK ?aF ?aO ?aB ?aS ?aL ?_; (case aP => exact k60_mkF _ _ y HLY.out HFY5.out); (case aK => exact fun q hq => ⟨hq.1, fun e => by have := Kd.N_base HN5.out q e.symm; have := hq.2; omega⟩); (case aF => exact fun q hq => ⟨by have := HMP.out.1; have := HB55.out.size; omega, by have := HMP.out.2; have := HB55.out.size; omega⟩); (case aO => exact HN5.out); (case aB => exact HB55.out); (case aS => exact HB55.out.size); (case aL => have := HCL.out; have := HFL.out; omega); intro v1 w6 ho hb hg hat; have HF6 := Aside0.mk (crel3_take KK.out.1 KK.out.2 HYE.out HYO.out ho hb); clear ho hb hg hat q0 q1 q2 q3 q4 q5 q6 q7 q8 q9)
          | fail)
         go_roundw
         case rel => exact ⟨k + 1, by go_num, HF6⟩
         case measure => simp [intOf]; omega
       ·have c4b : decide (k < (c.length : Int)) = false := decide_eq_false hkn
        have hkc : k.toNat = c.length := by omega
        have hnd := HK.out.2.2.1
        have HLF : Aside0 (((c.take k.toNat).filter (otherB x)).length = (c.filter (otherB x)).length) := ⟨by rw [hkc, List.take_length]⟩
        rw [HLF.out] at hnd ⊢
        rw [hkc, List.take_length] at hnd
        have HND := Aside0.mk hnd
        have HBD := Aside0.mk HK.out.2.2.2
        have HFL : Aside0 ((c.filter (otherB x)).length ≤ 60) := ⟨by have h1 := List.length_filter_le (otherB x) c; omega⟩
        clear hnd hkc HK
        generalize hmx : (c.filter (otherB x)).length = mx at HND
        obtain ⟨ad', A9, c9, hA0, _, x1, x2, x3, x4, x5, x6, x7, x8, x9, x10, hl9, hf9⟩ := put_at (Kd.V_below HV.out (HB5.out.trans (HBD.out.mono HB5.out.size))) n h0 hlt
        rw [HXG.out] at x1 x2 x3 x4 x5 x6 x7 x8 x9 x10 hl9 hf9
        obtain rfl := Option.some.inj hA0
        have HL9 := Aside0.mk hl9
        have HF9 := Aside0.mk hf9
        clear hA0 hl9 hf9 hmx
        go_upto_region 22 with (fail)
        have f7 : ∃ w7 b7, w7 = wr.alloc (Obj.cells #[Value.string x.f1.f0, Value.string x.f1.f1, Value.string x.f1.f2, Value.int IntKind.u8 x.f1.f3, Value.int IntKind.i64 x.f1.f4.f0, Value.int IntKind.i64 x.f1.f4.f1, Value.int IntKind.i64 x.f1.f4.f2, Value.int IntKind.i64 x.f1.f4.f3, Value.slice A9 x.f1.f5.length c9] 38) ∧ b7 = wr.heap.size ∧ w7.heap[b7]? = some (.cells #[Value.string x.f1.f0, Value.string x.f1.f1, Value.string x.f1.f2, Value.int IntKind.u8 x.f1.f3, Value.int IntKind.i64 x.f1.f4.f0, Value.int IntKind.i64 x.f1.f4.f1, Value.int IntKind.i64 x.f1.f4.f2, Value.int IntKind.i64 x.f1.f4.f3, Value.slice A9 x.f1.f5.length c9] 38 (0, 0)) ∧ Below wr.heap.size wr w7 :=
         ⟨_, _, rfl, rfl, blk_new _ _, below_alloc (Below.refl _ _) _⟩
        obtain ⟨w7, b7, e7, eb, hb7, hB7⟩ := f7
        rw [← e7, ← eb]
        have HW7 := Aside0.mk hB7
        have HX7 := Aside0.mk hb7
        have HEB := Aside0.mk eb
        obtain ⟨d0, _⟩ := node_cells9 hb7
        have s0 := nsoft hb7 0
        obtain ⟨ad', _, _, hA0, _, _, _, _, _, _, _, _, _, _, z10, _⟩ := put_at (Kd.V_below HV.out (HB5.out.trans ((HBD.out.trans (hB7.mono HBD.out.size)).mono HB5.out.size))) n h0 hlt
        rw [HXG.out] at z10
        obtain rfl := Option.some.inj hA0
        clear hA0 e7 eb hb7 hB7 x1 x2 x3 x4 x5 x6 x7 x8 x9 x10
        go_upto_region 23 with (fail)
        have f8 : ∃ w8, w8 = w7.setCell ⟨b7, 0, none⟩ (.string x.f2) ∧ w8.heap[b7]? = some (.cells #[Value.string x.f2, Value.string x.f1.f1, Value.string x.f1.f2, Value.int IntKind.u8 x.f1.f3, Value.int IntKind.i64 x.f1.f4.f0, Value.int IntKind.i64 x.f1.f4.f1, Value.int IntKind.i64 x.f1.f4.f2, Value.int IntKind.i64 x.f1.f4.f3, Value.slice A9 x.f1.f5.length c9] 38 (0, 0)) ∧ Below wr.heap.size wr w8 :=
         ⟨_, rfl, blk_put (cs' := #[Value.string x.f2, Value.string x.f1.f1, Value.string x.f1.f2, Value.int IntKind.u8 x.f1.f3, Value.int IntKind.i64 x.f1.f4.f0, Value.int IntKind.i64 x.f1.f4.f1, Value.int IntKind.i64 x.f1.f4.f2, Value.int IntKind.i64 x.f1.f4.f3, Value.slice A9 x.f1.f5.length c9]) HX7.out 0 (.string x.f2) rfl, below_put HW7.out _ _ (by rw [HEB.out]; exact Nat.le_refl _) _⟩
        obtain ⟨w8, e8, hb8, hB8⟩ := f8
        rw [← e8]
        obtain ⟨d0, d1', d2', d3, d4, d5, d6, d7, d8⟩ := node_cells9 hb8
        have HN8 := Aside0.mk (Kd.N_below HND.out hB8)
        have HB8 := Aside0.mk (HBD.out.trans (hB8.mono HBD.out.size))
        have HF8 := Aside0.mk (Kd.F_below HF9.out hB8)
        clear e8 hb8 hB8 HX7 HW7 HEB HND HBD HF9 s0 z10
        go_wp2_with (first
         | ((with_reducible refine gate_builtin (b := .append) (xs := #[.tmp 123, .tmp 127]) rfl ?_); at_builtin; refine Kd.N_append k60 (w0 := wc) wc.heap.size rfl (.tmp 123) (.tmp 127) 55 60 (.agg #[(.string ⟨#[]⟩), (.string ⟨#[]⟩), (.string ⟨#[]⟩), (.int .u8 0), (.int .i64 0), (.int .i64 0), (.int .i64 0), (.int .i64 0), (.slice none 0 0), (.int .i64 0)]) 120 rfl Tryd.underlying55 info60 rfl (by decide) (by omega) (.slice A8v mx c8v) (c.filter (otherB x)) (hC l (entR x)) [.string x.f2, .string x.f1.f1, .string x.f1.f2, .int .u8 x.f1.f3, .int .i64 x.f1.f4.f0, .int .i64 x.f1.f4.f1, .int .i64 x.f1.f4.f2, .int .i64 x.f1.f4.f3, .slice A9 x.f1.f5.length c9, .int .i64 (firstIx l x.f0 x.f1.f2 : Int)] (fun k => k ≠ d1 ∧ k ≠ d2) (fun k => k < W.heap.size) rfl rfl ?aP ?aK ?aF ?aO ?aB ?aS ?aL ?_; (case aP => exact k60_mkF _ _ (hC l (entR x)) HL9.out HF8.out); (case aK => exact fun q hq => ⟨⟨by have := HFN.out.2.1; omega, by have := HFN.out.2.2.1; omega⟩, fun e => by have := Kd.N_base HN8.out q e.symm; have := HB5.out.size; omega⟩); (case aF => exact fun q hq => ⟨by have := HMP.out.1; have := HB8.out.size; omega, by have := HMP.out.2; have := HB8.out.size; omega⟩); (case aO => exact HN8.out); (case aB => exact HB8.out); (case aS => exact HB8.out.size); (case aL => have := HFL.out; omega); intro v1 w9 ho hb hg hat; have HO9 := Aside0.mk ho; have HB9 := Aside0.mk hb; clear ho hb hg hat d0 d1' d2' d3 d4 d5 d6 d7 d8)
         | fail)
        have hfin : PRel1 l W g d1 d2 (n + 1) v1 w9 := by
         have e1 : (n + 1).toNat = n.toNat + 1 := by omega
         have hnl : n.toNat < l.length := by omega
         have hx := HXE.out
         refine ⟨by omega, by omega, fun _ => by omega, ?_, ?_, HB5.out.trans (HB9.out.mono HB5.out.size)⟩
         ·rw [e1, pileR_succ hnl, ← hx]
          exact HP4.out.below HB9.out
         ·rw [e1, clsR_succ hnl, ← hx, HCE.out]
          exact Kd.N_V HO9.out
        have HFIN := Aside0.mk hfin
        clear hfin
        go_roundw
        case rel => exact ⟨n + 1, by go_num, HFIN⟩
        case measure => simp [intOf]; omega
  ·have c1b : decide (n < (l.length : Int)) = false := decide_eq_false hlt
   have hne : n.toNat = l.length := by omega
   have hl60 : l.length ≤ 60 := by
    rcases Nat.eq_zero_or_pos l.length with h | h
    ·omega
    ·exact HR.out.2.2.1 (by omega)
   have hP9 := HR.out.2.2.2.1
   have hV9 := HR.out.2.2.2.2.1
   have hB9 := HR.out.2.2.2.2.2
   rw [hne, List.take_length] at hP9
   rw [hne] at hV9 ⊢
   have hok := piles_ok l hl60
   have hcz := clsR_z l hl60 HZ.out
   have hsf : bindleref08_Sorted.f (clsR l l.length) = some (sortedF (clsR l l.length)) := by unfold bindleref08_Sorted.f; rw [if_pos hcz]
   have htl : (treeE (pileR l)).length = (pileR l).length := treeE_len _
   have htn : ∀ (w1 : World) (h : PileAt w1 W.heap.size g d1 d2 l.length (pileR l)), Calls Tryd.prog 30 #[.pointer (some ⟨g, 0, none⟩)] w1 fun e W' => ∃ v, e = .returned v ∧ NN W' w1.heap.size (fun k => w1.heap.size + 1 ≤ k) v (treeE (pileR l)) ∧ Below w1.heap.size w1 W' := fun w1 h => Tree_calls W.heap.size g d1 d2 l.length (pileR l) w1 h (by have := pileR_len l; omega)
   have hlen : ∀ (w1 : World) (h : PileAt w1 W.heap.size g d1 d2 l.length (pileR l)), Calls Tryd.prog 31 #[.pointer (some ⟨g, 0, none⟩)] w1 fun e W' => e = .returned (.int .i64 (treeE (pileR l)).length) ∧ Below w1.heap.size w1 W' := fun w1 h => by rw [htl]; exact Len_calls W.heap.size g d1 d2 l.length (pileR l) w1 h
   have HP9 := Aside0.mk hP9
   have HB9 := Aside0.mk hB9
   have HTN := Aside0.mk htn
   have HLN := Aside0.mk hlen
   clear htl hP9 hB9 hcz htn hlen
   generalize treeE (pileR l) = T at hok HTN HLN
   generalize clsR l l.length = c at hV9 hok hsf ⊢
   generalize sortedF c = S at hok hsf
   have HOK := Aside0.mk hok
   have HV9 := Aside0.mk hV9
   have HSF := Aside0.mk hsf
   have hTS := hok.len
   have hS60 : (S.length : Int) ≤ 60 := by have := hok.small.2; omega
   clear hok hV9 hsf hne hl60 HR
   go_upto_region 26 with (first
    | (go_at_call 29; refine (bindleref08_Sorted.calls A4 c4 c S _ (Kd.V_reads' HV9.out).2.2 (Kd.V_reads' HV9.out).2.1 HSF.out).mono ?_; rintro e w2 ⟨vs, rfl, hV2, hB2⟩; have HV2 := Aside0.mk hV2; have HP2 := Aside0.mk (HP9.out.below hB2); have HW2 := Aside0.mk (HB9.out.trans (hB2.mono HB9.out.size)); have HC2 := Aside0.mk (Kd.V_below HV9.out hB2); clear hV2 hB2)
    | (go_at_call 30; refine (HTN.out _ HP2.out).mono ?_; rintro e w3 ⟨vg, rfl, hN3, hB3⟩; have HN3 := Aside0.mk hN3; have HP3 := Aside0.mk (HP2.out.below hB3); have HW3 := Aside0.mk (HW2.out.trans (hB3.mono HW2.out.size)); have HV3 := Aside0.mk (Kd.V_below HV2.out hB3); have HC3 := Aside0.mk (Kd.V_below HC2.out hB3); clear hN3 hB3)
    | fail)
   obtain ⟨As, cs, rfl⟩ := Kd.V_slice HV3.out
   obtain ⟨Ag, cg, rfl⟩ := Kd.N_slice HN3.out
   have HG3 := Aside0.mk (Kd.N_V (base' := 0) HN3.out)
   clear HV2 HN3 HTN
   rw [hTS]
   have HTS := Aside0.mk hTS
   clear hTS
   go_upto_region 29 with (first
    | ((with_reducible refine gate_dst (N := 140) rfl ?_); refine enter_step Tryd.func31 (by kernel_rfl) rfl #[.pointer (some ⟨g, 0, none⟩)] rfl ?ha ?hw ?_; (case hw => go_simp); (case ha => (try simp only [List.map_toArray, List.map_cons, List.map_nil]); first | done | rfl); refine (HLN.out _ HP3.out).mono ?_; rintro e w4 ⟨rfl, hb4⟩; rw [HTS.out]; refine ⟨_, rfl, ?_⟩; have HB4 := Aside0.mk hb4; clear hb4)
    | fail)
   have HWF := Aside0.mk (HW3.out.trans (HB4.out.mono HW3.out.size))
   have HV4 := Aside0.mk (Kd.V_below HV3.out HB4.out)
   have HG4 := Aside0.mk (Kd.V_below HG3.out HB4.out)
   have HC4 := Aside0.mk (Kd.V_below HC3.out HB4.out)
   have HST4 : Aside0 (0 ≤ (0 : Int) ∧ (0 : Int) ≤ S.length ∧ Below w4.heap.size w4 w4) := ⟨by omega, by omega, Below.refl _ _⟩
   clear HW3 HV3 HG3 HC3 HB4 HP3 HLN HP2 HW2 HC2 HP9 HV9 HB9
   go_loopw [13] (fun i wr => ∃ k : Int, i = .int .i64 k ∧ Aside0 (0 ≤ k ∧ k ≤ S.length ∧ Below w4.heap.size w4 wr)) (fun i _ => (S.length - (intOf i)).toNat)
   case atStart => exact ⟨0, rfl, HST4⟩
   case round =>
    clear HST4
    obtain ⟨k, rfl, HK⟩ := hrel
    have k0 := HK.out.1
    have k1 := HK.out.2.1
    by_cases hkn : k < (S.length : Int)
    ·have c4b : decide (k < (S.length : Int)) = true := decide_eq_true hkn
     have hks : k.toNat < S.length := by omega
     have hkt : k.toNat < T.length := by have := HTS.out; omega
     have hVk := Kd.V_below HV4.out HK.out.2.2
     have hGk := Kd.V_below HG4.out HK.out.2.2
     have hGk2 := (Kd.V_reads' hGk).2.2
     obtain ⟨ax, Ax, cx, rfl, x0, x1, x2, x3, x4, x5, x6, x7, x8, hlx, hCx⟩ := at_T38 (Kd.V_reads' hVk).2.2 k k0 hkn
     obtain ⟨ag, Ay, cy, hAg, y0, y1, y2, y3, y4, y5, y6, y7, y8, hly, hCy⟩ := at_T38 hGk2 k k0 (by omega)
     have hxe := rdN_at S k k0 hkn
     have hye := rdN_at T k k0 (by omega)
     have hsame := HOK.out.same k.toNat hkt hks
     have hfile := HOK.out.file k.toNat hkt hks
     have hother := HOK.out.other k.toNat hkt hks
     rw [← hxe, ← hye] at hsame
     rw [← hxe, ← hye] at hfile hother
     generalize rd_T38 S k = x at x0 x1 x2 x3 x4 x5 x6 x7 x8 hlx hCx hsame hfile hother
     generalize rd_T38 T k = y at y0 y1 y2 y3 y4 y5 y6 y7 y8 hly hCy hsame hfile hother
     have HLX := Aside0.mk hlx
     have HLY := Aside0.mk hly
     have HCX := Aside0.mk hCx
     have HCY := Aside0.mk hCy
     have HSA := Aside0.mk hsame
     rw [hAg]
     clear hlx hly hCx hCy hsame hxe hye hVk hGk hGk2 hAg
     by_cases h48 : x.f3 = 48
     ·have e48 : (x.f3 != 48) = false := bne_eq_false_iff_eq.2 h48
      have hld := hfile h48
      have HLD := Aside0.mk hld
      clear hfile hother h48 hld
      go_upto_region 34 with (fail)
      rw [← HLD.out]
      refine start_ (n := 19) (S := fun w' => w'.cell? (ag.add (k.toNat * 9)) = some (.string y.f0) ∧ w'.cell? ⟨(ag.add (k.toNat * 9)).block, (ag.add (k.toNat * 9)).off + 1, none⟩ = some (.string y.f1) ∧ w'.cell? ⟨(ag.add (k.toNat * 9)).block, (ag.add (k.toNat * 9)).off + 2, none⟩ = some (.string y.f2) ∧ w'.cell? ⟨(ag.add (k.toNat * 9)).block, (ag.add (k.toNat * 9)).off + 3, none⟩ = some (.int .u8 y.f3) ∧ w'.cell? ⟨(ag.add (k.toNat * 9)).block, (ag.add (k.toNat * 9)).off + 4, none⟩ = some (.int .i64 y.f4.f0) ∧ w'.cell? ⟨(ag.add (k.toNat * 9)).block, (ag.add (k.toNat * 9)).off + 5, none⟩ = some (.int .i64 y.f4.f1) ∧ w'.cell? ⟨(ag.add (k.toNat * 9)).block, (ag.add (k.toNat * 9)).off + 6, none⟩ = some (.int .i64 y.f4.f2) ∧ w'.cell? ⟨(ag.add (k.toNat * 9)).block, (ag.add (k.toNat * 9)).off + 7, none⟩ = some (.int .i64 y.f4.f3) ∧ w'.cell? ⟨(ag.add (k.toNat * 9)).block, (ag.add (k.toNat * 9)).off + 8, none⟩ = some (.slice Ay y.f5.length cy) ∧ w'.cell? (ax.add (k.toNat * 9)) = some (.string x.f0) ∧ w'.cell? ⟨(ax.add (k.toNat * 9)).block, (ax.add (k.toNat * 9)).off + 1, none⟩ = some (.string x.f1) ∧ w'.cell? ⟨(ax.add (k.toNat * 9)).block, (ax.add (k.toNat * 9)).off + 2, none⟩ = some (.string x.f2) ∧ w'.cell? ⟨(ax.add (k.toNat * 9)).block, (ax.add (k.toNat * 9)).off + 3, none⟩ = some (.int .u8 x.f3) ∧ w'.cell? ⟨(ax.add (k.toNat * 9)).block, (ax.add (k.toNat * 9)).off + 4, none⟩ = some (.int .i64 x.f4.f0) ∧ w'.cell? ⟨(ax.add (k.toNat * 9)).block, (ax.add (k.toNat * 9)).off + 5, none⟩ = some (.int .i64 x.f4.f1) ∧ w'.cell? ⟨(ax.add (k.toNat * 9)).block, (ax.add (k.toNat * 9)).off + 6, none⟩ = some (.int .i64 x.f4.f2) ∧ w'.cell? ⟨(ax.add (k.toNat * 9)).block, (ax.add (k.toNat * 9)).off + 7, none⟩ = some (.int .i64 x.f4.f3) ∧ w'.cell? ⟨(ax.add (k.toNat * 9)).block, (ax.add (k.toNat * 9)).off + 8, none⟩ = some (.slice Ax x.f5.length cx)) (ds := []) #[false, false, false, false, false, false, false, false, false, false, false, false, false, false, false, false, false, false, false] (by kernel_rfl) rfl rfl ⟨y0, y1, y2, y3, y4, y5, y6, y7, y8, x0, x1, x2, x3, x4, x5, x6, x7, x8⟩ (fun hHeld => ?_)
      refine pure_ (i := 0) (N := some 174) (v := ?_) (a' := ?_) #[true, false, false, false, false, false, false, false, false, false, false, false, false, false, false, false, false, false, false] rfl rfl (by kernel_rfl) (fun _ _ _ h => h) (Or.inl ⟨by rfl, ?_⟩) ?_ ?_
      rotate_left
      ·intro w'
       go_simp
       with_reducible rfl
      rotate_left
      ·simp only [Act.put, List.setIfInBounds_toArray, List.set_cons_zero, List.set_cons_succ, i64_w, i32_w]
       rfl
      refine pure_ (i := 1) (N := some 175) (v := ?_) (a' := ?_) #[true, true, false, false, false, false, false, false, false, false, false, false, false, false, false, false, false, false, false] rfl rfl (by kernel_rfl) (fun _ _ _ h => h) (Or.inl ⟨by rfl, ?_⟩) ?_ ?_
      rotate_left
      ·intro w'
       go_simp
       with_reducible rfl
      rotate_left
      ·simp only [Act.put, List.setIfInBounds_toArray, List.set_cons_zero, List.set_cons_succ, i64_w, i32_w]
       rfl
      refine pure_ (i := 2) (N := some 176) (v := ?_) (a' := ?_) #[true, true, true, false, false, false, false, false, false, false, false, false, false, false, false, false, false, false, false] rfl rfl (by kernel_rfl) (fun _ _ _ h => h) (Or.inl ⟨by rfl, ?_⟩) ?_ ?_
      rotate_left
      ·intro w'
       go_simp
       with_reducible rfl
      rotate_left
      ·simp only [Act.put, List.setIfInBounds_toArray, List.set_cons_zero, List.set_cons_succ, i64_w, i32_w]
       rfl
      refine take_ (i := 3) (N := some 177) (v := ?_) (a' := ?_) #[true, true, true, true, false, false, false, false, false, false, false, false, false, false, false, false, false, false, false] rfl rfl (by kernel_rfl) (fun _ _ _ h => h) (Or.inl ⟨by rfl, ?_⟩) hHeld ?_ ?_
      rotate_left
      ·rintro w' ⟨s0, s1, s2, s3, s4, s5, s6, s7, s8, s9, s10, s11, s12, s13, s14, s15, s16, s17⟩
       go_simp
       with_reducible rfl
      rotate_left
      ·simp only [Act.put, List.setIfInBounds_toArray, List.set_cons_zero, List.set_cons_succ, i64_w, i32_w]
       rfl
      refine pure_ (i := 4) (N := some 178) (v := ?_) (a' := ?_) #[true, true, true, true, true, false, false, false, false, false, false, false, false, false, false, false, false, false, false] rfl rfl (by kernel_rfl) (fun _ _ _ h => h) (Or.inl ⟨by rfl, ?_⟩) ?_ ?_
      rotate_left
      ·intro w'
       go_simp
       with_reducible rfl
      rotate_left
      ·simp only [Act.put, List.setIfInBounds_toArray, List.set_cons_zero, List.set_cons_succ, i64_w, i32_w]
       rfl
      refine pure_ (i := 5) (N := some 179) (v := ?_) (a' := ?_) #[true, true, true, true, true, true, false, false, false, false, false, false, false, false, false, false, false, false, false] rfl rfl (by kernel_rfl) (fun _ _ _ h => h) (Or.inl ⟨by rfl, ?_⟩) ?_ ?_
      rotate_left
      ·intro w'
       go_simp
       with_reducible rfl
      rotate_left
      ·simp only [Act.put, List.setIfInBounds_toArray, List.set_cons_zero, List.set_cons_succ, i64_w, i32_w]
       rfl
      refine pure_ (i := 6) (N := some 180) (v := ?_) (a' := ?_) #[true, true, true, true, true, true, true, false, false, false, false, false, false, false, false, false, false, false, false] rfl rfl (by kernel_rfl) (fun _ _ _ h => h) (Or.inl ⟨by rfl, ?_⟩) ?_ ?_
      rotate_left
      ·intro w'
       go_simp
       with_reducible rfl
      rotate_left
      ·simp only [Act.put, List.setIfInBounds_toArray, List.set_cons_zero, List.set_cons_succ, i64_w, i32_w]
       rfl
      refine take_ (i := 7) (N := some 181) (v := ?_) (a' := ?_) #[true, true, true, true, true, true, true, true, false, false, false, false, false, false, false, false, false, false, false] rfl rfl (by kernel_rfl) (fun _ _ _ h => h) (Or.inl ⟨by rfl, ?_⟩) hHeld ?_ ?_
      rotate_left
      ·rintro w' ⟨s0, s1, s2, s3, s4, s5, s6, s7, s8, s9, s10, s11, s12, s13, s14, s15, s16, s17⟩
       go_simp
       with_reducible rfl
      rotate_left
      ·simp only [Act.put, List.setIfInBounds_toArray, List.set_cons_zero, List.set_cons_succ, i64_w, i32_w]
       rfl
      refine one_ (i := 8) (N := some 182) #[true, true, true, true, true, true, true, true, true, false, false, false, false, false, false, false, false, false, false] rfl rfl (by kernel_rfl) (by decide) (fun K hK => ?_)
      refine goes_ Tryd.func20 (by kernel_rfl) rfl #[.agg #[.string y.f0, .string y.f1, .string y.f2, .int .u8 y.f3, .int .i64 y.f4.f0, .int .i64 y.f4.f1, .int .i64 y.f4.f2, .int .i64 y.f4.f3, .slice Ay y.f5.length cy], .agg #[.string x.f0, .string x.f1, .string x.f2, .int .u8 x.f3, .int .i64 x.f4.f0, .int .i64 x.f4.f1, .int .i64 x.f4.f2, .int .i64 x.f4.f3, .slice Ax x.f5.length cx]] (by rfl) rfl rfl (by first | rfl | (simp [Act.eval]; done)) ?_
      refine (bindleref08_Equal.calls y.f0 y.f1 y.f2 y.f3 y.f4.f0 y.f4.f1 y.f4.f2 y.f4.f3 Ay cy y.f5 x.f0 x.f1 x.f2 x.f3 x.f4.f0 x.f4.f1 x.f4.f2 x.f4.f3 Ax cx x.f5 true _ (Kd.C_drew HCY.out) HLY.out (Kd.C_drew HCX.out) HLX.out (by rw [requal_f, HSA.out])).mono ?_
      rintro e w5 ⟨rfl, hb5⟩
      refine ⟨_, rfl, ?_⟩
      refine hK.out _ _ ⟨fkeep hb5 hHeld.1, fkeep hb5 hHeld.2.1, fkeep hb5 hHeld.2.2.1, fkeep hb5 hHeld.2.2.2.1, fkeep hb5 hHeld.2.2.2.2.1, fkeep hb5 hHeld.2.2.2.2.2.1, fkeep hb5 hHeld.2.2.2.2.2.2.1, fkeep hb5 hHeld.2.2.2.2.2.2.2.1, fkeep hb5 hHeld.2.2.2.2.2.2.2.2.1, fkeep hb5 hHeld.2.2.2.2.2.2.2.2.2.1, fkeep hb5 hHeld.2.2.2.2.2.2.2.2.2.2.1, fkeep hb5 hHeld.2.2.2.2.2.2.2.2.2.2.2.1, fkeep hb5 hHeld.2.2.2.2.2.2.2.2.2.2.2.2.1, fkeep hb5 hHeld.2.2.2.2.2.2.2.2.2.2.2.2.2.1, fkeep hb5 hHeld.2.2.2.2.2.2.2.2.2.2.2.2.2.2.1, fkeep hb5 hHeld.2.2.2.2.2.2.2.2.2.2.2.2.2.2.2.1, fkeep hb5 hHeld.2.2.2.2.2.2.2.2.2.2.2.2.2.2.2.2.1, fkeep hb5 hHeld.2.2.2.2.2.2.2.2.2.2.2.2.2.2.2.2.2⟩ (fun hHeld => ?_)
      clear hK K
      have HB5 := Aside0.mk hb5
      clear hb5
      refine norm_ (a' := ?_) ?_ ?_
      rotate_left
      ·show Act.put _ (some 182) _ = _
       simp only [Act.put, List.setIfInBounds_toArray, List.set_cons_zero, List.set_cons_succ, i64_w, i32_w]
       rfl
      refine pure_ (i := 9) (N := some 183) (v := ?_) (a' := ?_) #[true, true, true, true, true, true, true, true, true, true, false, false, false, false, false, false, false, false, false] rfl rfl (by kernel_rfl) (fun _ _ _ h => h) (Or.inl ⟨by rfl, ?_⟩) ?_ ?_
      rotate_left
      ·intro w'
       go_simp
       with_reducible rfl
      rotate_left
      ·simp only [Act.put, List.setIfInBounds_toArray, List.set_cons_zero, List.set_cons_succ, i64_w, i32_w]
       rfl
      refine pure_ (i := 10) (N := some 184) (v := ?_) (a' := ?_) #[true, true, true, true, true, true, true, true, true, true, true, false, false, false, false, false, false, false, false] rfl rfl (by kernel_rfl) (fun _ _ _ h => h) (Or.inl ⟨by rfl, ?_⟩) ?_ ?_
      rotate_left
      ·intro w'
       go_simp
       with_reducible rfl
      rotate_left
      ·simp only [Act.put, List.setIfInBounds_toArray, List.set_cons_zero, List.set_cons_succ, i64_w, i32_w]
       rfl
      refine pure_ (i := 11) (N := some 185) (v := ?_) (a' := ?_) #[true, true, true, true, true, true, true, true, true, true, true, true, false, false, false, false, false, false, false] rfl rfl (by kernel_rfl) (fun _ _ _ h => h) (Or.inl ⟨by rfl, ?_⟩) ?_ ?_
      rotate_left
      ·intro w'
       go_simp
       with_reducible rfl
      rotate_left
      ·simp only [Act.put, List.setIfInBounds_toArray, List.set_cons_zero, List.set_cons_succ, i64_w, i32_w]
       rfl
      refine pure_ (i := 12) (N := some 186) (v := ?_) (a' := ?_) #[true, true, true, true, true, true, true, true, true, true, true, true, true, false, false, false, false, false, false] rfl rfl (by kernel_rfl) (fun _ _ _ h => h) (Or.inl ⟨by rfl, ?_⟩) ?_ ?_
      rotate_left
      ·intro w'
       go_simp
       with_reducible rfl
      rotate_left
      ·simp only [Act.put, List.setIfInBounds_toArray, List.set_cons_zero, List.set_cons_succ, i64_w, i32_w]
       rfl
      refine pure_ (i := 13) (N := some 187) (v := ?_) (a' := ?_) #[true, true, true, true, true, true, true, true, true, true, true, true, true, true, false, false, false, false, false] rfl rfl (by kernel_rfl) (fun _ _ _ h => h) (Or.inl ⟨by rfl, ?_⟩) ?_ ?_
      rotate_left
      ·intro w'
       go_simp
       with_reducible rfl
      rotate_left
      ·simp only [Act.put, List.setIfInBounds_toArray, List.set_cons_zero, List.set_cons_succ, i64_w, i32_w]
       rfl
      refine pure_ (i := 14) (N := some 188) (v := ?_) (a' := ?_) #[true, true, true, true, true, true, true, true, true, true, true, true, true, true, true, false, false, false, false] rfl rfl (by kernel_rfl) (fun _ _ _ h => h) (Or.inl ⟨by rfl, ?_⟩) ?_ ?_
      rotate_left
      ·intro w'
       go_simp
       with_reducible rfl
      rotate_left
      ·simp only [Act.put, List.setIfInBounds_toArray, List.set_cons_zero, List.set_cons_succ, i64_w, i32_w]
       rfl
      refine take_ (i := 15) (N := some 189) (v := ?_) (a' := ?_) #[true, true, true, true, true, true, true, true, true, true, true, true, true, true, true, true, false, false, false] rfl rfl (by kernel_rfl) (fun _ _ _ h => h) (Or.inl ⟨by rfl, ?_⟩) hHeld ?_ ?_
      rotate_left
      ·rintro w' ⟨s0, s1, s2, s3, s4, s5, s6, s7, s8, s9, s10, s11, s12, s13, s14, s15, s16, s17⟩
       go_simp
       with_reducible rfl
      rotate_left
      ·simp only [Act.put, List.setIfInBounds_toArray, List.set_cons_zero, List.set_cons_succ, i64_w, i32_w]
       rfl
      refine pure_ (i := 16) (N := some 190) (v := ?_) (a' := ?_) #[true, true, true, true, true, true, true, true, true, true, true, true, true, true, true, true, true, false, false] rfl rfl (by kernel_rfl) (fun _ _ _ h => h) (Or.inl ⟨by rfl, ?_⟩) ?_ ?_
      rotate_left
      ·intro w'
       go_simp
       with_reducible rfl
      rotate_left
      ·simp only [Act.put, List.setIfInBounds_toArray, List.set_cons_zero, List.set_cons_succ, i64_w, i32_w]
       rfl
      refine pure_ (i := 17) (N := some 191) (v := ?_) (a' := ?_) #[true, true, true, true, true, true, true, true, true, true, true, true, true, true, true, true, true, true, false] rfl rfl (by kernel_rfl) (fun _ _ _ h => h) (Or.inl ⟨by rfl, ?_⟩) ?_ ?_
      rotate_left
      ·intro w'
       go_simp
       with_reducible rfl
      rotate_left
      ·simp only [Act.put, List.setIfInBounds_toArray, List.set_cons_zero, List.set_cons_succ, i64_w, i32_w]
       rfl
      refine pure_ (i := 18) (N := some 192) (v := ?_) (a' := ?_) #[true, true, true, true, true, true, true, true, true, true, true, true, true, true, true, true, true, true, true] rfl rfl (by kernel_rfl) (fun _ _ _ h => h) (Or.inl ⟨by rfl, ?_⟩) ?_ ?_
      rotate_left
      ·intro w'
       go_simp
       with_reducible rfl
      rotate_left
      ·simp only [Act.put, List.setIfInBounds_toArray, List.set_cons_zero, List.set_cons_succ, i64_w, i32_w]
       rfl
      refine done_ (by kernel_rfl) ?_
      go_wp2
      have HFIN : Aside0 (0 ≤ k + 1 ∧ k + 1 ≤ S.length ∧ Below w4.heap.size w4 w5) := ⟨⟨by omega, by omega, HK.out.2.2.trans (((below_drew (Below.refl _ _) : Below wr.heap.size wr wr.drew).trans HB5.out).mono HK.out.2.2.size)⟩⟩
      go_roundw
      case rel => exact ⟨k + 1, by go_num, HFIN⟩
      case measure => simp [intOf]; omega
     ·have e48 : (x.f3 != 48) = true := bne_iff_ne.2 h48
      obtain ⟨j, hj, hj1, hj2⟩ := hother h48
      obtain ⟨K, hK⟩ := rat_eq c x.f0 (by have := HOK.out.small.1; omega) HOK.out.nodup j hj hj1
      dsimp only at *
      have HKK := Aside0.mk hK
      have hVc := Kd.V_below HC4.out HK.out.2.2
      have HVC := Aside0.mk hVc
      obtain ⟨ac, A9, c9, hA4, z0, z1, z2, _⟩ := cls_at hVc (j : Int) (by omega) (by omega)
      rw [rdK_at c (j : Int) (by omega) (by omega)] at z2
      simp only [Int.toNat_natCast] at z2
      rw [hj2] at z2
      have hjc : (j : Int) < (c.length : Int) := by omega
      have HA4 := Aside0.mk hA4
      clear hfile hother h48 hK hVc z0 z1 hj1 hj2 hj
      subst hA4
      have hat := bindlelaw19_at.calls K _ c4 c x.f0 (j : Int) wr (Kd.V_reads' HVC.out).2.2 (Kd.V_reads' HVC.out).2.1 (HKK.out K (Nat.le_refl _))
      have HAT := Aside0.mk hat
      clear hat
      go_upto_region 34 with (first
       | (go_at_call 32; refine HAT.out.mono ?_; rintro e w5 ⟨rfl, hd⟩; obtain ⟨nd, rfl⟩ := hd.out)
       | fail)
      have HCX := Aside0.mk (Kd.C_drewN HCX.out nd)
      have HCY := Aside0.mk (Kd.C_drewN HCY.out nd)
      have hB7 : Below wr.heap.size wr (wr.drewN nd).drew := below_drew (pw_below_drewN (Below.refl _ _) nd)
      clear z2
      refine start_ (n := 19) (S := fun w' => w'.cell? (ag.add (k.toNat * 9)) = some (.string y.f0) ∧ w'.cell? ⟨(ag.add (k.toNat * 9)).block, (ag.add (k.toNat * 9)).off + 1, none⟩ = some (.string y.f1) ∧ w'.cell? ⟨(ag.add (k.toNat * 9)).block, (ag.add (k.toNat * 9)).off + 2, none⟩ = some (.string y.f2) ∧ w'.cell? ⟨(ag.add (k.toNat * 9)).block, (ag.add (k.toNat * 9)).off + 3, none⟩ = some (.int .u8 y.f3) ∧ w'.cell? ⟨(ag.add (k.toNat * 9)).block, (ag.add (k.toNat * 9)).off + 4, none⟩ = some (.int .i64 y.f4.f0) ∧ w'.cell? ⟨(ag.add (k.toNat * 9)).block, (ag.add (k.toNat * 9)).off + 5, none⟩ = some (.int .i64 y.f4.f1) ∧ w'.cell? ⟨(ag.add (k.toNat * 9)).block, (ag.add (k.toNat * 9)).off + 6, none⟩ = some (.int .i64 y.f4.f2) ∧ w'.cell? ⟨(ag.add (k.toNat * 9)).block, (ag.add (k.toNat * 9)).off + 7, none⟩ = some (.int .i64 y.f4.f3) ∧ w'.cell? ⟨(ag.add (k.toNat * 9)).block, (ag.add (k.toNat * 9)).off + 8, none⟩ = some (.slice Ay y.f5.length cy) ∧ w'.cell? (ax.add (k.toNat * 9)) = some (.string x.f0) ∧ w'.cell? ⟨(ax.add (k.toNat * 9)).block, (ax.add (k.toNat * 9)).off + 1, none⟩ = some (.string x.f1) ∧ w'.cell? ⟨(ax.add (k.toNat * 9)).block, (ax.add (k.toNat * 9)).off + 2, none⟩ = some (.string x.f2) ∧ w'.cell? ⟨(ax.add (k.toNat * 9)).block, (ax.add (k.toNat * 9)).off + 3, none⟩ = some (.int .u8 x.f3) ∧ w'.cell? ⟨(ax.add (k.toNat * 9)).block, (ax.add (k.toNat * 9)).off + 4, none⟩ = some (.int .i64 x.f4.f0) ∧ w'.cell? ⟨(ax.add (k.toNat * 9)).block, (ax.add (k.toNat * 9)).off + 5, none⟩ = some (.int .i64 x.f4.f1) ∧ w'.cell? ⟨(ax.add (k.toNat * 9)).block, (ax.add (k.toNat * 9)).off + 6, none⟩ = some (.int .i64 x.f4.f2) ∧ w'.cell? ⟨(ax.add (k.toNat * 9)).block, (ax.add (k.toNat * 9)).off + 7, none⟩ = some (.int .i64 x.f4.f3) ∧ w'.cell? ⟨(ax.add (k.toNat * 9)).block, (ax.add (k.toNat * 9)).off + 8, none⟩ = some (.slice Ax x.f5.length cx)) (ds := []) #[false, false, false, false, false, false, false, false, false, false, false, false, false, false, false, false, false, false, false] (by kernel_rfl) rfl rfl ⟨y0, y1, y2, y3, y4, y5, y6, y7, y8, x0, x1, x2, x3, x4, x5, x6, x7, x8⟩ (fun hHeld => ?_)
      refine pure_ (i := 0) (N := some 174) (v := ?_) (a' := ?_) #[true, false, false, false, false, false, false, false, false, false, false, false, false, false, false, false, false, false, false] rfl rfl (by kernel_rfl) (fun _ _ _ h => h) (Or.inl ⟨by rfl, ?_⟩) ?_ ?_
      rotate_left
      ·intro w'
       go_simp
       with_reducible rfl
      rotate_left
      ·simp only [Act.put, List.setIfInBounds_toArray, List.set_cons_zero, List.set_cons_succ, i64_w, i32_w]
       rfl
      refine pure_ (i := 1) (N := some 175) (v := ?_) (a' := ?_) #[true, true, false, false, false, false, false, false, false, false, false, false, false, false, false, false, false, false, false] rfl rfl (by kernel_rfl) (fun _ _ _ h => h) (Or.inl ⟨by rfl, ?_⟩) ?_ ?_
      rotate_left
      ·intro w'
       go_simp
       with_reducible rfl
      rotate_left
      ·simp only [Act.put, List.setIfInBounds_toArray, List.set_cons_zero, List.set_cons_succ, i64_w, i32_w]
       rfl
      refine pure_ (i := 2) (N := some 176) (v := ?_) (a' := ?_) #[true, true, true, false, false, false, false, false, false, false, false, false, false, false, false, false, false, false, false] rfl rfl (by kernel_rfl) (fun _ _ _ h => h) (Or.inl ⟨by rfl, ?_⟩) ?_ ?_
      rotate_left
      ·intro w'
       go_simp
       with_reducible rfl
      rotate_left
      ·simp only [Act.put, List.setIfInBounds_toArray, List.set_cons_zero, List.set_cons_succ, i64_w, i32_w]
       rfl
      refine take_ (i := 3) (N := some 177) (v := ?_) (a' := ?_) #[true, true, true, true, false, false, false, false, false, false, false, false, false, false, false, false, false, false, false] rfl rfl (by kernel_rfl) (fun _ _ _ h => h) (Or.inl ⟨by rfl, ?_⟩) hHeld ?_ ?_
      rotate_left
      ·rintro w' ⟨s0, s1, s2, s3, s4, s5, s6, s7, s8, s9, s10, s11, s12, s13, s14, s15, s16, s17⟩
       go_simp
       with_reducible rfl
      rotate_left
      ·simp only [Act.put, List.setIfInBounds_toArray, List.set_cons_zero, List.set_cons_succ, i64_w, i32_w]
       rfl
      refine pure_ (i := 4) (N := some 178) (v := ?_) (a' := ?_) #[true, true, true, true, true, false, false, false, false, false, false, false, false, false, false, false, false, false, false] rfl rfl (by kernel_rfl) (fun _ _ _ h => h) (Or.inl ⟨by rfl, ?_⟩) ?_ ?_
      rotate_left
      ·intro w'
       go_simp
       with_reducible rfl
      rotate_left
      ·simp only [Act.put, List.setIfInBounds_toArray, List.set_cons_zero, List.set_cons_succ, i64_w, i32_w]
       rfl
      refine pure_ (i := 5) (N := some 179) (v := ?_) (a' := ?_) #[true, true, true, true, true, true, false, false, false, false, false, false, false, false, false, false, false, false, false] rfl rfl (by kernel_rfl) (fun _ _ _ h => h) (Or.inl ⟨by rfl, ?_⟩) ?_ ?_
      rotate_left
      ·intro w'
       go_simp
       with_reducible rfl
      rotate_left
      ·simp only [Act.put, List.setIfInBounds_toArray, List.set_cons_zero, List.set_cons_succ, i64_w, i32_w]
       rfl
      refine pure_ (i := 6) (N := some 180) (v := ?_) (a' := ?_) #[true, true, true, true, true, true, true, false, false, false, false, false, false, false, false, false, false, false, false] rfl rfl (by kernel_rfl) (fun _ _ _ h => h) (Or.inl ⟨by rfl, ?_⟩) ?_ ?_
      rotate_left
      ·intro w'
       go_simp
       with_reducible rfl
      rotate_left
      ·simp only [Act.put, List.setIfInBounds_toArray, List.set_cons_zero, List.set_cons_succ, i64_w, i32_w]
       rfl
      refine take_ (i := 7) (N := some 181) (v := ?_) (a' := ?_) #[true, true, true, true, true, true, true, true, false, false, false, false, false, false, false, false, false, false, false] rfl rfl (by kernel_rfl) (fun _ _ _ h => h) (Or.inl ⟨by rfl, ?_⟩) hHeld ?_ ?_
      rotate_left
      ·rintro w' ⟨s0, s1, s2, s3, s4, s5, s6, s7, s8, s9, s10, s11, s12, s13, s14, s15, s16, s17⟩
       go_simp
       with_reducible rfl
      rotate_left
      ·simp only [Act.put, List.setIfInBounds_toArray, List.set_cons_zero, List.set_cons_succ, i64_w, i32_w]
       rfl
      refine one_ (i := 8) (N := some 182) #[true, true, true, true, true, true, true, true, true, false, false, false, false, false, false, false, false, false, false] rfl rfl (by kernel_rfl) (by decide) (fun K hK => ?_)
      refine goes_ Tryd.func20 (by kernel_rfl) rfl #[.agg #[.string y.f0, .string y.f1, .string y.f2, .int .u8 y.f3, .int .i64 y.f4.f0, .int .i64 y.f4.f1, .int .i64 y.f4.f2, .int .i64 y.f4.f3, .slice Ay y.f5.length cy], .agg #[.string x.f0, .string x.f1, .string x.f2, .int .u8 x.f3, .int .i64 x.f4.f0, .int .i64 x.f4.f1, .int .i64 x.f4.f2, .int .i64 x.f4.f3, .slice Ax x.f5.length cx]] (by rfl) rfl rfl (by first | rfl | (simp [Act.eval]; done)) ?_
      refine (bindleref08_Equal.calls y.f0 y.f1 y.f2 y.f3 y.f4.f0 y.f4.f1 y.f4.f2 y.f4.f3 Ay cy y.f5 x.f0 x.f1 x.f2 x.f3 x.f4.f0 x.f4.f1 x.f4.f2 x.f4.f3 Ax cx x.f5 true _ (Kd.C_drew HCY.out) HLY.out (Kd.C_drew HCX.out) HLX.out (by rw [requal_f, HSA.out])).mono ?_
      rintro e w5 ⟨rfl, hb5⟩
      refine ⟨_, rfl, ?_⟩
      refine hK.out _ _ ⟨fkeep hb5 hHeld.1, fkeep hb5 hHeld.2.1, fkeep hb5 hHeld.2.2.1, fkeep hb5 hHeld.2.2.2.1, fkeep hb5 hHeld.2.2.2.2.1, fkeep hb5 hHeld.2.2.2.2.2.1, fkeep hb5 hHeld.2.2.2.2.2.2.1, fkeep hb5 hHeld.2.2.2.2.2.2.2.1, fkeep hb5 hHeld.2.2.2.2.2.2.2.2.1, fkeep hb5 hHeld.2.2.2.2.2.2.2.2.2.1, fkeep hb5 hHeld.2.2.2.2.2.2.2.2.2.2.1, fkeep hb5 hHeld.2.2.2.2.2.2.2.2.2.2.2.1, fkeep hb5 hHeld.2.2.2.2.2.2.2.2.2.2.2.2.1, fkeep hb5 hHeld.2.2.2.2.2.2.2.2.2.2.2.2.2.1, fkeep hb5 hHeld.2.2.2.2.2.2.2.2.2.2.2.2.2.2.1, fkeep hb5 hHeld.2.2.2.2.2.2.2.2.2.2.2.2.2.2.2.1, fkeep hb5 hHeld.2.2.2.2.2.2.2.2.2.2.2.2.2.2.2.2.1, fkeep hb5 hHeld.2.2.2.2.2.2.2.2.2.2.2.2.2.2.2.2.2⟩ (fun hHeld => ?_)
      clear hK K
      have HB5 := Aside0.mk hb5
      clear hb5
      refine norm_ (a' := ?_) ?_ ?_
      rotate_left
      ·show Act.put _ (some 182) _ = _
       simp only [Act.put, List.setIfInBounds_toArray, List.set_cons_zero, List.set_cons_succ, i64_w, i32_w]
       rfl
      refine pure_ (i := 9) (N := some 183) (v := ?_) (a' := ?_) #[true, true, true, true, true, true, true, true, true, true, false, false, false, false, false, false, false, false, false] rfl rfl (by kernel_rfl) (fun _ _ _ h => h) (Or.inl ⟨by rfl, ?_⟩) ?_ ?_
      rotate_left
      ·intro w'
       go_simp
       with_reducible rfl
      rotate_left
      ·simp only [Act.put, List.setIfInBounds_toArray, List.set_cons_zero, List.set_cons_succ, i64_w, i32_w]
       rfl
      refine pure_ (i := 10) (N := some 184) (v := ?_) (a' := ?_) #[true, true, true, true, true, true, true, true, true, true, true, false, false, false, false, false, false, false, false] rfl rfl (by kernel_rfl) (fun _ _ _ h => h) (Or.inl ⟨by rfl, ?_⟩) ?_ ?_
      rotate_left
      ·intro w'
       go_simp
       with_reducible rfl
      rotate_left
      ·simp only [Act.put, List.setIfInBounds_toArray, List.set_cons_zero, List.set_cons_succ, i64_w, i32_w]
       rfl
      refine pure_ (i := 11) (N := some 185) (v := ?_) (a' := ?_) #[true, true, true, true, true, true, true, true, true, true, true, true, false, false, false, false, false, false, false] rfl rfl (by kernel_rfl) (fun _ _ _ h => h) (Or.inl ⟨by rfl, ?_⟩) ?_ ?_
      rotate_left
      ·intro w'
       go_simp
       with_reducible rfl
      rotate_left
      ·simp only [Act.put, List.setIfInBounds_toArray, List.set_cons_zero, List.set_cons_succ, i64_w, i32_w]
       rfl
      refine pure_ (i := 12) (N := some 186) (v := ?_) (a' := ?_) #[true, true, true, true, true, true, true, true, true, true, true, true, true, false, false, false, false, false, false] rfl rfl (by kernel_rfl) (fun _ _ _ h => h) (Or.inl ⟨by rfl, ?_⟩) ?_ ?_
      rotate_left
      ·intro w'
       go_simp
       with_reducible rfl
      rotate_left
      ·simp only [Act.put, List.setIfInBounds_toArray, List.set_cons_zero, List.set_cons_succ, i64_w, i32_w]
       rfl
      refine pure_ (i := 13) (N := some 187) (v := ?_) (a' := ?_) #[true, true, true, true, true, true, true, true, true, true, true, true, true, true, false, false, false, false, false] rfl rfl (by kernel_rfl) (fun _ _ _ h => h) (Or.inl ⟨by rfl, ?_⟩) ?_ ?_
      rotate_left
      ·intro w'
       go_simp
       with_reducible rfl
      rotate_left
      ·simp only [Act.put, List.setIfInBounds_toArray, List.set_cons_zero, List.set_cons_succ, i64_w, i32_w]
       rfl
      refine pure_ (i := 14) (N := some 188) (v := ?_) (a' := ?_) #[true, true, true, true, true, true, true, true, true, true, true, true, true, true, true, false, false, false, false] rfl rfl (by kernel_rfl) (fun _ _ _ h => h) (Or.inl ⟨by rfl, ?_⟩) ?_ ?_
      rotate_left
      ·intro w'
       go_simp
       with_reducible rfl
      rotate_left
      ·simp only [Act.put, List.setIfInBounds_toArray, List.set_cons_zero, List.set_cons_succ, i64_w, i32_w]
       rfl
      refine take_ (i := 15) (N := some 189) (v := ?_) (a' := ?_) #[true, true, true, true, true, true, true, true, true, true, true, true, true, true, true, true, false, false, false] rfl rfl (by kernel_rfl) (fun _ _ _ h => h) (Or.inl ⟨by rfl, ?_⟩) hHeld ?_ ?_
      rotate_left
      ·rintro w' ⟨s0, s1, s2, s3, s4, s5, s6, s7, s8, s9, s10, s11, s12, s13, s14, s15, s16, s17⟩
       go_simp
       with_reducible rfl
      rotate_left
      ·simp only [Act.put, List.setIfInBounds_toArray, List.set_cons_zero, List.set_cons_succ, i64_w, i32_w]
       rfl
      refine pure_ (i := 16) (N := some 190) (v := ?_) (a' := ?_) #[true, true, true, true, true, true, true, true, true, true, true, true, true, true, true, true, true, false, false] rfl rfl (by kernel_rfl) (fun _ _ _ h => h) (Or.inl ⟨by rfl, ?_⟩) ?_ ?_
      rotate_left
      ·intro w'
       go_simp
       with_reducible rfl
      rotate_left
      ·simp only [Act.put, List.setIfInBounds_toArray, List.set_cons_zero, List.set_cons_succ, i64_w, i32_w]
       rfl
      refine pure_ (i := 17) (N := some 191) (v := ?_) (a' := ?_) #[true, true, true, true, true, true, true, true, true, true, true, true, true, true, true, true, true, true, false] rfl rfl (by kernel_rfl) (fun _ _ _ h => h) (Or.inl ⟨by rfl, ?_⟩) ?_ ?_
      rotate_left
      ·intro w'
       go_simp
       with_reducible rfl
      rotate_left
      ·simp only [Act.put, List.setIfInBounds_toArray, List.set_cons_zero, List.set_cons_succ, i64_w, i32_w]
       rfl
      refine pure_ (i := 18) (N := some 192) (v := ?_) (a' := ?_) #[true, true, true, true, true, true, true, true, true, true, true, true, true, true, true, true, true, true, true] rfl rfl (by kernel_rfl) (fun _ _ _ h => h) (Or.inl ⟨by rfl, ?_⟩) ?_ ?_
      rotate_left
      ·intro w'
       go_simp
       with_reducible rfl
      rotate_left
      ·simp only [Act.put, List.setIfInBounds_toArray, List.set_cons_zero, List.set_cons_succ, i64_w, i32_w]
       rfl
      refine done_ (by kernel_rfl) ?_
      go_wp2
      have HFIN : Aside0 (0 ≤ k + 1 ∧ k + 1 ≤ S.length ∧ Below w4.heap.size w4 w5) := ⟨⟨by omega, by omega, HK.out.2.2.trans ((hB7.trans (HB5.out.mono hB7.size)).mono HK.out.2.2.size)⟩⟩
      go_roundw
      case rel => exact ⟨k + 1, by go_num, HFIN⟩
      case measure => simp [intOf]; omega
    ·have c4b : decide (k < (S.length : Int)) = false := decide_eq_false hkn
     clear HV4 HG4 HC4
     have HK9 := Aside0.mk (HWF.out.trans (HK.out.2.2.mono HWF.out.size))
     go_wp2_with (first
      | (go_at_call 28; refine (PutNil_calls _).mono ?_; rintro e w6 ⟨rfl, hb6⟩; have HB6 := Aside0.mk (HK9.out.trans (hb6.mono HK9.out.size)); clear hb6)
      | (go_at_call 22; refine (bindlelaw19_answers.calls true _ (HT.out _ HB6.out) bindlelaw19_answers.val).mono ?_; rintro e w7 ⟨rfl, hb7⟩; have HB7 := Aside0.mk (HB6.out.trans (hb7.mono HB6.out.size)); clear hb7)
      | ((with_reducible refine gate_dst (N := 199) rfl ?_); refine enter_step Tryd.func31 (by kernel_rfl) rfl #[.pointer none] rfl ?ha ?hw ?_; (case hw => go_simp); (case ha => (try simp only [List.map_toArray, List.map_cons, List.map_nil]); first | done | rfl); refine (LenNil_calls _).mono ?_; rintro e w8 ⟨rfl, hb8⟩; refine ⟨_, rfl, ?_⟩; have HB8 := Aside0.mk (HB7.out.trans (hb8.mono HB7.out.size)); clear hb8)
      | ((with_reducible refine gate_dst (N := 204) rfl ?_); refine enter_step Tryd.func30 (by kernel_rfl) rfl #[.pointer none] rfl ?ha ?hw ?_; (case hw => go_simp); (case ha => (try simp only [List.map_toArray, List.map_cons, List.map_nil]); first | done | rfl); refine (TreeNil_calls _).mono ?_; rintro e w9 ⟨rfl, hb9⟩; refine ⟨_, rfl, ?_⟩; have HB9 := Aside0.mk (HB8.out.trans (hb9.mono HB8.out.size)); clear hb9)
      | fail)
     rw [← hQ.out]
     exact ⟨rfl, HB9.out⟩
end Go.Proofs.YtfmphccoeinhcaaDoor

namespace Go.Proofs.YtfmphccoeinhcaaDoor.Print
open Go.RowKit Go.Proofs.YtfmphccoeinhcaaDoor Go.Proofs.YtfmphccoeinhcaaDoorW.PrintWords Go.Proofs.YtfmphccoeinhcaaDoorW.PrintLast Go.Proofs.YtfmphccoeinhcaaDoorW.PrintMore
def PutsCond (l : List PutR) : Prop := (∀ x ∈ l, PutZ x) ∧ l.length ≤ 140737488351232
open Classical in
noncomputable def bindlelaw19_UnionPiles.f (_k : Nat) (l0 : List S57) : Option Bool := if PutsCond l0 then some true else none
theorem bindlelaw19_UnionPiles.calls (k : Nat) (A0 : Option Addr) (c0 : Nat) (l0 : List S57) (r : Bool) (w : World) (hT : Aside0 (Tabs w)) (hr0 : Kd.C k57 w A0 l0.length l0) (hc0 : l0.length ≤ c0) (h : bindlelaw19_UnionPiles.f k l0 = some r) :
  Calls Tryd.prog 8 #[.slice A0 l0.length c0] w fun e w' => e = .returned (.bool r) ∧ Below w.heap.size w w' := by
 unfold bindlelaw19_UnionPiles.f at h
 split at h
 ·rename_i hc
  obtain rfl := Option.some.inj h
  exact Piles_calls A0 c0 l0 w hT.out hr0 hc0 hc.1 hc.2
 ·cases h
theorem bindlelaw19_UnionPiles.true_of (l : List S57) (h1 : ∀ x ∈ l, PutZ x) (h2 : l.length ≤ 140737488351232) : Ev (fun k => bindlelaw19_UnionPiles.f k l) true :=
 Ev.congr (fun _ => if_pos ⟨h1, h2⟩) (Ev.now true)
end Go.Proofs.YtfmphccoeinhcaaDoor.Print

namespace Go.Proofs.YtfmphccoeinhcaaDoor
open Go.RowKit Go.Lib Go.Proofs.YtfmphccoeinhcaaDoorW.PrintWords
theorem laidOut : laidOutB Tryd.prog = true := by kernel_rfl
end Go.Proofs.YtfmphccoeinhcaaDoor
