/-
  Part of the proof that SubTakes answers true: texts put together (wip/bundle.py).
-/
import Derived.Test.YtfmphccoeinhcaaDoorCSubTakes3
import Derived.Deep.RegionHeld3
import Derived.Laws.Cover1
import Derived.Deep.LoopGhost
import Derived.Deep.DeepCutAuto
import Derived.IntWalk
namespace Go.Proofs.YtfmphccoeinhcaaDoor.Print
open Go.RowKit Go.Proofs.YtfmphccoeinhcaaDoorW.PrintWords Go.Proofs.YtfmphccoeinhcaaDoorW.PrintLast Go.Proofs.YtfmphccoeinhcaaDoorW.PrintMore
attribute [local go_sem] max2_int min2_int max_two min_two max_three min_three max_four min_four   -- for this text's walks alone
set_option linter.unusedVariables false
set_option linter.unusedSimpArgs false
attribute [local go_sem high] eqA24
def tree_Equal.f (a0_0 : ByteArray) (a0_1 : ByteArray) (a0_2 : ByteArray) (a0_3 : Int) (a0_4 : Int) (a0_5 : Int) (a0_6 : Int) (a0_7 : Int) (l0_8 : List Int) (a1_0 : ByteArray) (a1_1 : ByteArray) (a1_2 : ByteArray) (a1_3 : Int) (a1_4 : Int) (a1_5 : Int) (a1_6 : Int) (a1_7 : Int) (l1_8 : List Int) : Option (Bool) := if a0_0.toList = a1_0.toList then (if a0_3 = a1_3 then (if (a0_4 == a1_4 && (a0_5 == a1_5 && (a0_6 == a1_6 && (a0_7 == a1_7)))) = true then (if a0_1.toList = a1_1.toList then ((bytes_Equal.f l0_8 l1_8).bind fun t921 => (some t921)) else (some false)) else (some false)) else (some false)) else (some false)
set_option maxHeartbeats 8000000 in
set_option maxRecDepth 100000 in
theorem tree_Equal.calls (a0_0 : ByteArray) (a0_1 : ByteArray) (a0_2 : ByteArray) (a0_3 : Int) (a0_4 : Int) (a0_5 : Int) (a0_6 : Int) (a0_7 : Int) (A0_8 : Option Addr) (c0_8 : Nat) (l0_8 : List Int) (a1_0 : ByteArray) (a1_1 : ByteArray) (a1_2 : ByteArray) (a1_3 : Int) (a1_4 : Int) (a1_5 : Int) (a1_6 : Int) (a1_7 : Int) (A1_8 : Option Addr) (c1_8 : Nat) (l1_8 : List Int) (r : Bool) (w : World) (hr0_8 : Kd.C (Kd.int .u8) w A0_8 l0_8.length l0_8) (hc0_8 : l0_8.length ≤ c0_8) (hr1_8 : Kd.C (Kd.int .u8) w A1_8 l1_8.length l1_8) (hc1_8 : l1_8.length ≤ c1_8) (h : tree_Equal.f a0_0 a0_1 a0_2 a0_3 a0_4 a0_5 a0_6 a0_7 l0_8 a1_0 a1_1 a1_2 a1_3 a1_4 a1_5 a1_6 a1_7 l1_8 = some r) :
  Calls Tryd.prog 55 #[.agg #[.string a0_0, .string a0_1, .string a0_2, .int .u8 a0_3, .int .i64 a0_4, .int .i64 a0_5, .int .i64 a0_6, .int .i64 a0_7, .slice A0_8 l0_8.length c0_8], .agg #[.string a1_0, .string a1_1, .string a1_2, .int .u8 a1_3, .int .i64 a1_4, .int .i64 a1_5, .int .i64 a1_6, .int .i64 a1_7, .slice A1_8 l1_8.length c1_8]] w fun e w' => e = .returned (.bool r) ∧ Below w.heap.size w w' := by
 have hu38 := Tryd.underlying38
 have hu24 := Tryd.underlying24
 have HR0_8 := A0_ hr0_8
 have HC0_8 := A0_ hc0_8
 clear hr0_8 hc0_8
 have HR1_8 := A0_ hr1_8
 have HC1_8 := A0_ hc1_8
 clear hr1_8 hc1_8
 have HB := A0_ (Below.refl w.heap.size w)
 have H : (if a0_0.toList = a1_0.toList then (if a0_3 = a1_3 then (if (a0_4 == a1_4 && (a0_5 == a1_5 && (a0_6 == a1_6 && (a0_7 == a1_7)))) = true then (if a0_1.toList = a1_1.toList then ((bytes_Equal.f l0_8 l1_8).bind fun t921 => (some t921)) else (some false)) else (some false)) else (some false)) else (some false)) = some r := h
 clear h
 by_cases c3 : a0_0.toList = a1_0.toList
 rotate_left
 ·rw [if_neg c3] at H
  have c3b0 : (a0_0.toList == a1_0.toList) = false := beq_eq_false_iff_ne.mpr c3
  have c3b1 : (a0_0.toList != a1_0.toList) = true := bne_iff_ne.mpr c3
  obtain rfl := Option.some.inj H
  go_enter Tryd.func55, Tryd.ntmps55
  go_wp2_with (first | ((with_reducible refine gate_dst (N := 2) rfl ?_); refine box_event ?hg (N := 2) ?hd (cs := #[.string a0_0, .string a0_1, .string a0_2, .int .u8 a0_3, .int .i64 a0_4, .int .i64 a0_5, .int .i64 a0_6, .int .i64 a0_7, .slice A0_8 l0_8.length c0_8]) (t := 38) ?hr ?_; (case hd => rfl); (case hg => rfl); (case hr => first | (go_simp; done) | (go_simp; rfl)); intro gb919 hg w28 hbox hb; have n0_ := A0_ (below_step (wb_ HB.out) hb); have n1_ := A0_ (hbox); have n2_ := A0_ ((by rw [hg]; exact (below_size (wb_ HB.out)) : w.heap.size ≤ gb919)); have n3_ := A0_ ((by rw [hg]; exact (below_size (wb_ HB.out)) : w.heap.size ≤ gb919)); clear HB; have HB := n0_; have BK919 := n1_; have GW919 := n2_; have GE919 := n3_; clear n0_ n1_ n2_ n3_; clear hb hbox hg) | ((with_reducible refine gate_dst (N := 3) rfl ?_); refine box_event ?hg (N := 3) ?hd (cs := #[.string a1_0, .string a1_1, .string a1_2, .int .u8 a1_3, .int .i64 a1_4, .int .i64 a1_5, .int .i64 a1_6, .int .i64 a1_7, .slice A1_8 l1_8.length c1_8]) (t := 38) ?hr ?_; (case hd => rfl); (case hg => rfl); (case hr => first | (go_simp; done) | (go_simp; rfl)); intro gb920 hg w29 hbox hb; have n0_ := A0_ (blk_below (g := gb919) (o := .cells #[.string a0_0, .string a0_1, .string a0_2, .int .u8 a0_3, .int .i64 a0_4, .int .i64 a0_5, .int .i64 a0_6, .int .i64 a0_7, .slice A0_8 l0_8.length c0_8] 38 (0, 0)) (wB_ BK919.out) hb); have n1_ := A0_ (below_step (wb1_ HB.out GE919.out) hb); have n2_ := A0_ (hbox); have n3_ := A0_ ((by rw [hg]; exact (below_size (wb1_ HB.out GE919.out)) : w.heap.size ≤ gb920)); have n4_ := A0_ ((by rw [hg]; exact (below_size (wb1_ HB.out GE919.out)) : w.heap.size ≤ gb920)); have n5_ := A0_ ((by rw [hg]; exact Nat.ne_of_lt (blk_lt (g := gb919) (o := .cells #[.string a0_0, .string a0_1, .string a0_2, .int .u8 a0_3, .int .i64 a0_4, .int .i64 a0_5, .int .i64 a0_6, .int .i64 a0_7, .slice A0_8 l0_8.length c0_8] 38 (0, 0)) (wB_ BK919.out)) : gb919 ≠ gb920)); have n6_ := A0_ ((by rw [hg]; exact Nat.ne_of_gt (blk_lt (g := gb919) (o := .cells #[.string a0_0, .string a0_1, .string a0_2, .int .u8 a0_3, .int .i64 a0_4, .int .i64 a0_5, .int .i64 a0_6, .int .i64 a0_7, .slice A0_8 l0_8.length c0_8] 38 (0, 0)) (wB_ BK919.out)) : gb920 ≠ gb919)); clear BK919; clear HB; have BK919 := n0_; have HB := n1_; have BK920 := n2_; have GW920 := n3_; have GE920 := n4_; have NB919_920 := n5_; have NB920_919 := n6_; clear n0_ n1_ n2_ n3_ n4_ n5_ n6_; clear hb hbox hg; have hnb30 := NB919_920.out; have hnc30 := NB920_919.out; have hcz31_0 : w29.cell? ⟨gb919, 0, none⟩ = some (.string a0_0) := (bc_ BK919.out 0).trans rfl; have hcz31_1 : w29.cell? ⟨gb919, 1, none⟩ = some (.string a0_1) := (bc_ BK919.out 1).trans rfl; have hcz31_2 : w29.cell? ⟨gb919, 2, none⟩ = some (.string a0_2) := (bc_ BK919.out 2).trans rfl; have hcz31_3 : w29.cell? ⟨gb919, 3, none⟩ = some (.int .u8 a0_3) := (bc_ BK919.out 3).trans rfl; have hcz31_4 : w29.cell? ⟨gb919, 4, none⟩ = some (.int .i64 a0_4) := (bc_ BK919.out 4).trans rfl; have hcz31_5 : w29.cell? ⟨gb919, 5, none⟩ = some (.int .i64 a0_5) := (bc_ BK919.out 5).trans rfl; have hcz31_6 : w29.cell? ⟨gb919, 6, none⟩ = some (.int .i64 a0_6) := (bc_ BK919.out 6).trans rfl; have hcz31_7 : w29.cell? ⟨gb919, 7, none⟩ = some (.int .i64 a0_7) := (bc_ BK919.out 7).trans rfl; have hcz31_8 : w29.cell? ⟨gb919, 8, none⟩ = some (.slice A0_8 l0_8.length c0_8) := (bc_ BK919.out 8).trans rfl; have hfz31_0 := bf_ BK919.out 0; have hfz31_1 := bf_ BK919.out 1; have hfz31_2 := bf_ BK919.out 2; have hfz31_3 := bf_ BK919.out 3; have hfz31_4 := bf_ BK919.out 4; have hfz31_5 := bf_ BK919.out 5; have hfz31_6 := bf_ BK919.out 6; have hfz31_7 := bf_ BK919.out 7; have hfz31_8 := bf_ BK919.out 8; have hcz32_0 : w29.cell? ⟨gb920, 0, none⟩ = some (.string a1_0) := (bc_ BK920.out 0).trans rfl; have hcz32_1 : w29.cell? ⟨gb920, 1, none⟩ = some (.string a1_1) := (bc_ BK920.out 1).trans rfl; have hcz32_2 : w29.cell? ⟨gb920, 2, none⟩ = some (.string a1_2) := (bc_ BK920.out 2).trans rfl; have hcz32_3 : w29.cell? ⟨gb920, 3, none⟩ = some (.int .u8 a1_3) := (bc_ BK920.out 3).trans rfl; have hcz32_4 : w29.cell? ⟨gb920, 4, none⟩ = some (.int .i64 a1_4) := (bc_ BK920.out 4).trans rfl; have hcz32_5 : w29.cell? ⟨gb920, 5, none⟩ = some (.int .i64 a1_5) := (bc_ BK920.out 5).trans rfl; have hcz32_6 : w29.cell? ⟨gb920, 6, none⟩ = some (.int .i64 a1_6) := (bc_ BK920.out 6).trans rfl; have hcz32_7 : w29.cell? ⟨gb920, 7, none⟩ = some (.int .i64 a1_7) := (bc_ BK920.out 7).trans rfl; have hcz32_8 : w29.cell? ⟨gb920, 8, none⟩ = some (.slice A1_8 l1_8.length c1_8) := (bc_ BK920.out 8).trans rfl; have hfz32_0 := bf_ BK920.out 0; have hfz32_1 := bf_ BK920.out 1; have hfz32_2 := bf_ BK920.out 2; have hfz32_3 := bf_ BK920.out 3; have hfz32_4 := bf_ BK920.out 4; have hfz32_5 := bf_ BK920.out 5; have hfz32_6 := bf_ BK920.out 6; have hfz32_7 := bf_ BK920.out 7; have hfz32_8 := bf_ BK920.out 8))
  go_ret
  exact ⟨we_, wb2_ HB.out GE919.out GE920.out⟩
 rw [if_pos c3] at H
 have c3b0 : (a0_0.toList == a1_0.toList) = true := beq_iff_eq.mpr c3
 have c3b1 : (a0_0.toList != a1_0.toList) = false := bne_eq_false_iff_eq.mpr c3
 clear c3
 by_cases c4 : a0_3 = a1_3
 rotate_left
 ·rw [if_neg c4] at H
  have c4b0 : (a0_3 == a1_3) = false := beq_eq_false_iff_ne.mpr c4
  have c4b1 : (a0_3 != a1_3) = true := bne_iff_ne.mpr c4
  obtain rfl := Option.some.inj H
  go_enter Tryd.func55, Tryd.ntmps55
  go_wp2_with (first | ((with_reducible refine gate_dst (N := 2) rfl ?_); refine box_event ?hg (N := 2) ?hd (cs := #[.string a0_0, .string a0_1, .string a0_2, .int .u8 a0_3, .int .i64 a0_4, .int .i64 a0_5, .int .i64 a0_6, .int .i64 a0_7, .slice A0_8 l0_8.length c0_8]) (t := 38) ?hr ?_; (case hd => rfl); (case hg => rfl); (case hr => first | (go_simp; done) | (go_simp; rfl)); intro gb919 hg w23 hbox hb; have n0_ := A0_ (below_step (wb_ HB.out) hb); have n1_ := A0_ (hbox); have n2_ := A0_ ((by rw [hg]; exact (below_size (wb_ HB.out)) : w.heap.size ≤ gb919)); have n3_ := A0_ ((by rw [hg]; exact (below_size (wb_ HB.out)) : w.heap.size ≤ gb919)); clear HB; have HB := n0_; have BK919 := n1_; have GW919 := n2_; have GE919 := n3_; clear n0_ n1_ n2_ n3_; clear hb hbox hg) | ((with_reducible refine gate_dst (N := 3) rfl ?_); refine box_event ?hg (N := 3) ?hd (cs := #[.string a1_0, .string a1_1, .string a1_2, .int .u8 a1_3, .int .i64 a1_4, .int .i64 a1_5, .int .i64 a1_6, .int .i64 a1_7, .slice A1_8 l1_8.length c1_8]) (t := 38) ?hr ?_; (case hd => rfl); (case hg => rfl); (case hr => first | (go_simp; done) | (go_simp; rfl)); intro gb920 hg w24 hbox hb; have n0_ := A0_ (blk_below (g := gb919) (o := .cells #[.string a0_0, .string a0_1, .string a0_2, .int .u8 a0_3, .int .i64 a0_4, .int .i64 a0_5, .int .i64 a0_6, .int .i64 a0_7, .slice A0_8 l0_8.length c0_8] 38 (0, 0)) (wB_ BK919.out) hb); have n1_ := A0_ (below_step (wb1_ HB.out GE919.out) hb); have n2_ := A0_ (hbox); have n3_ := A0_ ((by rw [hg]; exact (below_size (wb1_ HB.out GE919.out)) : w.heap.size ≤ gb920)); have n4_ := A0_ ((by rw [hg]; exact (below_size (wb1_ HB.out GE919.out)) : w.heap.size ≤ gb920)); have n5_ := A0_ ((by rw [hg]; exact Nat.ne_of_lt (blk_lt (g := gb919) (o := .cells #[.string a0_0, .string a0_1, .string a0_2, .int .u8 a0_3, .int .i64 a0_4, .int .i64 a0_5, .int .i64 a0_6, .int .i64 a0_7, .slice A0_8 l0_8.length c0_8] 38 (0, 0)) (wB_ BK919.out)) : gb919 ≠ gb920)); have n6_ := A0_ ((by rw [hg]; exact Nat.ne_of_gt (blk_lt (g := gb919) (o := .cells #[.string a0_0, .string a0_1, .string a0_2, .int .u8 a0_3, .int .i64 a0_4, .int .i64 a0_5, .int .i64 a0_6, .int .i64 a0_7, .slice A0_8 l0_8.length c0_8] 38 (0, 0)) (wB_ BK919.out)) : gb920 ≠ gb919)); clear BK919; clear HB; have BK919 := n0_; have HB := n1_; have BK920 := n2_; have GW920 := n3_; have GE920 := n4_; have NB919_920 := n5_; have NB920_919 := n6_; clear n0_ n1_ n2_ n3_ n4_ n5_ n6_; clear hb hbox hg; have hnb25 := NB919_920.out; have hnc25 := NB920_919.out; have hcz26_0 : w24.cell? ⟨gb919, 0, none⟩ = some (.string a0_0) := (bc_ BK919.out 0).trans rfl; have hcz26_1 : w24.cell? ⟨gb919, 1, none⟩ = some (.string a0_1) := (bc_ BK919.out 1).trans rfl; have hcz26_2 : w24.cell? ⟨gb919, 2, none⟩ = some (.string a0_2) := (bc_ BK919.out 2).trans rfl; have hcz26_3 : w24.cell? ⟨gb919, 3, none⟩ = some (.int .u8 a0_3) := (bc_ BK919.out 3).trans rfl; have hcz26_4 : w24.cell? ⟨gb919, 4, none⟩ = some (.int .i64 a0_4) := (bc_ BK919.out 4).trans rfl; have hcz26_5 : w24.cell? ⟨gb919, 5, none⟩ = some (.int .i64 a0_5) := (bc_ BK919.out 5).trans rfl; have hcz26_6 : w24.cell? ⟨gb919, 6, none⟩ = some (.int .i64 a0_6) := (bc_ BK919.out 6).trans rfl; have hcz26_7 : w24.cell? ⟨gb919, 7, none⟩ = some (.int .i64 a0_7) := (bc_ BK919.out 7).trans rfl; have hcz26_8 : w24.cell? ⟨gb919, 8, none⟩ = some (.slice A0_8 l0_8.length c0_8) := (bc_ BK919.out 8).trans rfl; have hfz26_0 := bf_ BK919.out 0; have hfz26_1 := bf_ BK919.out 1; have hfz26_2 := bf_ BK919.out 2; have hfz26_3 := bf_ BK919.out 3; have hfz26_4 := bf_ BK919.out 4; have hfz26_5 := bf_ BK919.out 5; have hfz26_6 := bf_ BK919.out 6; have hfz26_7 := bf_ BK919.out 7; have hfz26_8 := bf_ BK919.out 8; have hcz27_0 : w24.cell? ⟨gb920, 0, none⟩ = some (.string a1_0) := (bc_ BK920.out 0).trans rfl; have hcz27_1 : w24.cell? ⟨gb920, 1, none⟩ = some (.string a1_1) := (bc_ BK920.out 1).trans rfl; have hcz27_2 : w24.cell? ⟨gb920, 2, none⟩ = some (.string a1_2) := (bc_ BK920.out 2).trans rfl; have hcz27_3 : w24.cell? ⟨gb920, 3, none⟩ = some (.int .u8 a1_3) := (bc_ BK920.out 3).trans rfl; have hcz27_4 : w24.cell? ⟨gb920, 4, none⟩ = some (.int .i64 a1_4) := (bc_ BK920.out 4).trans rfl; have hcz27_5 : w24.cell? ⟨gb920, 5, none⟩ = some (.int .i64 a1_5) := (bc_ BK920.out 5).trans rfl; have hcz27_6 : w24.cell? ⟨gb920, 6, none⟩ = some (.int .i64 a1_6) := (bc_ BK920.out 6).trans rfl; have hcz27_7 : w24.cell? ⟨gb920, 7, none⟩ = some (.int .i64 a1_7) := (bc_ BK920.out 7).trans rfl; have hcz27_8 : w24.cell? ⟨gb920, 8, none⟩ = some (.slice A1_8 l1_8.length c1_8) := (bc_ BK920.out 8).trans rfl; have hfz27_0 := bf_ BK920.out 0; have hfz27_1 := bf_ BK920.out 1; have hfz27_2 := bf_ BK920.out 2; have hfz27_3 := bf_ BK920.out 3; have hfz27_4 := bf_ BK920.out 4; have hfz27_5 := bf_ BK920.out 5; have hfz27_6 := bf_ BK920.out 6; have hfz27_7 := bf_ BK920.out 7; have hfz27_8 := bf_ BK920.out 8))
  go_ret
  exact ⟨we_, wb2_ HB.out GE919.out GE920.out⟩
 rw [if_pos c4] at H
 have c4b0 : (a0_3 == a1_3) = true := beq_iff_eq.mpr c4
 have c4b1 : (a0_3 != a1_3) = false := bne_eq_false_iff_eq.mpr c4
 clear c4
 by_cases c5 : (a0_4 == a1_4 && (a0_5 == a1_5 && (a0_6 == a1_6 && (a0_7 == a1_7)))) = true
 rotate_left
 ·rw [if_neg c5] at H
  have c5b0 : (a0_4 == a1_4 && (a0_5 == a1_5 && (a0_6 == a1_6 && (a0_7 == a1_7)))) = false := by simpa using c5
  (try (have c5b1 : decide (a0_4 = a1_4 && (a0_5 == a1_5 && (a0_6 == a1_6 && (a0_7 == a1_7)))) = false := by simpa using c5))
  (try (have c5b2 : (a0_4 == a1_4 && (a0_5 == a1_5 && (a0_6 == a1_6 && (a0_7 == a1_7)))) = false := by simpa using c5))
  (try (have c5b3 : ¬ (a0_4 = a1_4 && (a0_5 == a1_5 && (a0_6 == a1_6 && (a0_7 == a1_7)))) := by simpa using c5))
  clear c5
  obtain rfl := Option.some.inj H
  go_enter Tryd.func55, Tryd.ntmps55
  go_wp2_with (first | ((with_reducible refine gate_dst (N := 2) rfl ?_); refine box_event ?hg (N := 2) ?hd (cs := #[.string a0_0, .string a0_1, .string a0_2, .int .u8 a0_3, .int .i64 a0_4, .int .i64 a0_5, .int .i64 a0_6, .int .i64 a0_7, .slice A0_8 l0_8.length c0_8]) (t := 38) ?hr ?_; (case hd => rfl); (case hg => rfl); (case hr => first | (go_simp; done) | (go_simp; rfl)); intro gb919 hg w18 hbox hb; have n0_ := A0_ (below_step (wb_ HB.out) hb); have n1_ := A0_ (hbox); have n2_ := A0_ ((by rw [hg]; exact (below_size (wb_ HB.out)) : w.heap.size ≤ gb919)); have n3_ := A0_ ((by rw [hg]; exact (below_size (wb_ HB.out)) : w.heap.size ≤ gb919)); clear HB; have HB := n0_; have BK919 := n1_; have GW919 := n2_; have GE919 := n3_; clear n0_ n1_ n2_ n3_; clear hb hbox hg) | ((with_reducible refine gate_dst (N := 3) rfl ?_); refine box_event ?hg (N := 3) ?hd (cs := #[.string a1_0, .string a1_1, .string a1_2, .int .u8 a1_3, .int .i64 a1_4, .int .i64 a1_5, .int .i64 a1_6, .int .i64 a1_7, .slice A1_8 l1_8.length c1_8]) (t := 38) ?hr ?_; (case hd => rfl); (case hg => rfl); (case hr => first | (go_simp; done) | (go_simp; rfl)); intro gb920 hg w19 hbox hb; have n0_ := A0_ (blk_below (g := gb919) (o := .cells #[.string a0_0, .string a0_1, .string a0_2, .int .u8 a0_3, .int .i64 a0_4, .int .i64 a0_5, .int .i64 a0_6, .int .i64 a0_7, .slice A0_8 l0_8.length c0_8] 38 (0, 0)) (wB_ BK919.out) hb); have n1_ := A0_ (below_step (wb1_ HB.out GE919.out) hb); have n2_ := A0_ (hbox); have n3_ := A0_ ((by rw [hg]; exact (below_size (wb1_ HB.out GE919.out)) : w.heap.size ≤ gb920)); have n4_ := A0_ ((by rw [hg]; exact (below_size (wb1_ HB.out GE919.out)) : w.heap.size ≤ gb920)); have n5_ := A0_ ((by rw [hg]; exact Nat.ne_of_lt (blk_lt (g := gb919) (o := .cells #[.string a0_0, .string a0_1, .string a0_2, .int .u8 a0_3, .int .i64 a0_4, .int .i64 a0_5, .int .i64 a0_6, .int .i64 a0_7, .slice A0_8 l0_8.length c0_8] 38 (0, 0)) (wB_ BK919.out)) : gb919 ≠ gb920)); have n6_ := A0_ ((by rw [hg]; exact Nat.ne_of_gt (blk_lt (g := gb919) (o := .cells #[.string a0_0, .string a0_1, .string a0_2, .int .u8 a0_3, .int .i64 a0_4, .int .i64 a0_5, .int .i64 a0_6, .int .i64 a0_7, .slice A0_8 l0_8.length c0_8] 38 (0, 0)) (wB_ BK919.out)) : gb920 ≠ gb919)); clear BK919; clear HB; have BK919 := n0_; have HB := n1_; have BK920 := n2_; have GW920 := n3_; have GE920 := n4_; have NB919_920 := n5_; have NB920_919 := n6_; clear n0_ n1_ n2_ n3_ n4_ n5_ n6_; clear hb hbox hg; have hnb20 := NB919_920.out; have hnc20 := NB920_919.out; have hcz21_0 : w19.cell? ⟨gb919, 0, none⟩ = some (.string a0_0) := (bc_ BK919.out 0).trans rfl; have hcz21_1 : w19.cell? ⟨gb919, 1, none⟩ = some (.string a0_1) := (bc_ BK919.out 1).trans rfl; have hcz21_2 : w19.cell? ⟨gb919, 2, none⟩ = some (.string a0_2) := (bc_ BK919.out 2).trans rfl; have hcz21_3 : w19.cell? ⟨gb919, 3, none⟩ = some (.int .u8 a0_3) := (bc_ BK919.out 3).trans rfl; have hcz21_4 : w19.cell? ⟨gb919, 4, none⟩ = some (.int .i64 a0_4) := (bc_ BK919.out 4).trans rfl; have hcz21_5 : w19.cell? ⟨gb919, 5, none⟩ = some (.int .i64 a0_5) := (bc_ BK919.out 5).trans rfl; have hcz21_6 : w19.cell? ⟨gb919, 6, none⟩ = some (.int .i64 a0_6) := (bc_ BK919.out 6).trans rfl; have hcz21_7 : w19.cell? ⟨gb919, 7, none⟩ = some (.int .i64 a0_7) := (bc_ BK919.out 7).trans rfl; have hcz21_8 : w19.cell? ⟨gb919, 8, none⟩ = some (.slice A0_8 l0_8.length c0_8) := (bc_ BK919.out 8).trans rfl; have hfz21_0 := bf_ BK919.out 0; have hfz21_1 := bf_ BK919.out 1; have hfz21_2 := bf_ BK919.out 2; have hfz21_3 := bf_ BK919.out 3; have hfz21_4 := bf_ BK919.out 4; have hfz21_5 := bf_ BK919.out 5; have hfz21_6 := bf_ BK919.out 6; have hfz21_7 := bf_ BK919.out 7; have hfz21_8 := bf_ BK919.out 8; have hcz22_0 : w19.cell? ⟨gb920, 0, none⟩ = some (.string a1_0) := (bc_ BK920.out 0).trans rfl; have hcz22_1 : w19.cell? ⟨gb920, 1, none⟩ = some (.string a1_1) := (bc_ BK920.out 1).trans rfl; have hcz22_2 : w19.cell? ⟨gb920, 2, none⟩ = some (.string a1_2) := (bc_ BK920.out 2).trans rfl; have hcz22_3 : w19.cell? ⟨gb920, 3, none⟩ = some (.int .u8 a1_3) := (bc_ BK920.out 3).trans rfl; have hcz22_4 : w19.cell? ⟨gb920, 4, none⟩ = some (.int .i64 a1_4) := (bc_ BK920.out 4).trans rfl; have hcz22_5 : w19.cell? ⟨gb920, 5, none⟩ = some (.int .i64 a1_5) := (bc_ BK920.out 5).trans rfl; have hcz22_6 : w19.cell? ⟨gb920, 6, none⟩ = some (.int .i64 a1_6) := (bc_ BK920.out 6).trans rfl; have hcz22_7 : w19.cell? ⟨gb920, 7, none⟩ = some (.int .i64 a1_7) := (bc_ BK920.out 7).trans rfl; have hcz22_8 : w19.cell? ⟨gb920, 8, none⟩ = some (.slice A1_8 l1_8.length c1_8) := (bc_ BK920.out 8).trans rfl; have hfz22_0 := bf_ BK920.out 0; have hfz22_1 := bf_ BK920.out 1; have hfz22_2 := bf_ BK920.out 2; have hfz22_3 := bf_ BK920.out 3; have hfz22_4 := bf_ BK920.out 4; have hfz22_5 := bf_ BK920.out 5; have hfz22_6 := bf_ BK920.out 6; have hfz22_7 := bf_ BK920.out 7; have hfz22_8 := bf_ BK920.out 8))
  go_ret
  exact ⟨we_, wb2_ HB.out GE919.out GE920.out⟩
 rw [if_pos c5] at H
 have c5b0 : (a0_4 == a1_4 && (a0_5 == a1_5 && (a0_6 == a1_6 && (a0_7 == a1_7)))) = true := c5
 (try (have c5b1 : decide (a0_4 = a1_4 && (a0_5 == a1_5 && (a0_6 == a1_6 && (a0_7 == a1_7)))) = true := by simpa using c5))
 (try (have c5b2 : (a0_4 == a1_4 && (a0_5 == a1_5 && (a0_6 == a1_6 && (a0_7 == a1_7)))) = true := by simpa using c5))
 clear c5
 by_cases c6 : a0_1.toList = a1_1.toList
 rotate_left
 ·rw [if_neg c6] at H
  have c6b0 : (a0_1.toList == a1_1.toList) = false := beq_eq_false_iff_ne.mpr c6
  have c6b1 : (a0_1.toList != a1_1.toList) = true := bne_iff_ne.mpr c6
  obtain rfl := Option.some.inj H
  go_enter Tryd.func55, Tryd.ntmps55
  go_wp2_with (first | ((with_reducible refine gate_dst (N := 2) rfl ?_); refine box_event ?hg (N := 2) ?hd (cs := #[.string a0_0, .string a0_1, .string a0_2, .int .u8 a0_3, .int .i64 a0_4, .int .i64 a0_5, .int .i64 a0_6, .int .i64 a0_7, .slice A0_8 l0_8.length c0_8]) (t := 38) ?hr ?_; (case hd => rfl); (case hg => rfl); (case hr => first | (go_simp; done) | (go_simp; rfl)); intro gb919 hg w13 hbox hb; have n0_ := A0_ (below_step (wb_ HB.out) hb); have n1_ := A0_ (hbox); have n2_ := A0_ ((by rw [hg]; exact (below_size (wb_ HB.out)) : w.heap.size ≤ gb919)); have n3_ := A0_ ((by rw [hg]; exact (below_size (wb_ HB.out)) : w.heap.size ≤ gb919)); clear HB; have HB := n0_; have BK919 := n1_; have GW919 := n2_; have GE919 := n3_; clear n0_ n1_ n2_ n3_; clear hb hbox hg) | ((with_reducible refine gate_dst (N := 3) rfl ?_); refine box_event ?hg (N := 3) ?hd (cs := #[.string a1_0, .string a1_1, .string a1_2, .int .u8 a1_3, .int .i64 a1_4, .int .i64 a1_5, .int .i64 a1_6, .int .i64 a1_7, .slice A1_8 l1_8.length c1_8]) (t := 38) ?hr ?_; (case hd => rfl); (case hg => rfl); (case hr => first | (go_simp; done) | (go_simp; rfl)); intro gb920 hg w14 hbox hb; have n0_ := A0_ (blk_below (g := gb919) (o := .cells #[.string a0_0, .string a0_1, .string a0_2, .int .u8 a0_3, .int .i64 a0_4, .int .i64 a0_5, .int .i64 a0_6, .int .i64 a0_7, .slice A0_8 l0_8.length c0_8] 38 (0, 0)) (wB_ BK919.out) hb); have n1_ := A0_ (below_step (wb1_ HB.out GE919.out) hb); have n2_ := A0_ (hbox); have n3_ := A0_ ((by rw [hg]; exact (below_size (wb1_ HB.out GE919.out)) : w.heap.size ≤ gb920)); have n4_ := A0_ ((by rw [hg]; exact (below_size (wb1_ HB.out GE919.out)) : w.heap.size ≤ gb920)); have n5_ := A0_ ((by rw [hg]; exact Nat.ne_of_lt (blk_lt (g := gb919) (o := .cells #[.string a0_0, .string a0_1, .string a0_2, .int .u8 a0_3, .int .i64 a0_4, .int .i64 a0_5, .int .i64 a0_6, .int .i64 a0_7, .slice A0_8 l0_8.length c0_8] 38 (0, 0)) (wB_ BK919.out)) : gb919 ≠ gb920)); have n6_ := A0_ ((by rw [hg]; exact Nat.ne_of_gt (blk_lt (g := gb919) (o := .cells #[.string a0_0, .string a0_1, .string a0_2, .int .u8 a0_3, .int .i64 a0_4, .int .i64 a0_5, .int .i64 a0_6, .int .i64 a0_7, .slice A0_8 l0_8.length c0_8] 38 (0, 0)) (wB_ BK919.out)) : gb920 ≠ gb919)); clear BK919; clear HB; have BK919 := n0_; have HB := n1_; have BK920 := n2_; have GW920 := n3_; have GE920 := n4_; have NB919_920 := n5_; have NB920_919 := n6_; clear n0_ n1_ n2_ n3_ n4_ n5_ n6_; clear hb hbox hg; have hnb15 := NB919_920.out; have hnc15 := NB920_919.out; have hcz16_0 : w14.cell? ⟨gb919, 0, none⟩ = some (.string a0_0) := (bc_ BK919.out 0).trans rfl; have hcz16_1 : w14.cell? ⟨gb919, 1, none⟩ = some (.string a0_1) := (bc_ BK919.out 1).trans rfl; have hcz16_2 : w14.cell? ⟨gb919, 2, none⟩ = some (.string a0_2) := (bc_ BK919.out 2).trans rfl; have hcz16_3 : w14.cell? ⟨gb919, 3, none⟩ = some (.int .u8 a0_3) := (bc_ BK919.out 3).trans rfl; have hcz16_4 : w14.cell? ⟨gb919, 4, none⟩ = some (.int .i64 a0_4) := (bc_ BK919.out 4).trans rfl; have hcz16_5 : w14.cell? ⟨gb919, 5, none⟩ = some (.int .i64 a0_5) := (bc_ BK919.out 5).trans rfl; have hcz16_6 : w14.cell? ⟨gb919, 6, none⟩ = some (.int .i64 a0_6) := (bc_ BK919.out 6).trans rfl; have hcz16_7 : w14.cell? ⟨gb919, 7, none⟩ = some (.int .i64 a0_7) := (bc_ BK919.out 7).trans rfl; have hcz16_8 : w14.cell? ⟨gb919, 8, none⟩ = some (.slice A0_8 l0_8.length c0_8) := (bc_ BK919.out 8).trans rfl; have hfz16_0 := bf_ BK919.out 0; have hfz16_1 := bf_ BK919.out 1; have hfz16_2 := bf_ BK919.out 2; have hfz16_3 := bf_ BK919.out 3; have hfz16_4 := bf_ BK919.out 4; have hfz16_5 := bf_ BK919.out 5; have hfz16_6 := bf_ BK919.out 6; have hfz16_7 := bf_ BK919.out 7; have hfz16_8 := bf_ BK919.out 8; have hcz17_0 : w14.cell? ⟨gb920, 0, none⟩ = some (.string a1_0) := (bc_ BK920.out 0).trans rfl; have hcz17_1 : w14.cell? ⟨gb920, 1, none⟩ = some (.string a1_1) := (bc_ BK920.out 1).trans rfl; have hcz17_2 : w14.cell? ⟨gb920, 2, none⟩ = some (.string a1_2) := (bc_ BK920.out 2).trans rfl; have hcz17_3 : w14.cell? ⟨gb920, 3, none⟩ = some (.int .u8 a1_3) := (bc_ BK920.out 3).trans rfl; have hcz17_4 : w14.cell? ⟨gb920, 4, none⟩ = some (.int .i64 a1_4) := (bc_ BK920.out 4).trans rfl; have hcz17_5 : w14.cell? ⟨gb920, 5, none⟩ = some (.int .i64 a1_5) := (bc_ BK920.out 5).trans rfl; have hcz17_6 : w14.cell? ⟨gb920, 6, none⟩ = some (.int .i64 a1_6) := (bc_ BK920.out 6).trans rfl; have hcz17_7 : w14.cell? ⟨gb920, 7, none⟩ = some (.int .i64 a1_7) := (bc_ BK920.out 7).trans rfl; have hcz17_8 : w14.cell? ⟨gb920, 8, none⟩ = some (.slice A1_8 l1_8.length c1_8) := (bc_ BK920.out 8).trans rfl; have hfz17_0 := bf_ BK920.out 0; have hfz17_1 := bf_ BK920.out 1; have hfz17_2 := bf_ BK920.out 2; have hfz17_3 := bf_ BK920.out 3; have hfz17_4 := bf_ BK920.out 4; have hfz17_5 := bf_ BK920.out 5; have hfz17_6 := bf_ BK920.out 6; have hfz17_7 := bf_ BK920.out 7; have hfz17_8 := bf_ BK920.out 8))
  go_ret
  exact ⟨we_, wb2_ HB.out GE919.out GE920.out⟩
 rw [if_pos c6] at H
 have c6b0 : (a0_1.toList == a1_1.toList) = true := beq_iff_eq.mpr c6
 have c6b1 : (a0_1.toList != a1_1.toList) = false := bne_eq_false_iff_eq.mpr c6
 clear c6
 replace H := Option.bind_eq_some_iff.mp H
 obtain ⟨t921, A70, H⟩ := H
 replace H : (some t921) = some r := H
 have A7 := A0_ A70
 clear A70
 obtain rfl := Option.some.inj H
 go_enter Tryd.func55, Tryd.ntmps55
 go_wp2_with (first | ((with_reducible refine gate_dst (N := 2) rfl ?_); refine box_event ?hg (N := 2) ?hd (cs := #[.string a0_0, .string a0_1, .string a0_2, .int .u8 a0_3, .int .i64 a0_4, .int .i64 a0_5, .int .i64 a0_6, .int .i64 a0_7, .slice A0_8 l0_8.length c0_8]) (t := 38) ?hr ?_; (case hd => rfl); (case hg => rfl); (case hr => first | (go_simp; done) | (go_simp; rfl)); intro gb919 hg w8 hbox hb; have n0_ := A0_ (below_step (wb_ HB.out) hb); have n1_ := A0_ (hbox); have n2_ := A0_ ((by rw [hg]; exact (below_size (wb_ HB.out)) : w.heap.size ≤ gb919)); have n3_ := A0_ ((by rw [hg]; exact (below_size (wb_ HB.out)) : w.heap.size ≤ gb919)); clear HB; have HB := n0_; have BK919 := n1_; have GW919 := n2_; have GE919 := n3_; clear n0_ n1_ n2_ n3_; clear hb hbox hg) | ((with_reducible refine gate_dst (N := 3) rfl ?_); refine box_event ?hg (N := 3) ?hd (cs := #[.string a1_0, .string a1_1, .string a1_2, .int .u8 a1_3, .int .i64 a1_4, .int .i64 a1_5, .int .i64 a1_6, .int .i64 a1_7, .slice A1_8 l1_8.length c1_8]) (t := 38) ?hr ?_; (case hd => rfl); (case hg => rfl); (case hr => first | (go_simp; done) | (go_simp; rfl)); intro gb920 hg w9 hbox hb; have n0_ := A0_ (blk_below (g := gb919) (o := .cells #[.string a0_0, .string a0_1, .string a0_2, .int .u8 a0_3, .int .i64 a0_4, .int .i64 a0_5, .int .i64 a0_6, .int .i64 a0_7, .slice A0_8 l0_8.length c0_8] 38 (0, 0)) (wB_ BK919.out) hb); have n1_ := A0_ (below_step (wb1_ HB.out GE919.out) hb); have n2_ := A0_ (hbox); have n3_ := A0_ ((by rw [hg]; exact (below_size (wb1_ HB.out GE919.out)) : w.heap.size ≤ gb920)); have n4_ := A0_ ((by rw [hg]; exact (below_size (wb1_ HB.out GE919.out)) : w.heap.size ≤ gb920)); have n5_ := A0_ ((by rw [hg]; exact Nat.ne_of_lt (blk_lt (g := gb919) (o := .cells #[.string a0_0, .string a0_1, .string a0_2, .int .u8 a0_3, .int .i64 a0_4, .int .i64 a0_5, .int .i64 a0_6, .int .i64 a0_7, .slice A0_8 l0_8.length c0_8] 38 (0, 0)) (wB_ BK919.out)) : gb919 ≠ gb920)); have n6_ := A0_ ((by rw [hg]; exact Nat.ne_of_gt (blk_lt (g := gb919) (o := .cells #[.string a0_0, .string a0_1, .string a0_2, .int .u8 a0_3, .int .i64 a0_4, .int .i64 a0_5, .int .i64 a0_6, .int .i64 a0_7, .slice A0_8 l0_8.length c0_8] 38 (0, 0)) (wB_ BK919.out)) : gb920 ≠ gb919)); clear BK919; clear HB; have BK919 := n0_; have HB := n1_; have BK920 := n2_; have GW920 := n3_; have GE920 := n4_; have NB919_920 := n5_; have NB920_919 := n6_; clear n0_ n1_ n2_ n3_ n4_ n5_ n6_; clear hb hbox hg; have hnb10 := NB919_920.out; have hnc10 := NB920_919.out; have hcz11_0 : w9.cell? ⟨gb919, 0, none⟩ = some (.string a0_0) := (bc_ BK919.out 0).trans rfl; have hcz11_1 : w9.cell? ⟨gb919, 1, none⟩ = some (.string a0_1) := (bc_ BK919.out 1).trans rfl; have hcz11_2 : w9.cell? ⟨gb919, 2, none⟩ = some (.string a0_2) := (bc_ BK919.out 2).trans rfl; have hcz11_3 : w9.cell? ⟨gb919, 3, none⟩ = some (.int .u8 a0_3) := (bc_ BK919.out 3).trans rfl; have hcz11_4 : w9.cell? ⟨gb919, 4, none⟩ = some (.int .i64 a0_4) := (bc_ BK919.out 4).trans rfl; have hcz11_5 : w9.cell? ⟨gb919, 5, none⟩ = some (.int .i64 a0_5) := (bc_ BK919.out 5).trans rfl; have hcz11_6 : w9.cell? ⟨gb919, 6, none⟩ = some (.int .i64 a0_6) := (bc_ BK919.out 6).trans rfl; have hcz11_7 : w9.cell? ⟨gb919, 7, none⟩ = some (.int .i64 a0_7) := (bc_ BK919.out 7).trans rfl; have hcz11_8 : w9.cell? ⟨gb919, 8, none⟩ = some (.slice A0_8 l0_8.length c0_8) := (bc_ BK919.out 8).trans rfl; have hfz11_0 := bf_ BK919.out 0; have hfz11_1 := bf_ BK919.out 1; have hfz11_2 := bf_ BK919.out 2; have hfz11_3 := bf_ BK919.out 3; have hfz11_4 := bf_ BK919.out 4; have hfz11_5 := bf_ BK919.out 5; have hfz11_6 := bf_ BK919.out 6; have hfz11_7 := bf_ BK919.out 7; have hfz11_8 := bf_ BK919.out 8; have hcz12_0 : w9.cell? ⟨gb920, 0, none⟩ = some (.string a1_0) := (bc_ BK920.out 0).trans rfl; have hcz12_1 : w9.cell? ⟨gb920, 1, none⟩ = some (.string a1_1) := (bc_ BK920.out 1).trans rfl; have hcz12_2 : w9.cell? ⟨gb920, 2, none⟩ = some (.string a1_2) := (bc_ BK920.out 2).trans rfl; have hcz12_3 : w9.cell? ⟨gb920, 3, none⟩ = some (.int .u8 a1_3) := (bc_ BK920.out 3).trans rfl; have hcz12_4 : w9.cell? ⟨gb920, 4, none⟩ = some (.int .i64 a1_4) := (bc_ BK920.out 4).trans rfl; have hcz12_5 : w9.cell? ⟨gb920, 5, none⟩ = some (.int .i64 a1_5) := (bc_ BK920.out 5).trans rfl; have hcz12_6 : w9.cell? ⟨gb920, 6, none⟩ = some (.int .i64 a1_6) := (bc_ BK920.out 6).trans rfl; have hcz12_7 : w9.cell? ⟨gb920, 7, none⟩ = some (.int .i64 a1_7) := (bc_ BK920.out 7).trans rfl; have hcz12_8 : w9.cell? ⟨gb920, 8, none⟩ = some (.slice A1_8 l1_8.length c1_8) := (bc_ BK920.out 8).trans rfl; have hfz12_0 := bf_ BK920.out 0; have hfz12_1 := bf_ BK920.out 1; have hfz12_2 := bf_ BK920.out 2; have hfz12_3 := bf_ BK920.out 3; have hfz12_4 := bf_ BK920.out 4; have hfz12_5 := bf_ BK920.out 5; have hfz12_6 := bf_ BK920.out 6; have hfz12_7 := bf_ BK920.out 7; have hfz12_8 := bf_ BK920.out 8) | (go_at_call 72; (with_reducible refine (bytes_Equal.calls _ _ l0_8 _ _ l1_8 t921 _ ?side1 ?side2 ?side3 ?side4 A7.out).mono ?_); (case side1 => exact wc_ (Kd.C_below HR0_8.out HB.out)); (case side2 => exact HC0_8.out); (case side3 => exact wc_ (Kd.C_below HR1_8.out HB.out)); (case side4 => exact HC1_8.out); rintro e w' ⟨rfl, ⟨nd, rfl⟩⟩))
 go_ret
 exact ⟨we_, wb2_ HB.out GE919.out GE920.out⟩
end Go.Proofs.YtfmphccoeinhcaaDoor.Print

namespace Go.Proofs.YtfmphccoeinhcaaDoor
open Go.RowKit Go.Proofs.YtfmphccoeinhcaaDoor.Print Go.Proofs.YtfmphccoeinhcaaDoorW.PrintWords
theorem equal_chain (a b : Node) {r : Option Bool} (h : r = some ((strOfNums a.f5).toList == (strOfNums b.f5).toList)) : (if a.f0.toList = b.f0.toList then (if a.f3 = b.f3 then (if (a.f4.f0 == b.f4.f0 && (a.f4.f1 == b.f4.f1 && (a.f4.f2 == b.f4.f2 && (a.f4.f3 == b.f4.f3)))) = true then (if a.f1.toList = b.f1.toList then r else (some false)) else (some false)) else (some false)) else (some false)) = some (equalB a b) := by
 subst h
 unfold equalB
 by_cases h0 : a.f0.toList = b.f0.toList
 ·rw [if_pos h0]
  by_cases h1 : a.f3 = b.f3
  ·rw [if_pos h1]
   by_cases h2 : (a.f4.f0 == b.f4.f0 && (a.f4.f1 == b.f4.f1 && (a.f4.f2 == b.f4.f2 && (a.f4.f3 == b.f4.f3)))) = true
   ·rw [if_pos h2]
    simp only [Bool.and_eq_true, beq_iff_eq] at h2
    by_cases h3 : a.f1.toList = b.f1.toList
    ·rw [if_pos h3]
     congr 1
     rw [Bool.eq_iff_iff, beq_iff_eq, decide_eq_true_iff]
     exact ⟨fun h => ⟨h0, h1, h2.1, h2.2.1, h2.2.2.1, h2.2.2.2, h3, h⟩, fun h => h.2.2.2.2.2.2.2⟩
    ·rw [if_neg h3, decide_eq_false]
     exact fun h => h3 h.2.2.2.2.2.2.1
   ·rw [if_neg h2, decide_eq_false]
    intro h
    apply h2
    simp only [Bool.and_eq_true, beq_iff_eq]
    exact ⟨h.2.2.1, h.2.2.2.1, h.2.2.2.2.1, h.2.2.2.2.2.1⟩
  ·rw [if_neg h1, decide_eq_false]
   exact fun h => h1 h.2.1
 ·rw [if_neg h0, decide_eq_false]
  exact fun h => h0 h.1
theorem tequal_f (a b : Node) : tree_Equal.f a.f0 a.f1 a.f2 a.f3 a.f4.f0 a.f4.f1 a.f4.f2 a.f4.f3 a.f5 b.f0 b.f1 b.f2 b.f3 b.f4.f0 b.f4.f1 b.f4.f2 b.f4.f3 b.f5 = some (equalB a b) := by
 unfold tree_Equal.f
 exact equal_chain a b (by unfold bytes_Equal.f; rfl)
end Go.Proofs.YtfmphccoeinhcaaDoor

namespace Go.Proofs.YtfmphccoeinhcaaDoor
open Go.RowKit Go.Maps Go.Proofs.YtfmphccoeinhcaaDoor.Print Go.Proofs.YtfmphccoeinhcaaDoorW.PrintWords Go.Proofs.YtfmphccoeinhcaaDoorW.PrintLast Go.Proofs.YtfmphccoeinhcaaDoorW.PrintMore
set_option linter.unusedVariables false
set_option linter.unusedSimpArgs false
def PathsZ (ps : List ByteArray) : Prop := ps.length ≤ 10000 ∧ ∀ p ∈ ps, p.size ≤ 140737488351232
theorem keep_len (t : List Node) : ∀ (ps : List ByteArray) (s : PL), (ps.foldl (keepStep t) s).length ≤ s.length + ps.length
 | [], s => Nat.le_refl _
 | p :: ps, s => by
  rw [List.foldl_cons]
  have h := keep_len t ps (keepStep t s p)
  have h2 : (keepStep t s p).length ≤ s.length + 1 := by
   unfold keepStep
   split
   ·exact putE_len _ _
   ·omega
  rw [List.length_cons]
  omega
def KRel (t : List Node) (ps : List ByteArray) (W : World) (g d1 d2 : Nat) (i : Int) (wr : World) : Prop :=
 0 ≤ i ∧ i ≤ ps.length ∧ (∃ n, n ≤ i.toNat ∧ PileAt wr W.heap.size g d1 d2 n (keepPile t (ps.take i.toNat))) ∧ Below W.heap.size W wr
set_option maxRecDepth 100000 in
set_option maxHeartbeats 8000000 in
theorem Keep_calls (A0 : Option Addr) (c0 : Nat) (t : List Node) (A1 : Option Addr) (c1 : Nat) (ps : List ByteArray) (W : World) (hT : Tabs W) (hC : Kd.C k38 W A0 t.length t) (hc0 : t.length ≤ c0) (hD : Kd.C Kd.string W A1 ps.length ps) (hz : TreeZ t) (hp : PathsZ ps) :
  Calls Tryd.prog 36 #[.slice A0 t.length c0, .slice A1 ps.length c1] W fun e W' => ∃ v, e = .returned (.tuple #[v, .int .i64 (keepF t ps).2]) ∧ Kd.V k38 38 W' W.heap.size (fun k => W.heap.size ≤ k) v (keepF t ps).1 ∧ Below W.heap.size W W' := by
 have HT := Aside0.mk hT
 have HC := Aside0.mk hC
 have HCC := Aside0.mk hc0
 have HD := Aside0.mk hD
 have HZ := Aside0.mk hz
 have HPZ := Aside0.mk hp
 have hlen : (ps.length : Int) ≤ 10000 := by have := hp.1; omega
 clear hT hC hc0 hD hz hp
 generalize hpost : (fun (e : Ending) (W' : World) => ∃ v, e = .returned (.tuple #[v, .int .i64 (keepF t ps).2]) ∧ Kd.V k38 38 W' W.heap.size (fun k => W.heap.size ≤ k) v (keepF t ps).1 ∧ Below W.heap.size W W') = Q
 have hQ := Aside0.mk hpost
 clear hpost
 cases hg : goodTree t with
 | false =>
  have HG := Aside0.mk hg
  clear hg
  go_enter Tryd.func36, Tryd.ntmps36
  go_wp2_with (first
   | (go_at_call 42; refine (Good_calls A0 c0 t _ HT.out HC.out HCC.out HZ.out.2).mono ?_; rintro e w2 ⟨rfl, hb2⟩; rw [HG.out]; have HB2 := Aside0.mk hb2; clear hb2)
   | fail)
  rw [← hQ.out]
  have hu : keepF t ps = ([], 1) := by unfold keepF; rw [HG.out]; rfl
  rw [hu]
  exact ⟨_, rfl, Kd.V_nil _ _ _ _ _, HB2.out⟩
 | true =>
  have HG := Aside0.mk hg
  clear hg
  go_enter Tryd.func36, Tryd.ntmps36
  go_wp2_with (first
   | (go_at_call 42; refine (Good_calls A0 c0 t _ HT.out HC.out HCC.out HZ.out.2).mono ?_; rintro e w2 ⟨rfl, hb2⟩; rw [HG.out]; have HB2 := Aside0.mk hb2; clear hb2)
   | (go_at_call 27; refine (New_calls W.heap.size _ HB2.out.size).mono ?_; rintro e w1 ⟨g, d1, d2, rfl, hP1, hB1⟩; have HP1 := Aside0.mk hP1; have HB1 := Aside0.mk (HB2.out.trans (hB1.mono HB2.out.size)); clear hP1 hB1))
  have HST : Aside0 (KRel t ps W g d1 d2 0 w1) := ⟨⟨by omega, by omega, ⟨0, by omega, HP1.out⟩, HB1.out⟩⟩
  clear HP1 HB1 HB2
  go_loopw [17] (fun i wr => ∃ n : Int, i = .int .i64 n ∧ Aside0 (KRel t ps W g d1 d2 n wr)) (fun i _ => (ps.length - (intOf i)).toNat)
  case atStart => exact ⟨0, rfl, HST⟩
  case round =>
   obtain ⟨i, rfl, HR⟩ := hrel
   have h0 := HR.out.1
   have h1 := HR.out.2.1
   obtain ⟨m, hm, hP⟩ := HR.out.2.2.1
   have HP := Aside0.mk hP
   have HM := Aside0.mk hm
   have HB := Aside0.mk HR.out.2.2.2
   clear hP hm
   by_cases hlt : i < (ps.length : Int)
   ·have c1b : decide (i < (ps.length : Int)) = true := decide_eq_true hlt
    have hil : i.toNat < ps.length := by omega
    obtain ⟨ad, hA, x0⟩ := Kd.at_string HD.out i h0 hlt
    have hx : rdOf ByteArray.empty ps i = ps[i.toNat] := by
     unfold rdOf
     rw [List.getD_eq_getElem?_getD, List.getElem?_eq_getElem hil]
     rfl
    rw [hx] at x0
    subst hA
    replace x0 := fkeep HB.out x0
    have htk := List.take_succ_eq_append_getElem hil
    have hpm : ps[i.toNat] ∈ ps := List.getElem_mem _
    generalize ps[i.toNat] = p at x0 htk hpm
    have HTK := Aside0.mk htk
    have HPM := Aside0.mk (HPZ.out.2 p hpm)
    clear htk hpm hx
    have e1 : (i + 1).toNat = i.toNat + 1 := by omega
    have HE1 := Aside0.mk e1
    clear e1
    have hks : keepPile t (ps.take (i.toNat + 1)) = keepStep t (keepPile t (ps.take i.toNat)) p := by
     unfold keepPile
     rw [HTK.out, List.foldl_append]
     rfl
    have HKS := Aside0.mk hks
    clear hks
    cases hf : findF t p with
    | none =>
     have HF := Aside0.mk hf
     clear hf
     go_upto_region 8 with (first
      | (go_at_call 54; refine (Find_calls A0 c0 t p _ (Kd.C_below HC.out HB.out) (good_parts HG.out).1 HZ.out.2.1).mono ?_; rintro e w2 ⟨x, b, v, hm, rfl, hR, hB2⟩; rw [HF.out] at hm; obtain ⟨rfl, rfl⟩ := hm; obtain ⟨A8, c8, rfl, hl8, hC8⟩ := Kd.R_reads hR; have HB2 := Aside0.mk hB2; clear hR hB2 hl8 hC8 x0; unfold nodeCells)
      | fail)
     generalize hw3 : World.alloc w2 _ = w3
     have hb3 : Below w2.heap.size w2 w3 := by rw [← hw3]; exact below_alloc (Below.refl _ _) _
     have HB3 := Aside0.mk hb3
     clear hw3 hb3
     go_wp2
     have hfin : KRel t ps W g d1 d2 (i + 1) w3 := by
      refine ⟨by omega, by omega, ⟨m, by have := HM.out; rw [HE1.out]; omega, ?_⟩, HB.out.trans ((HB2.out.trans (HB3.out.mono HB2.out.size)).mono HB.out.size)⟩
      rw [HE1.out, HKS.out]
      unfold keepStep
      rw [HF.out]
      exact (HP.out.below HB2.out).below HB3.out
     have HFIN := Aside0.mk hfin
     clear hfin
     go_roundw
     case rel => exact ⟨i + 1, by go_num, HFIN⟩
     case measure => simp [intOf]; omega
    | some y =>
     have HF := Aside0.mk hf
     have HYZ := Aside0.mk (HZ.out.2.1.2 y (findF_mem hf).1)
     clear hf
     go_upto_region 8 with (first
      | (go_at_call 54; refine (Find_calls A0 c0 t p _ (Kd.C_below HC.out HB.out) (good_parts HG.out).1 HZ.out.2.1).mono ?_; rintro e w2 ⟨x, b, v, hm, rfl, hR, hB2⟩; rw [HF.out] at hm; obtain ⟨rfl, rfl⟩ := hm; obtain ⟨A8, c8, rfl, hl8, hC8⟩ := Kd.R_reads hR; have HB2 := Aside0.mk hB2; have HC8 := Aside0.mk hC8; clear hR hB2 hl8 hC8 x0; unfold nodeCells)
      | fail)
     go_wp2_with (first
      | (go_at_call 28; refine (Put_calls W.heap.size g d1 d2 m (keepPile t (ps.take i.toNat)) 0 x A8 c8 p _ ((HP.out.below HB2.out).below (below_alloc (Below.refl _ _) _)) (by have := HM.out; omega) ⟨HPM.out, HYZ.out, wf_small (i := 0) (by omega) (by omega)⟩ (Kd.C_alloc HC8.out _) (Nat.le_trans (Nat.le_trans HB.out.size HB2.out.size) (by rw [World.size_alloc]; omega))).mono ?_; rintro e w3 ⟨rfl, hP4, hB4⟩; have HP4 := Aside0.mk hP4; have HB4 := Aside0.mk (((HB.out.trans (HB2.out.mono HB.out.size)).alloc (Nat.le_trans HB.out.size HB2.out.size) _).trans hB4); clear hP4 hB4)
      | fail)
     have hfin : KRel t ps W g d1 d2 (i + 1) w3 := by
      refine ⟨by omega, by omega, ⟨m + 1, by have := HM.out; rw [HE1.out]; omega, ?_⟩, HB4.out⟩
      rw [HE1.out, HKS.out]
      unfold keepStep
      rw [HF.out]
      exact HP4.out
     have HFIN := Aside0.mk hfin
     clear hfin
     go_roundw
     case rel => exact ⟨i + 1, by go_num, HFIN⟩
     case measure => simp [intOf]; omega
   ·have c1b : decide (i < (ps.length : Int)) = false := decide_eq_false hlt
    have hend : i = ps.length := by omega
    have hP : PileAt wr W.heap.size g d1 d2 m (keepPile t ps) := by
     have := HP.out
     rw [hend, Int.toNat_natCast, List.take_length] at this
     exact this
    have HP9 := Aside0.mk hP
    have HL9 : Aside0 ((keepPile t ps).length ≤ 1000000) := ⟨by have := keep_len t ps []; unfold keepPile; have h2 := HPZ.out.1; simp at this; omega⟩
    have hu : keepF t ps = (treeE (keepPile t ps), 0) := by unfold keepF; rw [if_pos HG.out]
    have HU := Aside0.mk hu
    clear hu hP hend
    go_wp2_with (first
     | (go_at_call 30; refine (Tree_calls W.heap.size g d1 d2 m (keepPile t ps) _ HP9.out HL9.out).mono ?_; rintro e w4 ⟨v, rfl, hN4, hb4⟩; have HN4 := Aside0.mk hN4; have HB4 := Aside0.mk hb4; obtain ⟨Av, cv, rfl⟩ := Kd.N_slice hN4; clear hN4 hb4)
     | fail)
    rw [← hQ.out, HU.out]
    exact ⟨_, rfl, Kd.V_lower (Kd.N_V (base' := W.heap.size) (Kd.N_mono HN4.out (fun k hk => by have := HB.out.size; omega))) (Nat.le_refl _), HB.out.trans (HB4.out.mono HB.out.size)⟩
theorem infoStrS : (Tryd.prog.info? 9).map (fun i => (i.zero, i.size, i.bytes)) = some (some (.string ⟨#[]⟩), 1, 16) := by kernel_rfl
def SRel (a b : List Node) (whole : Bool) (W : World) (i : Int) (v : Value) (wr : World) : Prop :=
 0 ≤ i ∧ i ≤ a.length ∧ Kd.R Kd.string 9 wr W.heap.size (fun _ => True) v (subPaths (a.take i.toNat) b whole) ∧ Below W.heap.size W wr
theorem sub_len (a b : List Node) (whole : Bool) : (subPaths a b whole).length ≤ a.length := by
 unfold subPaths
 rw [List.length_map]
 exact List.length_filter_le _ _
theorem sub_snoc (a b : List Node) (whole : Bool) (x : Node) : subPaths (a ++ [x]) b whole = subPaths a b whole ++ (if leftB b whole x = true then [x.f0] else []) := by
 unfold subPaths
 rw [List.filter_append, List.map_append]
 congr 1
 by_cases h : leftB b whole x = true
 ·rw [if_pos h, List.filter_cons_of_pos h]; rfl
 ·rw [if_neg h, List.filter_cons_of_neg h]; rfl
theorem node_box {w : World} {b : Nat} {t : TypeId} {x : Node} {v : Value} (h : w.heap[b]? = some (.cells (nodeCells x v) t (0, 0))) :
  w.cell? ⟨b, 0, none⟩ = some (.string x.f0) ∧ w.cell? ⟨b, 1, none⟩ = some (.string x.f1) ∧ w.cell? ⟨b, 2, none⟩ = some (.string x.f2) ∧ w.cell? ⟨b, 3, none⟩ = some (.int .u8 x.f3) ∧ w.cell? ⟨b, 4, none⟩ = some (.int .i64 x.f4.f0) ∧ w.cell? ⟨b, 5, none⟩ = some (.int .i64 x.f4.f1) ∧ w.cell? ⟨b, 6, none⟩ = some (.int .i64 x.f4.f2) ∧ w.cell? ⟨b, 7, none⟩ = some (.int .i64 x.f4.f3) ∧ w.cell? ⟨b, 8, none⟩ = some v := by
 refine ⟨?_, ?_, ?_, ?_, ?_, ?_, ?_, ?_, ?_⟩ <;> · unfold World.cell?; dsimp only; rw [h]; rfl
set_option maxRecDepth 100000 in
set_option maxHeartbeats 8000000 in
theorem Sub_calls (A0 : Option Addr) (c0 : Nat) (a : List Node) (A1 : Option Addr) (c1 : Nat) (b : List Node) (whole : Bool) (W : World) (hT : Tabs W) (hC : Kd.C k38 W A0 a.length a) (hc0 : a.length ≤ c0) (hD : Kd.C k38 W A1 b.length b) (hc1 : b.length ≤ c1) (hz : TreeZ a) (hzb : TreeZ b) :
  Calls Tryd.prog 38 #[.slice A0 a.length c0, .slice A1 b.length c1, .bool whole] W fun e W' => ∃ v, e = .returned (.tuple #[v, .int .i64 (subF a b whole).2]) ∧ Kd.V k38 38 W' W.heap.size (fun k => W.heap.size ≤ k) v (subF a b whole).1 ∧ Below W.heap.size W W' := by
 have HT := Aside0.mk (fun (w1 : World) (hb : Below W.heap.size W w1) => Tabs.below hT hb)
 have HTW := Aside0.mk hT
 have HC := Aside0.mk hC
 have HCC := Aside0.mk hc0
 have HD := Aside0.mk hD
 have HDC := Aside0.mk hc1
 have HZ := Aside0.mk hz
 have HZB := Aside0.mk hzb
 have hlen : (a.length : Int) ≤ 10000 := by have := hz.1; omega
 clear hT hC hc0 hD hc1 hz hzb
 generalize hpost : (fun (e : Ending) (W' : World) => ∃ v, e = .returned (.tuple #[v, .int .i64 (subF a b whole).2]) ∧ Kd.V k38 38 W' W.heap.size (fun k => W.heap.size ≤ k) v (subF a b whole).1 ∧ Below W.heap.size W W') = Q
 have hQ := Aside0.mk hpost
 clear hpost
 by_cases hgg : goodTree a = true ∧ goodTree b = true
 ·have HGA := Aside0.mk hgg.1
  have HGB := Aside0.mk hgg.2
  clear hgg
  go_enter Tryd.func38, Tryd.ntmps38
  go_wp2_with (first
   | (go_at_call_of 42 (Value.slice A0 a.length c0); refine (Good_calls A0 c0 a _ HTW.out HC.out HCC.out HZ.out.2).mono ?_; rintro e w2 ⟨rfl, hb2⟩; rw [HGA.out]; have HB2 := Aside0.mk hb2; clear hb2)
   | (go_at_call 42; refine (Good_calls A1 c1 b _ (HT.out _ HB2.out) (Kd.C_below HD.out HB2.out) HDC.out HZB.out.2).mono ?_; rintro e w3 ⟨rfl, hb3⟩; rw [HGB.out]; have HB3 := Aside0.mk (HB2.out.trans (hb3.mono HB2.out.size)); clear hb3)
   )
  have HST : Aside0 (SRel a b whole W 0 (.slice none 0 0) w3) := ⟨⟨by omega, by omega, Kd.R_nil _ _ _ _ _, HB3.out⟩⟩
  clear HB3 HB2
  go_loopw [23, 8] (fun i v wr => ∃ n : Int, i = .int .i64 n ∧ Aside0 (SRel a b whole W n v wr)) (fun i _ _ => (a.length - (intOf i)).toNat)
  case atStart => exact ⟨0, rfl, HST⟩
  case round =>
   obtain ⟨i, rfl, HR⟩ := hrel
   have h0 := HR.out.1
   have h1 := HR.out.2.1
   have hRv := HR.out.2.2.1
   have HB := Aside0.mk HR.out.2.2.2
   obtain ⟨Ap, cp, rfl⟩ := Kd.R_slice hRv
   have HRV := Aside0.mk hRv
   clear hRv
   by_cases hlt : i < (a.length : Int)
   ·have c1b : decide (i < (a.length : Int)) = true := decide_eq_true hlt
    have hil : i.toNat < a.length := by omega
    obtain ⟨ad, Ax, cx, rfl, x0, x1, x2, x3, x4, x5, x6, x7, x8, hlx, hCx⟩ := at_T38 (Kd.C_below HC.out HB.out) i h0 hlt
    have htk := List.take_succ_eq_append_getElem hil
    rw [← rdN_at a i h0 hlt] at htk
    generalize rd_T38 a i = x at htk x0 x1 x2 x3 x4 x5 x6 x7 x8 hlx hCx
    have HTK := Aside0.mk htk
    have HLX := Aside0.mk hlx
    have HCX := Aside0.mk hCx
    clear htk hlx hCx
    go_upto_region 7 with (fail)
    have f4 : ∃ w4 b4, w4 = wr.alloc (.cells #[.string x.f0, .string x.f1, .string x.f2, .int .u8 x.f3, .int .i64 x.f4.f0, .int .i64 x.f4.f1, .int .i64 x.f4.f2, .int .i64 x.f4.f3, .slice Ax x.f5.length cx] 38) ∧ b4 = wr.heap.size ∧ Below wr.heap.size wr w4 ∧ w4.heap[b4]? = some (.cells (nodeCells x (.slice Ax x.f5.length cx)) 38 (0, 0)) :=
     ⟨_, _, rfl, rfl, below_alloc (Below.refl _ _) _, blk_new _ _⟩
    obtain ⟨w4, b4, e4, eb4, hb4, hn4⟩ := f4
    rw [← e4, ← eb4]
    have HB4 := Aside0.mk hb4
    have HN4 := Aside0.mk hn4
    have HBW4 := Aside0.mk (HB.out.trans (hb4.mono HB.out.size))
    obtain ⟨k0, k1, k2, k3, k4, k5, k6, k7, k8⟩ := node_box hn4
    clear e4 eb4 hb4 hn4 x0 x1 x2 x3 x4 x5 x6 x7 x8
    cases hf : findF b x.f0 with
    | none =>
     have HF := Aside0.mk hf
     clear hf
     go_upto_region 8 with (first
      | (go_at_call 54; refine (Find_calls A1 c1 b x.f0 _ (Kd.C_below HD.out HBW4.out) (good_parts HGB.out).1 HZB.out.2.1).mono ?_; rintro e w5 ⟨y, b', v, hm, rfl, hR, hB5⟩; rw [HF.out] at hm; obtain ⟨rfl, rfl⟩ := hm; obtain ⟨A8, c8, rfl, hl8, hC8⟩ := Kd.R_reads hR; have HB5 := Aside0.mk hB5; clear hR hB5 hl8 hC8 k0 k1 k2 k3 k4 k5 k6 k7 k8; unfold nodeCells)
      | fail)
     generalize hw6 : World.alloc w5 _ = w6
     have hb6 : Below w5.heap.size w5 w6 := by rw [← hw6]; exact below_alloc (Below.refl _ _) _
     have HB6 := Aside0.mk (HB5.out.trans (hb6.mono HB5.out.size))
     clear hw6 hb6
     have hleft : leftB b whole x = true := by unfold leftB; rw [HF.out]
     have HLEFT := Aside0.mk hleft
     clear hleft
     obtain ⟨k0, k1, k2, k3, k4, k5, k6, k7, k8⟩ := node_box ((HB6.out.block b4 (blk_lt' HN4.out)).trans HN4.out)
     have HBW := Aside0.mk (HBW4.out.trans (HB6.out.mono HBW4.out.size))
     have hRw := Kd.R_below (Kd.R_below HRV.out HB4.out) HB6.out
     have hpl : (subPaths (a.take i.toNat) b whole).length ≤ 10000 := by have := sub_len (a.take i.toNat) b whole; have := HZ.out.1; rw [List.length_take] at *; omega
     generalize hpe : subPaths (a.take i.toNat) b whole = ps at hRw hpl ⊢
     have HRW := Aside0.mk hRw
     have HPE := Aside0.mk hpe
     have HPL := Aside0.mk hpl
     clear hRw hpe hpl
     go_wp2_with (first
      | (at_builtin; refine Kd.R_append Kd.string (w0 := W) (W := w6) W.heap.size rfl _ _ 67 9 (.string ⟨#[]⟩) 16 rfl Tryd.underlying67 infoStrS rfl (by decide) (by decide) (.slice Ap ps.length cp) ps x.f0 [.string x.f0] (fun _ => True) (fun _ => False) rfl rfl rfl (fun _ h => h.elim) (fun _ _ => trivial) HRW.out HBW.out HBW.out.size (by have := HPL.out; omega) ?_; intro v9 w9 hR9 hB9 hg9 hat9; have HR9 := Aside0.mk hR9; have HB9 := Aside0.mk hB9; clear hR9 hB9 hg9 hat9)
      | fail)
     have hfin : SRel a b whole W (i + 1) v9 w9 := by
      have e1 : (i + 1).toNat = i.toNat + 1 := by omega
      refine ⟨by omega, by omega, ?_, HB9.out⟩
      rw [e1, HTK.out, sub_snoc, if_pos HLEFT.out, HPE.out]
      exact HR9.out
     have HFIN := Aside0.mk hfin
     clear hfin
     go_roundw
     case rel => exact ⟨i + 1, by go_num, HFIN⟩
     case measure => simp [intOf]; omega
    | some y0 =>
     have HF := Aside0.mk hf
     clear hf
     go_upto_region 8 with (first
      | (go_at_call 54; refine (Find_calls A1 c1 b x.f0 _ (Kd.C_below HD.out HBW4.out) (good_parts HGB.out).1 HZB.out.2.1).mono ?_; rintro e w5 ⟨y, b', v, hm, rfl, hR, hB5⟩; rw [HF.out] at hm; obtain ⟨rfl, rfl⟩ := hm; obtain ⟨A8, c8, rfl, hl8, hC8⟩ := Kd.R_reads hR; have HB5 := Aside0.mk hB5; have HL8 := Aside0.mk hl8; have HC8 := Aside0.mk hC8; clear hR hB5 hl8 hC8 k0 k1 k2 k3 k4 k5 k6 k7 k8; unfold nodeCells)
      | fail)
     have f6 : ∃ w6 b6, w6 = w5.alloc (.cells #[.string y.f0, .string y.f1, .string y.f2, .int .u8 y.f3, .int .i64 y.f4.f0, .int .i64 y.f4.f1, .int .i64 y.f4.f2, .int .i64 y.f4.f3, .slice A8 y.f5.length c8] 38) ∧ b6 = w5.heap.size ∧ Below w5.heap.size w5 w6 ∧ w6.heap[b6]? = some (.cells (nodeCells y (.slice A8 y.f5.length c8)) 38 (0, 0)) :=
      ⟨_, _, rfl, rfl, below_alloc (Below.refl _ _) _, blk_new _ _⟩
     obtain ⟨w6, b6, e6, eb6, hb6, hn6⟩ := f6
     rw [← e6, ← eb6]
     have HB6 := Aside0.mk (HB5.out.trans (hb6.mono HB5.out.size))
     have HB56 := Aside0.mk hb6
     have HN6 := Aside0.mk hn6
     clear e6 eb6 hb6 hn6
     cases whole with
     | false =>
      have hleft : leftB b false x = false := by unfold leftB; rw [HF.out]; rfl
      have HLEFT := Aside0.mk hleft
      clear hleft
      go_wp2
      have hfin : SRel a b false W (i + 1) (.slice Ap (subPaths (a.take i.toNat) b false).length cp) w6 := by
       have e1 : (i + 1).toNat = i.toNat + 1 := by omega
       refine ⟨by omega, by omega, ?_, HBW4.out.trans (HB6.out.mono HBW4.out.size)⟩
       rw [e1, HTK.out, sub_snoc, if_neg (by rw [HLEFT.out]; simp), List.append_nil]
       exact Kd.R_below (Kd.R_below HRV.out HB4.out) HB6.out
      have HFIN := Aside0.mk hfin
      clear hfin
      go_roundw
      case rel => exact ⟨i + 1, by go_num, HFIN⟩
      case measure => simp [intOf]; omega
     | true =>
      obtain ⟨y0, y1, y2, y3, y4, y5, y6, y7, y8⟩ := node_box HN6.out
      obtain ⟨k0, k1, k2, k3, k4, k5, k6, k7, k8⟩ := node_box ((HB6.out.block b4 (blk_lt' HN4.out)).trans HN4.out)
      cases heq : equalB x y with
      | true =>
       have hleft : leftB b true x = false := by unfold leftB; rw [HF.out]; show (true && !equalB x y) = false; rw [heq]; rfl
       have HEQ := Aside0.mk heq
       clear heq
       have HLEFT := Aside0.mk hleft
       clear hleft
       go_wp2_with (first
        | (go_at_call 55; refine (tree_Equal.calls x.f0 x.f1 x.f2 x.f3 x.f4.f0 x.f4.f1 x.f4.f2 x.f4.f3 Ax cx x.f5 y.f0 y.f1 y.f2 y.f3 y.f4.f0 y.f4.f1 y.f4.f2 y.f4.f3 A8 c8 y.f5 (equalB x y) _ (Kd.C_below (Kd.C_below HCX.out HB4.out) HB6.out) HLX.out (Kd.C_below HC8.out HB56.out) HL8.out (tequal_f x y)).mono ?_; rintro e w7 ⟨rfl, hb7⟩; rw [HEQ.out]; have HB7 := Aside0.mk (HB6.out.trans (hb7.mono HB6.out.size)); clear hb7 k0 k1 k2 k3 k4 k5 k6 k7 k8 y0 y1 y2 y3 y4 y5 y6 y7 y8)
        | fail)
       have hfin : SRel a b true W (i + 1) (.slice Ap (subPaths (a.take i.toNat) b true).length cp) w7 := by
        have e1 : (i + 1).toNat = i.toNat + 1 := by omega
        refine ⟨by omega, by omega, ?_, HBW4.out.trans (HB7.out.mono HBW4.out.size)⟩
        rw [e1, HTK.out, sub_snoc, if_neg (by rw [HLEFT.out]; simp), List.append_nil]
        exact Kd.R_below (Kd.R_below HRV.out HB4.out) HB7.out
       have HFIN := Aside0.mk hfin
       clear hfin
       go_roundw
       case rel => exact ⟨i + 1, by go_num, HFIN⟩
       case measure => simp [intOf]; omega
      | false =>
       have hleft : leftB b true x = true := by unfold leftB; rw [HF.out]; show (true && !equalB x y) = true; rw [heq]; rfl
       have HEQ := Aside0.mk heq
       clear heq
       have HLEFT := Aside0.mk hleft
       clear hleft
       go_upto_region 9 with (first
        | (go_at_call 55; refine (tree_Equal.calls x.f0 x.f1 x.f2 x.f3 x.f4.f0 x.f4.f1 x.f4.f2 x.f4.f3 Ax cx x.f5 y.f0 y.f1 y.f2 y.f3 y.f4.f0 y.f4.f1 y.f4.f2 y.f4.f3 A8 c8 y.f5 (equalB x y) _ (Kd.C_below (Kd.C_below HCX.out HB4.out) HB6.out) HLX.out (Kd.C_below HC8.out HB56.out) HL8.out (tequal_f x y)).mono ?_; rintro e w7 ⟨rfl, hb7⟩; rw [HEQ.out]; have HB7 := Aside0.mk (HB6.out.trans (hb7.mono HB6.out.size)); clear hb7 k0 k1 k2 k3 k4 k5 k6 k7 k8 y0 y1 y2 y3 y4 y5 y6 y7 y8)
        | fail)
       obtain ⟨k0, k1, k2, k3, k4, k5, k6, k7, k8⟩ := node_box ((HB7.out.block b4 (blk_lt' HN4.out)).trans HN4.out)
       have HBW := Aside0.mk (HBW4.out.trans (HB7.out.mono HBW4.out.size))
       have hRw := Kd.R_below (Kd.R_below HRV.out HB4.out) HB7.out
       have hpl : (subPaths (a.take i.toNat) b true).length ≤ 10000 := by have := sub_len (a.take i.toNat) b true; have := HZ.out.1; rw [List.length_take] at *; omega
       generalize hpe : subPaths (a.take i.toNat) b true = ps at hRw hpl ⊢
       have HRW := Aside0.mk hRw
       have HPE := Aside0.mk hpe
       have HPL := Aside0.mk hpl
       clear hRw hpe hpl
       go_wp2_with (first
        | (at_builtin; refine Kd.R_append Kd.string (w0 := W) (W := w7) W.heap.size rfl _ _ 67 9 (.string ⟨#[]⟩) 16 rfl Tryd.underlying67 infoStrS rfl (by decide) (by decide) (.slice Ap ps.length cp) ps x.f0 [.string x.f0] (fun _ => True) (fun _ => False) rfl rfl rfl (fun _ h => h.elim) (fun _ _ => trivial) HRW.out HBW.out HBW.out.size (by have := HPL.out; omega) ?_; intro v9 w9 hR9 hB9 hg9 hat9; have HR9 := Aside0.mk hR9; have HB9 := Aside0.mk hB9; clear hR9 hB9 hg9 hat9)
        | fail)
       have hfin : SRel a b true W (i + 1) v9 w9 := by
        have e1 : (i + 1).toNat = i.toNat + 1 := by omega
        refine ⟨by omega, by omega, ?_, HB9.out⟩
        rw [e1, HTK.out, sub_snoc, if_pos HLEFT.out, HPE.out]
        exact HR9.out
       have HFIN := Aside0.mk hfin
       clear hfin
       go_roundw
       case rel => exact ⟨i + 1, by go_num, HFIN⟩
       case measure => simp [intOf]; omega
   ·have c1b : decide (i < (a.length : Int)) = false := decide_eq_false hlt
    have hend : i = a.length := by omega
    have hR9 : Kd.R Kd.string 9 wr W.heap.size (fun _ => True) (.slice Ap (subPaths (a.take i.toNat) b whole).length cp) (subPaths a b whole) := by
     have := HRV.out
     rw [hend, Int.toNat_natCast, List.take_length] at this ⊢
     exact this
    have hpe : (subPaths (a.take i.toNat) b whole).length = (subPaths a b whole).length := by rw [hend, Int.toNat_natCast, List.take_length]
    rw [hpe] at hR9 ⊢
    obtain ⟨_, hcp, hCp⟩ := Kd.R_reads' hR9
    have hpz : PathsZ (subPaths a b whole) := ⟨by have := sub_len a b whole; have := HZ.out.1; omega, fun p hp => by
     unfold subPaths at hp
     obtain ⟨z, hz, rfl⟩ := List.mem_map.1 hp
     exact (HZ.out.2.1.2 z (List.mem_filter.1 hz).1).1⟩
    have HCP := Aside0.mk hCp
    have HPZ := Aside0.mk hpz
    have hu : subF a b whole = keepF a (subPaths a b whole) := by unfold subF; rw [if_pos ⟨HGA.out, HGB.out⟩]
    have HU := Aside0.mk hu
    clear hR9 hpe hcp hCp hpz hu hend
    generalize subPaths a b whole = ps at HCP HPZ HU ⊢
    go_wp2_with (first
     | (go_at_call 36; refine (Keep_calls A0 c0 a Ap cp ps _ (HT.out _ HB.out) (Kd.C_below HC.out HB.out) HCC.out HCP.out HZ.out HPZ.out).mono ?_; rintro e w4 ⟨v, rfl, hV4, hb4⟩; have HV4 := Aside0.mk hV4; have HB4 := Aside0.mk hb4; obtain ⟨Av, cv, rfl⟩ := Kd.V_slice hV4; clear hV4 hb4)
     | fail)
    rw [← hQ.out, HU.out]
    exact ⟨_, rfl, Kd.V_lower (Kd.V_mono HV4.out (fun k hk => Nat.le_trans HB.out.size hk)) HB.out.size, HB.out.trans (HB4.out.mono HB.out.size)⟩
 ·have HGG := Aside0.mk hgg
  have hu : subF a b whole = ([], 1) := by unfold subF; rw [if_neg hgg]
  have HU := Aside0.mk hu
  clear hgg hu
  cases hga : goodTree a with
  | false =>
   have HGA := Aside0.mk hga
   clear hga
   go_enter Tryd.func38, Tryd.ntmps38
   go_wp2_with (first
    | (go_at_call 42; refine (Good_calls A0 c0 a _ HTW.out HC.out HCC.out HZ.out.2).mono ?_; rintro e w2 ⟨rfl, hb2⟩; rw [HGA.out]; have HB2 := Aside0.mk hb2; clear hb2)
    | fail)
   rw [← hQ.out, HU.out]
   exact ⟨_, rfl, Kd.V_nil _ _ _ _ _, HB2.out⟩
  | true =>
   have HGA := Aside0.mk hga
   have HGB : Aside0 (goodTree b = false) := ⟨by cases hb : goodTree b with
    | false => rfl
    | true => exact absurd ⟨HGA.out, hb⟩ HGG.out⟩
   clear hga
   go_enter Tryd.func38, Tryd.ntmps38
   go_wp2_with (first
    | (go_at_call_of 42 (Value.slice A0 a.length c0); refine (Good_calls A0 c0 a _ HTW.out HC.out HCC.out HZ.out.2).mono ?_; rintro e w2 ⟨rfl, hb2⟩; rw [HGA.out]; have HB2 := Aside0.mk hb2; clear hb2)
    | (go_at_call 42; refine (Good_calls A1 c1 b _ (HT.out _ HB2.out) (Kd.C_below HD.out HB2.out) HDC.out HZB.out.2).mono ?_; rintro e w3 ⟨rfl, hb3⟩; rw [HGB.out]; have HB3 := Aside0.mk (HB2.out.trans (hb3.mono HB2.out.size)); clear hb3)
    | fail)
   rw [← hQ.out, HU.out]
   exact ⟨_, rfl, Kd.V_nil _ _ _ _ _, HB3.out⟩
end Go.Proofs.YtfmphccoeinhcaaDoor

namespace Go.Proofs.YtfmphccoeinhcaaDoor
open Go.RowKit Go.Proofs.YtfmphccoeinhcaaDoor.Print Go.Proofs.YtfmphccoeinhcaaDoorW.PrintWords
set_option linter.unusedVariables false
def NodeG (x : Node) : Prop := NodeZ x ∧ x.f0.size ≤ 8000000000000 ∧ x.f1.size ≤ 8000000000000
def EntG (e : PEnt) : Prop := e.path.size ≤ 8000000000000 ∧ NodeG e.node
theorem nodesG_of {t : List Node} (hl : t.length ≤ 10000) (h : ∀ x ∈ t, NodeG x) : NodesG t := ⟨⟨by omega, fun x hx => (h x hx).1⟩, fun x hx => (h x hx).2⟩
theorem treeZ_of {t : List Node} (hl : t.length ≤ 10000) (h : ∀ x ∈ t, NodeG x) : TreeZ t := ⟨hl, nodesG_of hl h⟩
theorem TreeZ.node {t : List Node} (h : TreeZ t) {x : Node} (hx : x ∈ t) : NodeG x := ⟨h.2.1.2 x hx, h.2.2 x hx⟩
theorem treeE_z {s : PL} (h : ∀ e ∈ s, EntG e) (x : Node) (hx : x ∈ treeE s) : NodeG x := by
 obtain ⟨e, he, rfl⟩ := List.mem_map.1 hx
 have hE := h e (sortE_mem.1 he)
 obtain ⟨h1, ⟨h2, h3, h4, h5⟩, h6, h7⟩ := hE
 have hl : (outE (sortE s) e).f2.size ≤ 140737488351232 := by
  unfold outE
  dsimp only
  split
  ·unfold leadE
   split
   ·rename_i q hq
    have := (h q (sortE_mem.1 (List.mem_of_find?_eq_some hq))).1
    omega
   ·show 0 ≤ _
    omega
  ·exact h4
 exact ⟨⟨by show e.path.size ≤ _; omega, h3, hl, h5⟩, h1, h7⟩
theorem mem_keep {t : List Node} : ∀ {ps : List ByteArray} {s : PL} {e : PEnt}, e ∈ ps.foldl (keepStep t) s → e ∈ s ∨ ∃ x ∈ t, e.path = x.f0 ∧ e.node = x := by
 intro ps
 induction ps with
 | nil => intro s e h; exact .inl h
 | cons p ps ih =>
  intro s e h
  rw [List.foldl_cons] at h
  rcases ih h with h1 | h1
  ·unfold keepStep at h1
   split at h1
   ·rename_i x hf
    obtain ⟨hx, hp⟩ := findF_mem hf
    rcases putE_sub h1 with ⟨h2, _⟩ | rfl
    ·exact .inl h2
    ·exact .inr ⟨x, hx, hp.symm, rfl⟩
   ·exact .inl h1
  ·exact .inr h1
theorem keep_z {t : List Node} (h : TreeZ t) (ps : List ByteArray) : TreeZ (keepF t ps).1 := by
 unfold keepF
 split
 ·rename_i hg
  have hl : (keepPile t ps).length ≤ t.length := ents_sub (keep_nodup t ps List.nodup_nil) (good_parts hg).1 (fun e he => by
   rcases mem_keep he with h1 | ⟨x, hx, h1, _⟩
   ·cases h1
   ·exact ⟨x, hx, h1.symm⟩)
  refine treeZ_of (by rw [treeE_len]; have := h.1; omega) (treeE_z (fun e he => ?_))
  rcases mem_keep he with h1 | ⟨x, hx, h1, h2⟩
  ·cases h1
  ·have := h.node hx
   exact ⟨by rw [h1]; exact this.2.1, by rw [h2]; exact this⟩
 ·exact treeZ_of (by simp) (fun x hx => by cases hx)
theorem sub_z {a : List Node} (h : TreeZ a) (b : List Node) (whole : Bool) : TreeZ (subF a b whole).1 := by
 unfold subF
 split
 ·exact keep_z h _
 ·exact treeZ_of (by simp) (fun x hx => by cases hx)
theorem equalB_same (x : Node) : equalB x x = true := by unfold equalB; simp
structure PartsOk (a b : List Node) (w : Bool) (left gone both : List Node) : Prop where
 lens : left.length + gone.length = a.length
 len : both.length = a.length
 each : ∀ (i : Nat) (h : i < a.length) (h2 : i < both.length), equalB a[i] both[i] = true
theorem sub_self {a : List Node} (ga : goodTree a = true) (w : Bool) : (subF a a w).1 = [] := by
 have e : subPaths a a w = [] := by
  unfold subPaths
  rw [List.map_eq_nil_iff, List.filter_eq_nil_iff]
  intro x hx
  unfold leftB
  rw [findF_here (good_parts ga).1 hx]
  simp [equalB_same]
 unfold subF
 rw [if_pos ⟨ga, ga⟩, e]
 unfold keepF
 rw [if_pos ga]
 rfl
end Go.Proofs.YtfmphccoeinhcaaDoor

namespace Go.Proofs.YtfmphccoeinhcaaDoor.Print
open Go.RowKit Go.Proofs.YtfmphccoeinhcaaDoorW.PrintWords Go.Proofs.YtfmphccoeinhcaaDoorW.PrintLast Go.Proofs.YtfmphccoeinhcaaDoorW.PrintMore
attribute [local go_sem] max2_int min2_int max_two min_two max_three min_three max_four min_four   -- for this text's walks alone
set_option linter.unusedVariables false
set_option linter.unusedSimpArgs false
mutual
def bindlelaw20_light.l0 : Nat → List (List (S38)) → Int → Int → Option (Bool)
 | 0, _, _, _ => none
 | k + 1, x0, x3, x4 => if x4 < (x0.length : Int) then (bindlelaw20_light.l1 k x0 x3 x4 0) else (some (decide (x3 ≤ 200000)))
def bindlelaw20_light.l1 : Nat → List (List (S38)) → Int → Int → Int → Option (Bool)
 | 0, _, _, _, _ => none
 | k + 1, x0, x3, x4, x5 => if 0 ≤ x4 then (if x4 < (x0.length : Int) then (if x5 < ((rd_L9 x0 x4).length : Int) then (if x5 < 61 then (if 0 ≤ x5 then (bindlelaw20_light.l1 k x0 (wrap64 ((wrap64 ((wrap64 (x3 + (((rd_T38 (rd_L9 x0 x4) x5).f5).length : Int))) + (((rd_T38 (rd_L9 x0 x4) x5).f0).size : Int))) + (((rd_T38 (rd_L9 x0 x4) x5).f1).size : Int))) x4 (wrap64 (x5 + 1))) else (none)) else (if ((rd_L9 x0 x4).length : Int) > 60 then (some false) else (bindlelaw20_light.l0 k x0 x3 (wrap64 (x4 + 1))))) else (if ((rd_L9 x0 x4).length : Int) > 60 then (some false) else (bindlelaw20_light.l0 k x0 x3 (wrap64 (x4 + 1))))) else (none)) else (none)
end
def bindlelaw20_light.f (k : Nat) (l0 : List (List (S38))) : Option (Bool) := bindlelaw20_light.l0 k l0 0 0
set_option maxHeartbeats 8000000 in
set_option maxRecDepth 100000 in
theorem bindlelaw20_light.calls (k : Nat) (A0 : Option Addr) (c0 : Nat) (l0 : List (List (S38))) (r : Bool) (w : World) (hr0 : Kd.C (Kd.slice 38 k38) w A0 l0.length l0) (hc0 : l0.length ≤ c0) (h : bindlelaw20_light.f k l0 = some r) :
  Calls Tryd.prog 34 #[.slice A0 l0.length c0] w fun e w' => e = .returned (.bool r) ∧ Drawn0 w w' := by
 have HR0 := A0_ hr0
 have HC0 := A0_ hc0
 clear hr0 hc0
 have H : (bindlelaw20_light.l0 k l0 0 0) = some r := h
 clear h
 have H' := A0_ H
 clear H
 go_enter Tryd.func34, Tryd.ntmps34
 go_wp2
 repeat (go_quiet (fail); try go_wp2)
 go_loopg [3, 4] k (fun kq v3 v4 w' => ∃ (x3_1 : Int) (x4_1 : Int), v3 = .int .i64 x3_1 ∧ v4 = .int .i64 x4_1 ∧ Aside0 (bindlelaw20_light.l0 kq l0 x3_1 x4_1 = some r) ∧ Aside0 (kq ≤ k) ∧ Drawn0 w w')
 case atStart => exact ⟨(0), (0), wr_, wr_, H', ⟨Nat.le_refl _⟩, by repeat (first | exact Drawn0.refl _ | apply Drawn0.step)⟩
 case round =>
  clear H'
  obtain ⟨x3_1, x4_1, rfl, rfl, HA, HK1, ⟨m1, rfl⟩⟩ := hrel
  cases gk with
  | zero => exact absurd HA.out (by simp [bindlelaw20_light.l0])
  | succ k1 =>
   have H := HA.out
   clear HA
   simp only [bindlelaw20_light.l0] at H
   by_cases c2 : x4_1 < (l0.length : Int)
   rotate_left
   ·rw [if_neg c2] at H
    have c2b0 : decide (x4_1 < (l0.length : Int)) = false := decide_eq_false c2
    clear c2
    obtain rfl := Option.some.inj H
    go_wp2
    repeat (go_quiet (fail); try go_wp2)
    go_ret
    exact ⟨by first | rfl | (simp; done) | (simp [*]; done), by repeat (first | exact Drawn0.refl _ | apply Drawn0.step)⟩
   rw [if_pos c2] at H
   have c2b0 : decide (x4_1 < (l0.length : Int)) = true := decide_eq_true c2
   clear c2
   have H' := A0_ H
   clear H
   go_wp2
   repeat (go_quiet (fail); try go_wp2)
   go_loopg [3, 5] k1 (fun kq v3 v5 w' => ∃ (x3_2 : Int) (x5_2 : Int), v3 = .int .i64 x3_2 ∧ v5 = .int .i64 x5_2 ∧ Aside0 (bindlelaw20_light.l1 kq l0 x3_2 x4_1 x5_2 = some r) ∧ Aside0 (kq ≤ k1) ∧ Drawn0 w w')
   case atStart => exact ⟨(x3_1), (0), wr_, wr_, H', ⟨Nat.le_refl _⟩, by repeat (first | exact Drawn0.refl _ | apply Drawn0.step)⟩
   case round =>
    clear H'
    try clear c2
    try clear c2b0
    try clear p2
    obtain ⟨x3_2, x5_2, rfl, rfl, HA, HK2, ⟨m2, rfl⟩⟩ := hrel
    cases gk with
    | zero => exact absurd HA.out (by simp [bindlelaw20_light.l1])
    | succ k2 =>
     have H := HA.out
     clear HA
     simp only [bindlelaw20_light.l1] at H
     by_cases c3 : 0 ≤ x4_1
     rotate_left
     ·rw [if_neg c3] at H
      exact absurd H (by simp)
     rw [if_pos c3] at H
     have c3b0 : decide (0 ≤ x4_1) = true := decide_eq_true c3
     clear c3
     by_cases c4 : x4_1 < (l0.length : Int)
     rotate_left
     ·rw [if_neg c4] at H
      exact absurd H (by simp)
     rw [if_pos c4] at H
     have c4b0 : decide (x4_1 < (l0.length : Int)) = true := decide_eq_true c4
     clear c4
     by_cases c5 : x5_2 < ((rd_L9 l0 x4_1).length : Int)
     rotate_left
     ·rw [if_neg c5] at H
      have c5b0 : decide (x5_2 < ((rd_L9 l0 x4_1).length : Int)) = false := decide_eq_false c5
      clear c5
      by_cases c9 : ((rd_L9 l0 x4_1).length : Int) > 60
      ·rw [if_pos c9] at H
       have c9b0 : decide (60 < ((rd_L9 l0 x4_1).length : Int)) = true := decide_eq_true c9
       have c9b1 : decide (60 < (rd_L9 l0 x4_1).length) = true := decide_eq_true (by omega)
       clear c9
       obtain rfl := Option.some.inj H
       have p695 : 0 ≤ (x4_1 : Int) := wd_
       have q695 : x4_1 < (l0.length : Int) := wd_
       obtain ⟨ad695, A695_0, c695_0, e695, hx695_0, hl695_0, hi695_0⟩ := at_L9 HR0.out x4_1 p695 q695
       cases e695
       have HR695_0 := A0_ hi695_0
       have HC695_0 := A0_ hl695_0
       clear hi695_0 hl695_0
       replace p695 := eq_true p695
       replace q695 := eq_true q695
       have p703 : 0 ≤ (x4_1 : Int) := wd_
       have q703 : x4_1 < (l0.length : Int) := wd_
       obtain ⟨ad703, A703_0, c703_0, e703, hx703_0, hl703_0, hi703_0⟩ := at_L9 HR0.out x4_1 p703 q703
       obtain rfl : ad695 = ad703 := (by injection e703)
       have HR703_0 := A0_ hi703_0
       have HC703_0 := A0_ hl703_0
       clear hi703_0 hl703_0
       replace p703 := eq_true p703
       replace q703 := eq_true q703
       have ea_ := Option.some.inj (hx695_0.symm.trans hx703_0)
       injection ea_ with ea_ en_ ec_
       subst ea_
       subst ec_
       clear en_
       go_wp2
       repeat (go_quiet (fail); try go_wp2)
       go_ret
       exact ⟨by first | rfl | (simp; done) | (simp [*]; done), by repeat (first | exact Drawn0.refl _ | apply Drawn0.step)⟩
      rw [if_neg c9] at H
      have c9b0 : decide (60 < ((rd_L9 l0 x4_1).length : Int)) = false := decide_eq_false c9
      have c9b1 : decide (60 < (rd_L9 l0 x4_1).length) = false := decide_eq_false (by omega)
      clear c9
      have H' := A0_ H
      clear H
      have p695 : 0 ≤ (x4_1 : Int) := wd_
      have q695 : x4_1 < (l0.length : Int) := wd_
      obtain ⟨ad695, A695_0, c695_0, e695, hx695_0, hl695_0, hi695_0⟩ := at_L9 HR0.out x4_1 p695 q695
      cases e695
      have HR695_0 := A0_ hi695_0
      have HC695_0 := A0_ hl695_0
      clear hi695_0 hl695_0
      replace p695 := eq_true p695
      replace q695 := eq_true q695
      have p703 : 0 ≤ (x4_1 : Int) := wd_
      have q703 : x4_1 < (l0.length : Int) := wd_
      obtain ⟨ad703, A703_0, c703_0, e703, hx703_0, hl703_0, hi703_0⟩ := at_L9 HR0.out x4_1 p703 q703
      obtain rfl : ad695 = ad703 := (by injection e703)
      have HR703_0 := A0_ hi703_0
      have HC703_0 := A0_ hl703_0
      clear hi703_0 hl703_0
      replace p703 := eq_true p703
      replace q703 := eq_true q703
      have ea_ := Option.some.inj (hx695_0.symm.trans hx703_0)
      injection ea_ with ea_ en_ ec_
      subst ea_
      subst ec_
      clear en_
      go_wp2
      repeat (go_quiet (fail); try go_wp2)
      go_roundg k2
      case measure => have := HK1.out; have := HK2.out; omega
      case rel => exact ⟨(x3_2), (wrap64 (x4_1 + 1)), wr_, wr_, H', ⟨by have := HK1.out; have := HK2.out; omega⟩, by repeat (first | exact Drawn0.refl _ | apply Drawn0.step)⟩
     rw [if_pos c5] at H
     have c5b0 : decide (x5_2 < ((rd_L9 l0 x4_1).length : Int)) = true := decide_eq_true c5
     clear c5
     by_cases c6 : x5_2 < 61
     rotate_left
     ·rw [if_neg c6] at H
      have c6b0 : decide (x5_2 < 61) = false := decide_eq_false c6
      clear c6
      by_cases c8 : ((rd_L9 l0 x4_1).length : Int) > 60
      ·rw [if_pos c8] at H
       have c8b0 : decide (60 < ((rd_L9 l0 x4_1).length : Int)) = true := decide_eq_true c8
       have c8b1 : decide (60 < (rd_L9 l0 x4_1).length) = true := decide_eq_true (by omega)
       clear c8
       obtain rfl := Option.some.inj H
       have p695 : 0 ≤ (x4_1 : Int) := wd_
       have q695 : x4_1 < (l0.length : Int) := wd_
       obtain ⟨ad695, A695_0, c695_0, e695, hx695_0, hl695_0, hi695_0⟩ := at_L9 HR0.out x4_1 p695 q695
       cases e695
       have HR695_0 := A0_ hi695_0
       have HC695_0 := A0_ hl695_0
       clear hi695_0 hl695_0
       replace p695 := eq_true p695
       replace q695 := eq_true q695
       have p702 : 0 ≤ (x4_1 : Int) := wd_
       have q702 : x4_1 < (l0.length : Int) := wd_
       obtain ⟨ad702, A702_0, c702_0, e702, hx702_0, hl702_0, hi702_0⟩ := at_L9 HR0.out x4_1 p702 q702
       obtain rfl : ad695 = ad702 := (by injection e702)
       have HR702_0 := A0_ hi702_0
       have HC702_0 := A0_ hl702_0
       clear hi702_0 hl702_0
       replace p702 := eq_true p702
       replace q702 := eq_true q702
       have ea_ := Option.some.inj (hx695_0.symm.trans hx702_0)
       injection ea_ with ea_ en_ ec_
       subst ea_
       subst ec_
       clear en_
       go_wp2
       repeat (go_quiet (fail); try go_wp2)
       go_ret
       exact ⟨by first | rfl | (simp; done) | (simp [*]; done), by repeat (first | exact Drawn0.refl _ | apply Drawn0.step)⟩
      rw [if_neg c8] at H
      have c8b0 : decide (60 < ((rd_L9 l0 x4_1).length : Int)) = false := decide_eq_false c8
      have c8b1 : decide (60 < (rd_L9 l0 x4_1).length) = false := decide_eq_false (by omega)
      clear c8
      have H' := A0_ H
      clear H
      have p695 : 0 ≤ (x4_1 : Int) := wd_
      have q695 : x4_1 < (l0.length : Int) := wd_
      obtain ⟨ad695, A695_0, c695_0, e695, hx695_0, hl695_0, hi695_0⟩ := at_L9 HR0.out x4_1 p695 q695
      cases e695
      have HR695_0 := A0_ hi695_0
      have HC695_0 := A0_ hl695_0
      clear hi695_0 hl695_0
      replace p695 := eq_true p695
      replace q695 := eq_true q695
      have p702 : 0 ≤ (x4_1 : Int) := wd_
      have q702 : x4_1 < (l0.length : Int) := wd_
      obtain ⟨ad702, A702_0, c702_0, e702, hx702_0, hl702_0, hi702_0⟩ := at_L9 HR0.out x4_1 p702 q702
      obtain rfl : ad695 = ad702 := (by injection e702)
      have HR702_0 := A0_ hi702_0
      have HC702_0 := A0_ hl702_0
      clear hi702_0 hl702_0
      replace p702 := eq_true p702
      replace q702 := eq_true q702
      have ea_ := Option.some.inj (hx695_0.symm.trans hx702_0)
      injection ea_ with ea_ en_ ec_
      subst ea_
      subst ec_
      clear en_
      go_wp2
      repeat (go_quiet (fail); try go_wp2)
      go_roundg k2
      case measure => have := HK1.out; have := HK2.out; omega
      case rel => exact ⟨(x3_2), (wrap64 (x4_1 + 1)), wr_, wr_, H', ⟨by have := HK1.out; have := HK2.out; omega⟩, by repeat (first | exact Drawn0.refl _ | apply Drawn0.step)⟩
     rw [if_pos c6] at H
     have c6b0 : decide (x5_2 < 61) = true := decide_eq_true c6
     clear c6
     by_cases c7 : 0 ≤ x5_2
     rotate_left
     ·rw [if_neg c7] at H
      exact absurd H (by simp)
     rw [if_pos c7] at H
     have c7b0 : decide (0 ≤ x5_2) = true := decide_eq_true c7
     clear c7
     have H' := A0_ H
     clear H
     have p695 : 0 ≤ (x4_1 : Int) := wd_
     have q695 : x4_1 < (l0.length : Int) := wd_
     obtain ⟨ad695, A695_0, c695_0, e695, hx695_0, hl695_0, hi695_0⟩ := at_L9 HR0.out x4_1 p695 q695
     cases e695
     have HR695_0 := A0_ hi695_0
     have HC695_0 := A0_ hl695_0
     clear hi695_0 hl695_0
     replace p695 := eq_true p695
     replace q695 := eq_true q695
     have p696 : 0 ≤ (x4_1 : Int) := wd_
     have q696 : x4_1 < (l0.length : Int) := wd_
     obtain ⟨ad696, A696_0, c696_0, e696, hx696_0, hl696_0, hi696_0⟩ := at_L9 HR0.out x4_1 p696 q696
     obtain rfl : ad695 = ad696 := (by injection e696)
     have HR696_0 := A0_ hi696_0
     have HC696_0 := A0_ hl696_0
     clear hi696_0 hl696_0
     replace p696 := eq_true p696
     replace q696 := eq_true q696
     have ea_ := Option.some.inj (hx695_0.symm.trans hx696_0)
     injection ea_ with ea_ en_ ec_
     subst ea_
     subst ec_
     clear en_
     have p697 : 0 ≤ (x5_2 : Int) := wd_
     have q697 : x5_2 < ((rd_L9 l0 x4_1).length : Int) := wd_
     obtain ⟨ad697, A697_8, c697_8, e697, hx697_0, hx697_1, hx697_2, hx697_3, hx697_4, hx697_5, hx697_6, hx697_7, hx697_8, hl697_8, hi697_8⟩ := at_T38 HR696_0.out x5_2 p697 q697
     cases e697
     have HR697_8 := A0_ hi697_8
     have HC697_8 := A0_ hl697_8
     clear hi697_8 hl697_8
     replace p697 := eq_true p697
     replace q697 := eq_true q697
     have p698 : 0 ≤ (x4_1 : Int) := wd_
     have q698 : x4_1 < (l0.length : Int) := wd_
     obtain ⟨ad698, A698_0, c698_0, e698, hx698_0, hl698_0, hi698_0⟩ := at_L9 HR0.out x4_1 p698 q698
     obtain rfl : ad695 = ad698 := (by injection e698)
     have HR698_0 := A0_ hi698_0
     have HC698_0 := A0_ hl698_0
     clear hi698_0 hl698_0
     replace p698 := eq_true p698
     replace q698 := eq_true q698
     have ea_ := Option.some.inj (hx695_0.symm.trans hx698_0)
     injection ea_ with ea_ en_ ec_
     subst ea_
     subst ec_
     clear en_
     have p699 : 0 ≤ (x5_2 : Int) := wd_
     have q699 : x5_2 < ((rd_L9 l0 x4_1).length : Int) := wd_
     obtain ⟨ad699, A699_8, c699_8, e699, hx699_0, hx699_1, hx699_2, hx699_3, hx699_4, hx699_5, hx699_6, hx699_7, hx699_8, hl699_8, hi699_8⟩ := at_T38 HR698_0.out x5_2 p699 q699
     cases e699
     have HR699_8 := A0_ hi699_8
     have HC699_8 := A0_ hl699_8
     clear hi699_8 hl699_8
     replace p699 := eq_true p699
     replace q699 := eq_true q699
     have p700 : 0 ≤ (x4_1 : Int) := wd_
     have q700 : x4_1 < (l0.length : Int) := wd_
     obtain ⟨ad700, A700_0, c700_0, e700, hx700_0, hl700_0, hi700_0⟩ := at_L9 HR0.out x4_1 p700 q700
     obtain rfl : ad695 = ad700 := (by injection e700)
     have HR700_0 := A0_ hi700_0
     have HC700_0 := A0_ hl700_0
     clear hi700_0 hl700_0
     replace p700 := eq_true p700
     replace q700 := eq_true q700
     have ea_ := Option.some.inj (hx695_0.symm.trans hx700_0)
     injection ea_ with ea_ en_ ec_
     subst ea_
     subst ec_
     clear en_
     have p701 : 0 ≤ (x5_2 : Int) := wd_
     have q701 : x5_2 < ((rd_L9 l0 x4_1).length : Int) := wd_
     obtain ⟨ad701, A701_8, c701_8, e701, hx701_0, hx701_1, hx701_2, hx701_3, hx701_4, hx701_5, hx701_6, hx701_7, hx701_8, hl701_8, hi701_8⟩ := at_T38 HR700_0.out x5_2 p701 q701
     cases e701
     have HR701_8 := A0_ hi701_8
     have HC701_8 := A0_ hl701_8
     clear hi701_8 hl701_8
     replace p701 := eq_true p701
     replace q701 := eq_true q701
     go_wp2
     repeat (go_quiet (fail); try go_wp2)
     go_roundg k2
     case measure => have := HK1.out; have := HK2.out; omega
     case rel => exact ⟨(wrap64 ((wrap64 ((wrap64 (x3_2 + (((rd_T38 (rd_L9 l0 x4_1) x5_2).f5).length : Int))) + (((rd_T38 (rd_L9 l0 x4_1) x5_2).f0).size : Int))) + (((rd_T38 (rd_L9 l0 x4_1) x5_2).f1).size : Int))), (wrap64 (x5_2 + 1)), wr_, wr_, H', ⟨by have := HK1.out; have := HK2.out; omega⟩, by repeat (first | exact Drawn0.refl _ | apply Drawn0.step)⟩
end Go.Proofs.YtfmphccoeinhcaaDoor.Print

namespace Go.Proofs.YtfmphccoeinhcaaDoor
open Go.RowKit Go.Proofs.YtfmphccoeinhcaaDoor.Print Go.Proofs.YtfmphccoeinhcaaDoorW.PrintWords
set_option linter.unusedVariables false
def szN (x : Node) : Nat := x.f5.length + x.f0.size + x.f1.size
def OkL (ls : List (List Node)) : Prop := ∀ t ∈ ls, t.length ≤ 60 ∧ ∀ x ∈ t, szN x ≤ 200000
structure PreL (ls : List (List Node)) (i kk : Nat) (s : Int) : Prop where
 lo : 0 ≤ s
 hi : s ≤ ((i * 61 + kk : Nat) : Int) * 1000000000000000
 old : ∀ (j : Nat) (hj : j < ls.length), j < i → ls[j].length ≤ 60 ∧ ∀ x ∈ ls[j], (szN x : Int) ≤ s
 new : ∀ t, ls[i]? = some t → ∀ x ∈ t.take kk, (szN x : Int) ≤ s
theorem rdL_nat (ls : List (List Node)) (i : Nat) (h : i < ls.length) : rd_L9 ls (i : Int) = ls[i] := by
 unfold rd_L9
 rw [List.getD_eq_getElem?_getD, Int.toNat_natCast, List.getElem?_eq_getElem h]
 rfl
theorem rdN_n (l : List Node) (j : Nat) (h : j < l.length) : rd_T38 l (j : Int) = l[j] := by rw [rdN_at l j (by omega) (by omega)]; simp
theorem w_add {s : Int} {a : Nat} (h0 : 0 ≤ s) (h : s + a ≤ 4000000000000000000) : wrap64 (s + (a : Int)) = s + (a : Int) := by unfold wrap64; omega
theorem w_add3 {s : Int} {a b c : Nat} (h0 : 0 ≤ s) (h : s + a + b + c ≤ 4000000000000000000) : wrap64 ((wrap64 ((wrap64 (s + (a : Int))) + (b : Int))) + (c : Int)) = s + ((a + b + c : Nat) : Int) := by
 have h1 := w_add (a := a) h0 (by omega)
 rw [h1]
 clear h1
 have h2 := w_add (s := s + a) (a := b) (by omega) (by omega)
 rw [h2]
 clear h2
 have h3 := w_add (s := s + a + b) (a := c) (by omega) (by omega)
 rw [h3]
 clear h3
 omega
theorem w_one (i : Nat) (h : i < 4000000000000000000) : wrap64 ((i : Int) + 1) = ((i + 1 : Nat) : Int) := by unfold wrap64; omega
theorem PreL.step {ls : List (List Node)} {i kk : Nat} {s : Int} (h : PreL ls i kk s) (hi : i < ls.length) (hk : kk < ls[i].length) (hb : i < 12) (hkb : kk < 61) (hz : NodeZ ls[i][kk]) :
  wrap64 ((wrap64 ((wrap64 (s + (ls[i][kk].f5.length : Int))) + (ls[i][kk].f0.size : Int))) + (ls[i][kk].f1.size : Int)) = s + (szN ls[i][kk] : Int) ∧ PreL ls i (kk + 1) (s + (szN ls[i][kk] : Int)) := by
 obtain ⟨z0, z1, z2, z3⟩ := hz
 have hsz : szN ls[i][kk] = ls[i][kk].f5.length + ls[i][kk].f0.size + ls[i][kk].f1.size := rfl
 have h1 := h.lo
 have h2 := h.hi
 refine ⟨?_, ⟨by omega, by omega, fun j hj hji => ⟨(h.old j hj hji).1, fun x hx => by have := (h.old j hj hji).2 x hx; omega⟩, fun t ht x hx => ?_⟩⟩
 ·rw [hsz]
  exact w_add3 h1 (by omega)
 ·rw [List.getElem?_eq_getElem hi] at ht
  cases ht
  rw [List.take_succ_eq_append_getElem hk] at hx
  rcases List.mem_append.1 hx with hx | hx
  ·have := h.new _ (List.getElem?_eq_getElem hi) x hx
   omega
  ·rw [List.mem_singleton] at hx
   rw [hx]
   omega
theorem PreL.next {ls : List (List Node)} {i kk : Nat} {s : Int} (h : PreL ls i kk s) (hi : i < ls.length) (hk : kk = ls[i].length) (h60 : ls[i].length ≤ 60) : PreL ls (i + 1) 0 s := by
 refine ⟨h.lo, by have := h.hi; omega, fun j hj hji => ?_, fun t ht x hx => by simp at hx⟩
 rcases Nat.lt_or_ge j i with h1 | h1
 ·exact h.old j hj h1
 ·obtain rfl : j = i := by omega
  refine ⟨h60, fun x hx => h.new _ (List.getElem?_eq_getElem hi) x ?_⟩
  rw [hk, List.take_length]
  exact hx
theorem PreL.done {ls : List (List Node)} {kk : Nat} {s : Int} (h : PreL ls ls.length kk s) (hs : s ≤ 200000) : OkL ls := fun t ht => by
 obtain ⟨j, hj, rfl⟩ := List.getElem_of_mem ht
 obtain ⟨h1, h2⟩ := h.old j hj hj
 exact ⟨h1, fun x hx => by have := h2 x hx; omega⟩
theorem PreL.start (ls : List (List Node)) : PreL ls 0 0 0 := ⟨by omega, by omega, fun j _ h => absurd h (Nat.not_lt_zero _), fun t _ x hx => by simp at hx⟩
set_option maxHeartbeats 1000000 in
theorem light20_in (ls : List (List Node)) (i : Nat) (hi : i < ls.length) (hb : i < 12) (hz : ∀ t ∈ ls, ∀ x ∈ t, NodeZ x) (H : ∀ s, PreL ls (i + 1) 0 s → ∃ b, Ev (fun k => bindlelaw20_light.l0 k ls s ((i + 1 : Nat) : Int)) b ∧ (b = true → OkL ls)) :
  ∀ (d kk : Nat) (s : Int), kk + d = min ls[i].length 61 → PreL ls i kk s → ∃ b, Ev (fun k => bindlelaw20_light.l1 k ls s (i : Int) (kk : Int)) b ∧ (b = true → OkL ls) := by
 intro d
 induction d with
 | zero =>
  intro kk s hk hP
  by_cases h60 : ls[i].length ≤ 60
  ·obtain ⟨b, h1, h2⟩ := H s (hP.next hi (by omega) h60)
   refine ⟨b, Ev.step (fun k => ?_) h1, h2⟩
   rw [bindlelaw20_light.l1, if_pos (by omega), if_pos (by omega), rdL_nat ls i hi, if_neg (by omega), if_neg (by omega), w_one i (by omega)]
  ·refine ⟨false, Ev.step (f := fun _ => some false) (fun k => ?_) (Ev.now _), fun h => by cases h⟩
   rw [bindlelaw20_light.l1, if_pos (by omega), if_pos (by omega), rdL_nat ls i hi]
   by_cases h61 : (kk : Int) < (ls[i].length : Int)
   ·rw [if_pos h61, if_neg (by omega), if_pos (by omega)]
   ·rw [if_neg h61, if_pos (by omega)]
 | succ d ih =>
  intro kk s hk hP
  have hkl : kk < ls[i].length := by omega
  obtain ⟨hs, hP2⟩ := hP.step hi hkl hb (by omega) (hz _ (List.getElem_mem hi) _ (List.getElem_mem hkl))
  have HS := Aside0.mk hs
  clear hs
  obtain ⟨b, h1, h2⟩ := ih (kk + 1) _ (by omega) hP2
  refine ⟨b, Ev.step (fun k => ?_) h1, h2⟩
  rw [bindlelaw20_light.l1, if_pos (by omega), if_pos (by omega), rdL_nat ls i hi, if_pos (by omega), if_pos (by omega), if_pos (by omega), rdN_n _ kk hkl, HS.out, w_one kk (by omega)]
theorem light20_out (ls : List (List Node)) (hn : ls.length ≤ 12) (hz : ∀ t ∈ ls, ∀ x ∈ t, NodeZ x) : ∀ (d i : Nat) (s : Int), i + d = ls.length → PreL ls i 0 s → ∃ b, Ev (fun k => bindlelaw20_light.l0 k ls s (i : Int)) b ∧ (b = true → OkL ls) := by
 intro d
 induction d with
 | zero =>
  intro i s hi hP
  obtain rfl : i = ls.length := by omega
  refine ⟨decide (s ≤ 200000), Ev.step (f := fun _ => some (decide (s ≤ 200000))) (fun k => by rw [bindlelaw20_light.l0, if_neg (by omega)]) (Ev.now _), fun h => hP.done (of_decide_eq_true h)⟩
 | succ d ih =>
  intro i s hi hP
  obtain ⟨b, h1, h2⟩ := light20_in ls i (by omega) (by omega) hz (fun s hs => ih (i + 1) s (by omega) hs) (min (ls[i]'(by omega)).length 61) 0 s (by omega) hP
  refine ⟨b, Ev.step (fun k => ?_) h1, h2⟩
  rw [bindlelaw20_light.l0, if_pos (by omega)]
  rfl
theorem light20_eq (ls : List (List Node)) (hn : ls.length ≤ 12) (hz : ∀ t ∈ ls, ∀ x ∈ t, NodeZ x) : ∃ b, Ev (fun k => bindlelaw20_light.f k ls) b ∧ (b = true → OkL ls) := light20_out ls hn hz ls.length 0 0 (by omega) (PreL.start ls)
end Go.Proofs.YtfmphccoeinhcaaDoor

namespace Go.Proofs.YtfmphccoeinhcaaDoor
open Go.Proofs.YtfmphccoeinhcaaDoor.Print
def treeZB (t : List Node) : Bool := decide (t.length ≤ 10000) && nodesG t
def treesZB (ls : List (List Node)) : Bool := decide (ls.length ≤ 10000) && ls.all treeZB
def pathsZB (ps : List ByteArray) : Bool := decide (ps.length ≤ 10000) && strsZ ps
theorem treeZB_iff (t : List Node) : treeZB t = true ↔ TreeZ t := by simp [treeZB, TreeZ, nodesG_iff]
theorem treesZB_iff (ls : List (List Node)) : treesZB ls = true ↔ TreesZ ls := by simp [treesZB, TreesZ, treeZB_iff]
theorem pathsZB_iff (ps : List ByteArray) : pathsZB ps = true ↔ PathsZ ps := by simp [pathsZB, PathsZ, strsZ_iff]
end Go.Proofs.YtfmphccoeinhcaaDoor
namespace Go.Proofs.YtfmphccoeinhcaaDoor.Print
open Go.RowKit Go.Proofs.YtfmphccoeinhcaaDoor Go.Proofs.YtfmphccoeinhcaaDoorW.PrintWords Go.Proofs.YtfmphccoeinhcaaDoorW.PrintLast Go.Proofs.YtfmphccoeinhcaaDoorW.PrintMore
set_option linter.unusedVariables false
def union_Union.f (l : List (List S38)) : Option (List S38 × Int) := if treesZB l = true then some (unionF l) else none
theorem union_Union.calls (A0 : Option Addr) (c0 : Nat) (l0 : List (List S38)) (r1 : List S38) (r2 : Int) (w : World) (hT : Aside0 (Tabs w)) (hr0 : Kd.C (Kd.slice 38 k38) w A0 l0.length l0) (hc0 : l0.length ≤ c0) (h : union_Union.f l0 = some (r1, r2)) :
  Calls Tryd.prog 23 #[.slice A0 l0.length c0] w fun e w' => ∃ v0_ : Value, e = .returned (.tuple #[v0_, .int .i64 r2]) ∧ Kd.V k38 38 w' w.heap.size (fun k_ => w.heap.size ≤ k_) v0_ r1 ∧ Below w.heap.size w w' := by
 unfold union_Union.f at h
 split at h
 ·rename_i hc
  simp only [Option.some.injEq] at h
  refine (Union_calls A0 c0 l0 w hT.out hr0 ((treesZB_iff l0).1 hc)).mono ?_
  rintro e w' ⟨v, rfl, hV, hB⟩
  rw [h] at hV ⊢
  exact ⟨v, rfl, hV, hB⟩
 ·cases h
def sub_Keep.f (t : List S38) (ps : List ByteArray) : Option (List S38 × Int) := if treeZB t = true ∧ pathsZB ps = true then some (keepF t ps) else none
theorem sub_Keep.calls (A0 : Option Addr) (c0 : Nat) (l0 : List S38) (A1 : Option Addr) (c1 : Nat) (l1 : List ByteArray) (r1 : List S38) (r2 : Int) (w : World) (hT : Aside0 (Tabs w)) (hr0 : Kd.C k38 w A0 l0.length l0) (hc0 : l0.length ≤ c0) (hr1 : Kd.C Kd.string w A1 l1.length l1) (hc1 : l1.length ≤ c1) (h : sub_Keep.f l0 l1 = some (r1, r2)) :
  Calls Tryd.prog 36 #[.slice A0 l0.length c0, .slice A1 l1.length c1] w fun e w' => ∃ v0_ : Value, e = .returned (.tuple #[v0_, .int .i64 r2]) ∧ Kd.V k38 38 w' w.heap.size (fun k_ => w.heap.size ≤ k_) v0_ r1 ∧ Below w.heap.size w w' := by
 unfold sub_Keep.f at h
 split at h
 ·rename_i hc
  simp only [Option.some.injEq] at h
  refine (Keep_calls A0 c0 l0 A1 c1 l1 w hT.out hr0 hc0 hr1 ((treeZB_iff l0).1 hc.1) ((pathsZB_iff l1).1 hc.2)).mono ?_
  rintro e w' ⟨v, rfl, hV, hB⟩
  rw [h] at hV ⊢
  exact ⟨v, rfl, hV, hB⟩
 ·cases h
def sub_Subtract.f (a b : List S38) (whole : Bool) : Option (List S38 × Int) := if treeZB a = true ∧ treeZB b = true then some (subF a b whole) else none
theorem sub_Subtract.calls (A0 : Option Addr) (c0 : Nat) (l0 : List S38) (A1 : Option Addr) (c1 : Nat) (l1 : List S38) (a2 : Bool) (r1 : List S38) (r2 : Int) (w : World) (hT : Aside0 (Tabs w)) (hr0 : Kd.C k38 w A0 l0.length l0) (hc0 : l0.length ≤ c0) (hr1 : Kd.C k38 w A1 l1.length l1) (hc1 : l1.length ≤ c1) (h : sub_Subtract.f l0 l1 a2 = some (r1, r2)) :
  Calls Tryd.prog 38 #[.slice A0 l0.length c0, .slice A1 l1.length c1, .bool a2] w fun e w' => ∃ v0_ : Value, e = .returned (.tuple #[v0_, .int .i64 r2]) ∧ Kd.V k38 38 w' w.heap.size (fun k_ => w.heap.size ≤ k_) v0_ r1 ∧ Below w.heap.size w w' := by
 unfold sub_Subtract.f at h
 split at h
 ·rename_i hc
  simp only [Option.some.injEq] at h
  refine (Sub_calls A0 c0 l0 A1 c1 l1 a2 w hT.out hr0 hc0 hr1 hc1 ((treeZB_iff l0).1 hc.1) ((treeZB_iff l1).1 hc.2)).mono ?_
  rintro e w' ⟨v, rfl, hV, hB⟩
  rw [h] at hV ⊢
  exact ⟨v, rfl, hV, hB⟩
 ·cases h
end Go.Proofs.YtfmphccoeinhcaaDoor.Print

namespace Go.Proofs.YtfmphccoeinhcaaDoor
open Go.RowKit Go.Proofs.YtfmphccoeinhcaaDoor.Print Go.Proofs.YtfmphccoeinhcaaDoorW.PrintWords
theorem metHeap : Kd.Heap k24 := Kd.heap_iso _ (Kd.heap_pair (Kd.heap_int _) (Kd.heap_pair (Kd.heap_int _) (Kd.heap_pair (Kd.heap_int _) (Kd.heap_int _))))
theorem nodeHeap : Kd.Heap k38 := Kd.heap_iso _ (Kd.heap_pair Kd.heap_string (Kd.heap_pair Kd.heap_string (Kd.heap_pair Kd.heap_string (Kd.heap_pair (Kd.heap_int _) (Kd.heap_pair metHeap (Kd.heap_slice _ (Kd.heap_int _)))))))
end Go.Proofs.YtfmphccoeinhcaaDoor

namespace Go.Proofs.YtfmphccoeinhcaaDoor.Print
open Go.RowKit Go.Proofs.YtfmphccoeinhcaaDoorW.PrintWords Go.Proofs.YtfmphccoeinhcaaDoorW.PrintLast Go.Proofs.YtfmphccoeinhcaaDoorW.PrintMore
attribute [local go_sem] max2_int min2_int max_two min_two max_three min_three max_four min_four   -- for this text's walks alone
set_option linter.unusedVariables false
set_option linter.unusedSimpArgs false
def bindleref08_Find.l0 : Nat → List (S38) → ByteArray → Int → Option (ByteArray × ByteArray × ByteArray × Int × Int × Int × Int × Int × List Int × Bool)
 | 0, _, _, _ => none
 | k + 1, x0, x1, x6 => if x6 < (x0.length : Int) then (if 0 ≤ x6 then (if ((rd_T38 x0 x6).f0).toList = x1.toList then (some ((rd_T38 x0 x6).f0, (rd_T38 x0 x6).f1, (rd_T38 x0 x6).f2, (rd_T38 x0 x6).f3, (rd_T38 x0 x6).f4.f0, (rd_T38 x0 x6).f4.f1, (rd_T38 x0 x6).f4.f2, (rd_T38 x0 x6).f4.f3, (rd_T38 x0 x6).f5, true)) else (bindleref08_Find.l0 k x0 x1 (wrap64 (x6 + 1)))) else (none)) else (some ((⟨#[]⟩ : ByteArray), (⟨#[]⟩ : ByteArray), (⟨#[]⟩ : ByteArray), 0, 0, 0, 0, 0, ([] : List Int), false))
def bindleref08_Find.f (k : Nat) (l0 : List (S38)) (a1 : ByteArray) : Option (ByteArray × ByteArray × ByteArray × Int × Int × Int × Int × Int × List Int × Bool) := bindleref08_Find.l0 k l0 a1 0
set_option maxHeartbeats 8000000 in
set_option maxRecDepth 100000 in
theorem bindleref08_Find.calls (k : Nat) (P0_ : Nat → Prop) (A0 : Option Addr) (c0 : Nat) (l0 : List (S38)) (a1 : ByteArray) (r1 : ByteArray) (r2 : ByteArray) (r3 : ByteArray) (r4 : Int) (r5 : Int) (r6 : Int) (r7 : Int) (r8 : Int) (r9 : List Int) (r10 : Bool) (w : World) (hs0 : Kd.V k38 38 w w.heap.size (fun k_ => P0_ k_) (.slice A0 l0.length c0) l0) (h : bindleref08_Find.f k l0 a1 = some (r1, r2, r3, r4, r5, r6, r7, r8, r9, r10)) :
  Calls Tryd.prog 19 #[.slice A0 l0.length c0, .string a1] w fun e w' => ∃ v8_ : Value, e = .returned (.tuple #[.agg #[.string r1, .string r2, .string r3, .int .u8 r4, .int .i64 r5, .int .i64 r6, .int .i64 r7, .int .i64 r8, v8_], .bool r10]) ∧ Kd.V (Kd.int .u8) 5 w' w.heap.size (fun k_ => (P0_ k_ ∨ w.heap.size ≤ k_)) v8_ r9 ∧ Below w.heap.size w w' := by
 have hu38 := Tryd.underlying38
 have HO0 := A0_ (show Kd.V k38 38 w w.heap.size (fun k_ => (P0_ k_ ∨ w.heap.size ≤ k_)) (.slice A0 l0.length c0) l0 from Kd.V_mono hs0 (fun k_ hk => .inl hk))
 have HB := A0_ (Below.refl w.heap.size w)
 have H : (bindleref08_Find.l0 k l0 a1 0) = some (r1, r2, r3, r4, r5, r6, r7, r8, r9, r10) := h
 clear h
 have H' := A0_ H
 clear H
 go_enter Tryd.func19, Tryd.ntmps19
 go_wp2_with (first | ((with_reducible refine gate_dst (N := 4) rfl ?_); refine box_event ?hg (N := 4) ?hd (cs := #[.string (⟨#[]⟩ : ByteArray), .string (⟨#[]⟩ : ByteArray), .string (⟨#[]⟩ : ByteArray), .int .u8 0, .int .i64 0, .int .i64 0, .int .i64 0, .int .i64 0, .slice none 0 0]) (t := 38) ?hr ?_; (case hd => rfl); (case hg => rfl); (case hr => first | (go_simp; done) | (go_simp; rfl)); intro gb115 hg w3 hbox hb; have n0_ := A0_ (Vb_ (Kd.V_elderB (wV_ HO0.out) gb115 (Nat.le_of_eq hg.symm)) hb); have n1_ := A0_ (below_step (wb_ HB.out) hb); have n2_ := A0_ (hbox); have n3_ := A0_ ((by rw [hg]; exact (below_size (wb_ HB.out)) : w.heap.size ≤ gb115)); have n4_ := A0_ ((by rw [hg]; exact (below_size (wb_ HB.out)) : w.heap.size ≤ gb115)); clear HO0; clear HB; have HO0 := n0_; have HB := n1_; have BK115 := n2_; have GW115 := n3_; have GE115 := n4_; clear n0_ n1_ n2_ n3_ n4_; clear hb hbox hg))
 go_loopg [6] k (fun kq v6 w' => ∃ (x6_1 : Int) (x116000_1 : ByteArray) (x116001_1 : ByteArray) (x116002_1 : ByteArray) (x116003_1 : Int) (x116004_1 : Int) (x116005_1 : Int) (x116006_1 : Int) (x116007_1 : Int), v6 = .int .i64 x6_1 ∧ Aside0 (bindleref08_Find.l0 kq l0 a1 x6_1 = some (r1, r2, r3, r4, r5, r6, r7, r8, r9, r10)) ∧ Aside0 (kq ≤ k) ∧ Aside0 (Kd.V k38 38 w' w.heap.size (fun k_ => (P0_ k_ ∨ w.heap.size ≤ k_) ∧ k_ ≠ gb115) (.slice A0 l0.length c0) l0) ∧ Aside0 (w'.heap[gb115]? = some (.cells #[.string x116000_1, .string x116001_1, .string x116002_1, .int .u8 x116003_1, .int .i64 x116004_1, .int .i64 x116005_1, .int .i64 x116006_1, .int .i64 x116007_1, (.slice none 0 0)] 38 (0, 0))) ∧ Aside0 (Below w.heap.size w w'))
 case atStart => exact ⟨(0), ((⟨#[]⟩ : ByteArray)), ((⟨#[]⟩ : ByteArray)), ((⟨#[]⟩ : ByteArray)), (0), (0), (0), (0), (0), wr_, H', ⟨Nat.le_refl _⟩, ⟨wV_ HO0.out⟩, ⟨wB_ BK115.out⟩, ⟨wb1_ HB.out GE115.out⟩⟩
 case round =>
  clear H'
  try clear c1
  try clear p2
  obtain ⟨x6_1, x116000_1, x116001_1, x116002_1, x116003_1, x116004_1, x116005_1, x116006_1, x116007_1, rfl, HA, HK1, HO_0, BK115, HB⟩ := hrel
  cases gk with
  | zero => exact absurd HA.out (by simp [bindleref08_Find.l0])
  | succ k1 =>
   have H := HA.out
   clear HA
   simp only [bindleref08_Find.l0] at H
   by_cases c4 : x6_1 < (l0.length : Int)
   rotate_left
   ·rw [if_neg c4] at H
    have c4b0 : decide (x6_1 < (l0.length : Int)) = false := decide_eq_false c4
    clear c4
    simp only [Option.some.injEq, Prod.mk.injEq] at H
    obtain ⟨rfl, rfl, rfl, rfl, rfl, rfl, rfl, rfl, rfl, rfl⟩ := H
    have hcz8_0 : wr.cell? ⟨gb115, 0, none⟩ = some (.string x116000_1) := (bc_ BK115.out 0).trans rfl
    have hcz8_1 : wr.cell? ⟨gb115, 1, none⟩ = some (.string x116001_1) := (bc_ BK115.out 1).trans rfl
    have hcz8_2 : wr.cell? ⟨gb115, 2, none⟩ = some (.string x116002_1) := (bc_ BK115.out 2).trans rfl
    have hcz8_3 : wr.cell? ⟨gb115, 3, none⟩ = some (.int .u8 x116003_1) := (bc_ BK115.out 3).trans rfl
    have hcz8_4 : wr.cell? ⟨gb115, 4, none⟩ = some (.int .i64 x116004_1) := (bc_ BK115.out 4).trans rfl
    have hcz8_5 : wr.cell? ⟨gb115, 5, none⟩ = some (.int .i64 x116005_1) := (bc_ BK115.out 5).trans rfl
    have hcz8_6 : wr.cell? ⟨gb115, 6, none⟩ = some (.int .i64 x116006_1) := (bc_ BK115.out 6).trans rfl
    have hcz8_7 : wr.cell? ⟨gb115, 7, none⟩ = some (.int .i64 x116007_1) := (bc_ BK115.out 7).trans rfl
    have hcz8_8 : wr.cell? ⟨gb115, 8, none⟩ = some (.slice none 0 0) := (bc_ BK115.out 8).trans rfl
    have hfz8_0 := bf_ BK115.out 0
    have hfz8_1 := bf_ BK115.out 1
    have hfz8_2 := bf_ BK115.out 2
    have hfz8_3 := bf_ BK115.out 3
    have hfz8_4 := bf_ BK115.out 4
    have hfz8_5 := bf_ BK115.out 5
    have hfz8_6 := bf_ BK115.out 6
    have hfz8_7 := bf_ BK115.out 7
    have hfz8_8 := bf_ BK115.out 8
    go_wp2
    refine bodyPost_ret (results_ct rfl _ _ gb115 38 #[.string (⟨#[]⟩ : ByteArray), .string (⟨#[]⟩ : ByteArray), .string (⟨#[]⟩ : ByteArray), .int .u8 0, .int .i64 0, .int .i64 0, .int .i64 0, .int .i64 0, .slice none 0 0] (0, 0) _ rfl (by (with_reducible repeat (first | refine blk_drewN ?_ _ | refine blk_drew ?_ | refine blk_alloc ?_ _)); refine blk_put (cs := #[.string (⟨#[]⟩ : ByteArray), .string (⟨#[]⟩ : ByteArray), .string (⟨#[]⟩ : ByteArray), .int .u8 0, .int .i64 0, .int .i64 0, .int .i64 0, .int .i64 0, .slice none 0 0]) ?_ 8 _ rfl; (with_reducible repeat (first | refine blk_drewN ?_ _ | refine blk_drew ?_ | refine blk_alloc ?_ _)); refine blk_put (cs := #[.string (⟨#[]⟩ : ByteArray), .string (⟨#[]⟩ : ByteArray), .string (⟨#[]⟩ : ByteArray), .int .u8 0, .int .i64 0, .int .i64 0, .int .i64 0, .int .i64 x116007_1, .slice none 0 0]) ?_ 7 _ rfl; (with_reducible repeat (first | refine blk_drewN ?_ _ | refine blk_drew ?_ | refine blk_alloc ?_ _)); refine blk_put (cs := #[.string (⟨#[]⟩ : ByteArray), .string (⟨#[]⟩ : ByteArray), .string (⟨#[]⟩ : ByteArray), .int .u8 0, .int .i64 0, .int .i64 0, .int .i64 x116006_1, .int .i64 x116007_1, .slice none 0 0]) ?_ 6 _ rfl; (with_reducible repeat (first | refine blk_drewN ?_ _ | refine blk_drew ?_ | refine blk_alloc ?_ _)); refine blk_put (cs := #[.string (⟨#[]⟩ : ByteArray), .string (⟨#[]⟩ : ByteArray), .string (⟨#[]⟩ : ByteArray), .int .u8 0, .int .i64 0, .int .i64 x116005_1, .int .i64 x116006_1, .int .i64 x116007_1, .slice none 0 0]) ?_ 5 _ rfl; (with_reducible repeat (first | refine blk_drewN ?_ _ | refine blk_drew ?_ | refine blk_alloc ?_ _)); refine blk_put (cs := #[.string (⟨#[]⟩ : ByteArray), .string (⟨#[]⟩ : ByteArray), .string (⟨#[]⟩ : ByteArray), .int .u8 0, .int .i64 x116004_1, .int .i64 x116005_1, .int .i64 x116006_1, .int .i64 x116007_1, .slice none 0 0]) ?_ 4 _ rfl; (with_reducible repeat (first | refine blk_drewN ?_ _ | refine blk_drew ?_ | refine blk_alloc ?_ _)); refine blk_put (cs := #[.string (⟨#[]⟩ : ByteArray), .string (⟨#[]⟩ : ByteArray), .string (⟨#[]⟩ : ByteArray), .int .u8 x116003_1, .int .i64 x116004_1, .int .i64 x116005_1, .int .i64 x116006_1, .int .i64 x116007_1, .slice none 0 0]) ?_ 3 _ rfl; (with_reducible repeat (first | refine blk_drewN ?_ _ | refine blk_drew ?_ | refine blk_alloc ?_ _)); refine blk_put (cs := #[.string (⟨#[]⟩ : ByteArray), .string (⟨#[]⟩ : ByteArray), .string x116002_1, .int .u8 x116003_1, .int .i64 x116004_1, .int .i64 x116005_1, .int .i64 x116006_1, .int .i64 x116007_1, .slice none 0 0]) ?_ 2 _ rfl; (with_reducible repeat (first | refine blk_drewN ?_ _ | refine blk_drew ?_ | refine blk_alloc ?_ _)); refine blk_put (cs := #[.string (⟨#[]⟩ : ByteArray), .string x116001_1, .string x116002_1, .int .u8 x116003_1, .int .i64 x116004_1, .int .i64 x116005_1, .int .i64 x116006_1, .int .i64 x116007_1, .slice none 0 0]) ?_ 1 _ rfl; (with_reducible repeat (first | refine blk_drewN ?_ _ | refine blk_drew ?_ | refine blk_alloc ?_ _)); refine blk_put (cs := #[.string x116000_1, .string x116001_1, .string x116002_1, .int .u8 x116003_1, .int .i64 x116004_1, .int .i64 x116005_1, .int .i64 x116006_1, .int .i64 x116007_1, .slice none 0 0]) ?_ 0 _ rfl; (with_reducible repeat (first | refine blk_drewN ?_ _ | refine blk_drew ?_ | refine blk_alloc ?_ _)); exact BK115.out) Tryd.underlying38 rfl (by kernel_rfl)) rfl ?_
    exact ⟨_, we_, (Kd.V_nil _ _ _ _ _), wb1_ HB.out GE115.out⟩
   rw [if_pos c4] at H
   have c4b0 : decide (x6_1 < (l0.length : Int)) = true := decide_eq_true c4
   clear c4
   by_cases c5 : 0 ≤ x6_1
   rotate_left
   ·rw [if_neg c5] at H
    exact absurd H (by simp)
   rw [if_pos c5] at H
   have c5b0 : decide (0 ≤ x6_1) = true := decide_eq_true c5
   clear c5
   by_cases c6 : ((rd_T38 l0 x6_1).f0).toList = a1.toList
   rotate_left
   ·rw [if_neg c6] at H
    have c6b0 : (((rd_T38 l0 x6_1).f0).toList == a1.toList) = false := beq_eq_false_iff_ne.mpr c6
    have c6b1 : (((rd_T38 l0 x6_1).f0).toList != a1.toList) = true := bne_iff_ne.mpr c6
    have H' := A0_ H
    clear H
    have p116 : 0 ≤ (x6_1 : Int) := wd_
    have q116 : x6_1 < (l0.length : Int) := wd_
    obtain ⟨ad116, A116_8, c116_8, e116, hx116_0, hx116_1, hx116_2, hx116_3, hx116_4, hx116_5, hx116_6, hx116_7, hx116_8, hl116_8, hi116_8⟩ := at_T38 (Kd.V_reads' HO_0.out).2.2 x6_1 p116 q116
    cases e116
    obtain ⟨ce116, hce116, hMe116, hcc116⟩ := Kd.V_get HO_0.out z38 x6_1 p116 (by first | exact q116 | exact wd_ | (have e_ := (Kd.V_reads' HO_0.out).1; omega))
    obtain ⟨ua116_8, uc116_8, rfl, ul116_8, ge116_8⟩ := k38_openF hMe116
    have hv116_8 := hcc116 8 _ rfl
    rw [add_field _ _ 8 (by omega)] at hv116_8
    replace hv116_8 := Option.some.inj (hv116_8.symm.trans hx116_8)
    injection hv116_8 with hva_ hvn_ hvc_
    rw [hva_] at ge116_8
    rw [hvc_] at ul116_8
    have HL116_8 := A0_ (show Kd.V (Kd.int .u8) 5 _ w.heap.size _ _ ((rd_T38 l0 x6_1).f5) from Kd.V_mk ul116_8 ge116_8)
    clear hva_ hvn_ hvc_ ge116_8 ul116_8
    clear hcc116 hce116
    have HR116_8 := A0_ hi116_8
    have HC116_8 := A0_ hl116_8
    clear hi116_8 hl116_8
    replace p116 := eq_true p116
    replace q116 := eq_true q116
    go_wp2
    go_roundg k1
    case measure => have := HK1.out; omega
    case rel => exact ⟨(wrap64 (x6_1 + 1)), (x116000_1), (x116001_1), (x116002_1), (x116003_1), (x116004_1), (x116005_1), (x116006_1), (x116007_1), wr_, H', ⟨by have := HK1.out; omega⟩, ⟨wV_ HO_0.out⟩, ⟨wB_ BK115.out⟩, ⟨wb1_ HB.out GE115.out⟩⟩
   rw [if_pos c6] at H
   have c6b0 : (((rd_T38 l0 x6_1).f0).toList == a1.toList) = true := beq_iff_eq.mpr c6
   have c6b1 : (((rd_T38 l0 x6_1).f0).toList != a1.toList) = false := bne_eq_false_iff_eq.mpr c6
   clear c6
   simp only [Option.some.injEq, Prod.mk.injEq] at H
   obtain ⟨rfl, rfl, rfl, rfl, rfl, rfl, rfl, rfl, rfl, rfl⟩ := H
   have p116 : 0 ≤ (x6_1 : Int) := wd_
   have q116 : x6_1 < (l0.length : Int) := wd_
   obtain ⟨ad116, A116_8, c116_8, e116, hx116_0, hx116_1, hx116_2, hx116_3, hx116_4, hx116_5, hx116_6, hx116_7, hx116_8, hl116_8, hi116_8⟩ := at_T38 (Kd.V_reads' HO_0.out).2.2 x6_1 p116 q116
   cases e116
   obtain ⟨ce116, hce116, hMe116, hcc116⟩ := Kd.V_get HO_0.out z38 x6_1 p116 (by first | exact q116 | exact wd_ | (have e_ := (Kd.V_reads' HO_0.out).1; omega))
   obtain ⟨ua116_8, uc116_8, rfl, ul116_8, ge116_8⟩ := k38_openF hMe116
   have hv116_8 := hcc116 8 _ rfl
   rw [add_field _ _ 8 (by omega)] at hv116_8
   replace hv116_8 := Option.some.inj (hv116_8.symm.trans hx116_8)
   injection hv116_8 with hva_ hvn_ hvc_
   rw [hva_] at ge116_8
   rw [hvc_] at ul116_8
   have HL116_8 := A0_ (show Kd.V (Kd.int .u8) 5 _ w.heap.size _ _ ((rd_T38 l0 x6_1).f5) from Kd.V_mk ul116_8 ge116_8)
   clear hva_ hvn_ hvc_ ge116_8 ul116_8
   clear hcc116 hce116
   have HR116_8 := A0_ hi116_8
   have HC116_8 := A0_ hl116_8
   clear hi116_8 hl116_8
   replace p116 := eq_true p116
   replace q116 := eq_true q116
   have p117 : 0 ≤ (x6_1 : Int) := wd_
   have q117 : x6_1 < (l0.length : Int) := wd_
   obtain ⟨ad117, A117_8, c117_8, e117, hx117_0, hx117_1, hx117_2, hx117_3, hx117_4, hx117_5, hx117_6, hx117_7, hx117_8, hl117_8, hi117_8⟩ := at_T38 (Kd.V_reads' HO_0.out).2.2 x6_1 p117 q117
   obtain rfl : ad116 = ad117 := (by injection e117)
   obtain ⟨ce117, hce117, hMe117, hcc117⟩ := Kd.V_get HO_0.out z38 x6_1 p117 (by first | exact q117 | exact wd_ | (have e_ := (Kd.V_reads' HO_0.out).1; omega))
   obtain ⟨ua117_8, uc117_8, rfl, ul117_8, ge117_8⟩ := k38_openF hMe117
   have hv117_8 := hcc117 8 _ rfl
   rw [add_field _ _ 8 (by omega)] at hv117_8
   replace hv117_8 := Option.some.inj (hv117_8.symm.trans hx117_8)
   injection hv117_8 with hva_ hvn_ hvc_
   rw [hva_] at ge117_8
   rw [hvc_] at ul117_8
   have HL117_8 := A0_ (show Kd.V (Kd.int .u8) 5 _ w.heap.size _ _ ((rd_T38 l0 x6_1).f5) from Kd.V_mk ul117_8 ge117_8)
   clear hva_ hvn_ hvc_ ge117_8 ul117_8
   clear hcc117 hce117
   have HR117_8 := A0_ hi117_8
   have HC117_8 := A0_ hl117_8
   clear hi117_8 hl117_8
   replace p117 := eq_true p117
   replace q117 := eq_true q117
   have ea_ := Option.some.inj (hx116_8.symm.trans hx117_8)
   injection ea_ with ea_ en_ ec_
   subst ea_
   subst ec_
   clear en_
   have hcz7_0 : wr.cell? ⟨gb115, 0, none⟩ = some (.string x116000_1) := (bc_ BK115.out 0).trans rfl
   have hcz7_1 : wr.cell? ⟨gb115, 1, none⟩ = some (.string x116001_1) := (bc_ BK115.out 1).trans rfl
   have hcz7_2 : wr.cell? ⟨gb115, 2, none⟩ = some (.string x116002_1) := (bc_ BK115.out 2).trans rfl
   have hcz7_3 : wr.cell? ⟨gb115, 3, none⟩ = some (.int .u8 x116003_1) := (bc_ BK115.out 3).trans rfl
   have hcz7_4 : wr.cell? ⟨gb115, 4, none⟩ = some (.int .i64 x116004_1) := (bc_ BK115.out 4).trans rfl
   have hcz7_5 : wr.cell? ⟨gb115, 5, none⟩ = some (.int .i64 x116005_1) := (bc_ BK115.out 5).trans rfl
   have hcz7_6 : wr.cell? ⟨gb115, 6, none⟩ = some (.int .i64 x116006_1) := (bc_ BK115.out 6).trans rfl
   have hcz7_7 : wr.cell? ⟨gb115, 7, none⟩ = some (.int .i64 x116007_1) := (bc_ BK115.out 7).trans rfl
   have hcz7_8 : wr.cell? ⟨gb115, 8, none⟩ = some (.slice none 0 0) := (bc_ BK115.out 8).trans rfl
   have hfz7_0 := bf_ BK115.out 0
   have hfz7_1 := bf_ BK115.out 1
   have hfz7_2 := bf_ BK115.out 2
   have hfz7_3 := bf_ BK115.out 3
   have hfz7_4 := bf_ BK115.out 4
   have hfz7_5 := bf_ BK115.out 5
   have hfz7_6 := bf_ BK115.out 6
   have hfz7_7 := bf_ BK115.out 7
   have hfz7_8 := bf_ BK115.out 8
   go_wp2
   refine bodyPost_ret (results_ct rfl _ _ gb115 38 #[.string ((rd_T38 l0 x6_1).f0), .string ((rd_T38 l0 x6_1).f1), .string ((rd_T38 l0 x6_1).f2), .int .u8 ((rd_T38 l0 x6_1).f3), .int .i64 ((rd_T38 l0 x6_1).f4.f0), .int .i64 ((rd_T38 l0 x6_1).f4.f1), .int .i64 ((rd_T38 l0 x6_1).f4.f2), .int .i64 ((rd_T38 l0 x6_1).f4.f3), .slice A116_8 ((rd_T38 l0 x6_1).f5).length c116_8] (0, 0) _ rfl (by (with_reducible repeat (first | refine blk_drewN ?_ _ | refine blk_drew ?_ | refine blk_alloc ?_ _)); refine blk_put (cs := #[.string ((rd_T38 l0 x6_1).f0), .string ((rd_T38 l0 x6_1).f1), .string ((rd_T38 l0 x6_1).f2), .int .u8 ((rd_T38 l0 x6_1).f3), .int .i64 ((rd_T38 l0 x6_1).f4.f0), .int .i64 ((rd_T38 l0 x6_1).f4.f1), .int .i64 ((rd_T38 l0 x6_1).f4.f2), .int .i64 ((rd_T38 l0 x6_1).f4.f3), .slice none 0 0]) ?_ 8 _ rfl; (with_reducible repeat (first | refine blk_drewN ?_ _ | refine blk_drew ?_ | refine blk_alloc ?_ _)); refine blk_put (cs := #[.string ((rd_T38 l0 x6_1).f0), .string ((rd_T38 l0 x6_1).f1), .string ((rd_T38 l0 x6_1).f2), .int .u8 ((rd_T38 l0 x6_1).f3), .int .i64 ((rd_T38 l0 x6_1).f4.f0), .int .i64 ((rd_T38 l0 x6_1).f4.f1), .int .i64 ((rd_T38 l0 x6_1).f4.f2), .int .i64 x116007_1, .slice none 0 0]) ?_ 7 _ rfl; (with_reducible repeat (first | refine blk_drewN ?_ _ | refine blk_drew ?_ | refine blk_alloc ?_ _)); refine blk_put (cs := #[.string ((rd_T38 l0 x6_1).f0), .string ((rd_T38 l0 x6_1).f1), .string ((rd_T38 l0 x6_1).f2), .int .u8 ((rd_T38 l0 x6_1).f3), .int .i64 ((rd_T38 l0 x6_1).f4.f0), .int .i64 ((rd_T38 l0 x6_1).f4.f1), .int .i64 x116006_1, .int .i64 x116007_1, .slice none 0 0]) ?_ 6 _ rfl; (with_reducible repeat (first | refine blk_drewN ?_ _ | refine blk_drew ?_ | refine blk_alloc ?_ _)); refine blk_put (cs := #[.string ((rd_T38 l0 x6_1).f0), .string ((rd_T38 l0 x6_1).f1), .string ((rd_T38 l0 x6_1).f2), .int .u8 ((rd_T38 l0 x6_1).f3), .int .i64 ((rd_T38 l0 x6_1).f4.f0), .int .i64 x116005_1, .int .i64 x116006_1, .int .i64 x116007_1, .slice none 0 0]) ?_ 5 _ rfl; (with_reducible repeat (first | refine blk_drewN ?_ _ | refine blk_drew ?_ | refine blk_alloc ?_ _)); refine blk_put (cs := #[.string ((rd_T38 l0 x6_1).f0), .string ((rd_T38 l0 x6_1).f1), .string ((rd_T38 l0 x6_1).f2), .int .u8 ((rd_T38 l0 x6_1).f3), .int .i64 x116004_1, .int .i64 x116005_1, .int .i64 x116006_1, .int .i64 x116007_1, .slice none 0 0]) ?_ 4 _ rfl; (with_reducible repeat (first | refine blk_drewN ?_ _ | refine blk_drew ?_ | refine blk_alloc ?_ _)); refine blk_put (cs := #[.string ((rd_T38 l0 x6_1).f0), .string ((rd_T38 l0 x6_1).f1), .string ((rd_T38 l0 x6_1).f2), .int .u8 x116003_1, .int .i64 x116004_1, .int .i64 x116005_1, .int .i64 x116006_1, .int .i64 x116007_1, .slice none 0 0]) ?_ 3 _ rfl; (with_reducible repeat (first | refine blk_drewN ?_ _ | refine blk_drew ?_ | refine blk_alloc ?_ _)); refine blk_put (cs := #[.string ((rd_T38 l0 x6_1).f0), .string ((rd_T38 l0 x6_1).f1), .string x116002_1, .int .u8 x116003_1, .int .i64 x116004_1, .int .i64 x116005_1, .int .i64 x116006_1, .int .i64 x116007_1, .slice none 0 0]) ?_ 2 _ rfl; (with_reducible repeat (first | refine blk_drewN ?_ _ | refine blk_drew ?_ | refine blk_alloc ?_ _)); refine blk_put (cs := #[.string ((rd_T38 l0 x6_1).f0), .string x116001_1, .string x116002_1, .int .u8 x116003_1, .int .i64 x116004_1, .int .i64 x116005_1, .int .i64 x116006_1, .int .i64 x116007_1, .slice none 0 0]) ?_ 1 _ rfl; (with_reducible repeat (first | refine blk_drewN ?_ _ | refine blk_drew ?_ | refine blk_alloc ?_ _)); refine blk_put (cs := #[.string x116000_1, .string x116001_1, .string x116002_1, .int .u8 x116003_1, .int .i64 x116004_1, .int .i64 x116005_1, .int .i64 x116006_1, .int .i64 x116007_1, .slice none 0 0]) ?_ 0 _ rfl; (with_reducible repeat (first | refine blk_drewN ?_ _ | refine blk_drew ?_ | refine blk_alloc ?_ _)); exact BK115.out) Tryd.underlying38 rfl (by kernel_rfl)) rfl ?_
   exact ⟨_, we_, by (with_reducible repeat (first | apply Va_ | apply VN_ | apply V1_)); exact Kd.V_mono (Kd.V_far (p := ⟨gb115, 8, none⟩) (Kd.V_far (p := ⟨gb115, 7, none⟩) (Kd.V_far (p := ⟨gb115, 6, none⟩) (Kd.V_far (p := ⟨gb115, 5, none⟩) (Kd.V_far (p := ⟨gb115, 4, none⟩) (Kd.V_far (p := ⟨gb115, 3, none⟩) (Kd.V_far (p := ⟨gb115, 2, none⟩) (Kd.V_far (p := ⟨gb115, 1, none⟩) (Kd.V_far (p := ⟨gb115, 0, none⟩) (Kd.V_mono HL117_8.out (fun k_ hk => (⟨hk, hk.2⟩ : _ ∧ k_ ≠ gb115))) (fun _ hk => hk.2) (.string ((rd_T38 l0 x6_1).f0))) (fun _ hk => hk.2) (.string ((rd_T38 l0 x6_1).f1))) (fun _ hk => hk.2) (.string ((rd_T38 l0 x6_1).f2))) (fun _ hk => hk.2) (.int .u8 ((rd_T38 l0 x6_1).f3))) (fun _ hk => hk.2) (.int .i64 ((rd_T38 l0 x6_1).f4.f0))) (fun _ hk => hk.2) (.int .i64 ((rd_T38 l0 x6_1).f4.f1))) (fun _ hk => hk.2) (.int .i64 ((rd_T38 l0 x6_1).f4.f2))) (fun _ hk => hk.2) (.int .i64 ((rd_T38 l0 x6_1).f4.f3))) (fun _ hk => hk.2) (.slice A116_8 ((rd_T38 l0 x6_1).f5).length c116_8)) (fun _ hk => hk.1.1), wb1_ HB.out GE115.out⟩
end Go.Proofs.YtfmphccoeinhcaaDoor.Print

namespace Go.Proofs.YtfmphccoeinhcaaDoor
open Go.RowKit Go.Proofs.YtfmphccoeinhcaaDoor.Print Go.Proofs.YtfmphccoeinhcaaDoorW.PrintWords Go.Proofs.YtfmphccoeinhcaaDoorW.PrintLast Go.Proofs.YtfmphccoeinhcaaDoorW.PrintMore
set_option linter.unusedVariables false
theorem rfind_l (l : List Node) (p : ByteArray) (hlen : l.length ≤ 1000000000000) : ∀ (d i : Nat), i + d = l.length → Ev (fun k => bindleref08_Find.l0 k l p (i : Int)) (tupN (findF (l.drop i) p)) := by
 intro d
 induction d with
 | zero =>
  intro i hi
  rw [List.drop_of_length_le (by omega)]
  exact Ev.step (f := fun _ => some (tupN none)) (fun k => by rw [bindleref08_Find.l0, if_neg (by omega)]; rfl) (Ev.now _)
 | succ d ih =>
  intro i hi
  have hil : i < l.length := by omega
  have hx : rd_T38 l (i : Int) = l[i] := by rw [rdN_at l (i : Int) (by omega) (by omega)]; simp
  rw [List.drop_eq_getElem_cons hil]
  unfold findF
  rw [List.find?_cons]
  by_cases he : l[i].f0.toList = p.toList
  ·rw [decide_eq_true he]
   exact Ev.step (f := fun _ => some (tupN (some l[i]))) (fun k => by rw [bindleref08_Find.l0, if_pos (by omega), if_pos (by omega), hx, if_pos he]; rfl) (Ev.now _)
  ·rw [decide_eq_false he]
   refine Ev.step (fun k => ?_) (ih (i + 1) (by omega))
   rw [bindleref08_Find.l0, if_pos (by omega), if_pos (by omega), hx, if_neg he]
   rw [show wrap64 ((i : Int) + 1) = ((i + 1 : Nat) : Int) by unfold wrap64; omega]
theorem rfind_eq (l : List Node) (p : ByteArray) (hlen : l.length ≤ 1000000000000) : Ev (fun k => bindleref08_Find.f k l p) (tupN (findF l p)) := rfind_l l p hlen l.length 0 (by omega)
theorem RefFind_F (ok : Nat → Prop) (A0 : Option Addr) (c0 : Nat) (l : List Node) (p : ByteArray) (W : World) (hF : Kd.F k38 W ok A0 l.length l) (hc : l.length ≤ c0) (hlen : l.length ≤ 1000000000000) :
  Calls Tryd.prog 19 #[.slice A0 l.length c0, .string p] W fun e W' => ∃ x b A c, (match findF l p with | some y => x = y ∧ b = true | none => x = z38 ∧ b = false) ∧ e = .returned (.tuple #[.agg (nodeCells x (.slice A x.f5.length c)), .bool b]) ∧ x.f5.length ≤ c ∧ Kd.F (Kd.int .u8) W' (fun k => ok k ∨ W.heap.size ≤ k) A x.f5.length x.f5 ∧ Below W.heap.size W W' := by
 obtain ⟨k, hk⟩ := Ev.rounds (rfind_eq l p hlen)
 have hV : Kd.V k38 38 W W.heap.size ok (.slice A0 l.length c0) l := Kd.V_mk hc hF
 cases hf : findF l p with
 | none =>
  rw [hf] at hk
  refine (bindleref08_Find.calls k _ A0 c0 l p _ _ _ _ _ _ _ _ _ _ W hV hk).mono ?_
  rintro e w' ⟨v, rfl, hv, hb⟩
  obtain ⟨A, c, rfl⟩ := Kd.V_slice hv
  exact ⟨z38, false, A, c, ⟨rfl, rfl⟩, rfl, (Kd.V_reads' hv).2.1, Kd.V_F hv, hb⟩
 | some y =>
  rw [hf] at hk
  refine (bindleref08_Find.calls k _ A0 c0 l p _ _ _ _ _ _ _ _ _ _ W hV hk).mono ?_
  rintro e w' ⟨v, rfl, hv, hb⟩
  obtain ⟨A, c, rfl⟩ := Kd.V_slice hv
  exact ⟨y, true, A, c, ⟨rfl, rfl⟩, rfl, (Kd.V_reads' hv).2.1, Kd.V_F hv, hb⟩
end Go.Proofs.YtfmphccoeinhcaaDoor

namespace Go.Proofs.YtfmphccoeinhcaaDoor
open Go.RowKit Go.Maps Go.Proofs.YtfmphccoeinhcaaDoor.Print Go.Proofs.YtfmphccoeinhcaaDoorW.PrintWords Go.Proofs.YtfmphccoeinhcaaDoorW.PrintLast Go.Proofs.YtfmphccoeinhcaaDoorW.PrintMore
set_option linter.unusedVariables false
set_option linter.unusedSimpArgs false
abbrev goodtwA_0 : Array Bool := #[false, false, false, false, false, false, false, false, false, false, false, false, false, false, false, false, false, false, false, false, false, false, false, false, false, false, false, false, false, false, false, false, false]
abbrev goodtwA_1 : Array Bool := tb_ 33 1
abbrev goodtwA_2 : Array Bool := tb_ 33 3
abbrev goodtwA_3 : Array Bool := tb_ 33 7
abbrev goodtwA_4 : Array Bool := tb_ 33 15
abbrev goodtwA_5 : Array Bool := tb_ 33 31
abbrev goodtwA_6 : Array Bool := tb_ 33 63
abbrev goodtwA_7 : Array Bool := tb_ 33 127
abbrev goodtwA_8 : Array Bool := tb_ 33 255
abbrev goodtwA_9 : Array Bool := tb_ 33 511
abbrev goodtwA_10 : Array Bool := tb_ 33 1023
abbrev goodtwA_11 : Array Bool := tb_ 33 2047
abbrev goodtwA_12 : Array Bool := tb_ 33 4095
abbrev goodtwA_13 : Array Bool := tb_ 33 8191
abbrev goodtwA_14 : Array Bool := tb_ 33 16383
abbrev goodtwA_15 : Array Bool := tb_ 33 32767
abbrev goodtwA_16 : Array Bool := tb_ 33 65535
abbrev goodtwA_17 : Array Bool := tb_ 33 131071
abbrev goodtwA_18 : Array Bool := tb_ 33 262143
abbrev goodtwA_19 : Array Bool := tb_ 33 524287
abbrev goodtwA_20 : Array Bool := tb_ 33 1048575
abbrev goodtwA_21 : Array Bool := tb_ 33 2097151
abbrev goodtwA_22 : Array Bool := tb_ 33 4194303
abbrev goodtwA_23 : Array Bool := tb_ 33 8388607
abbrev goodtwA_24 : Array Bool := tb_ 33 16777215
abbrev goodtwA_25 : Array Bool := tb_ 33 33554431
abbrev goodtwA_26 : Array Bool := tb_ 33 67108863
abbrev goodtwA_27 : Array Bool := tb_ 33 134217727
abbrev goodtwA_28 : Array Bool := tb_ 33 268435455
abbrev goodtwA_29 : Array Bool := tb_ 33 536870911
abbrev goodtwA_30 : Array Bool := tb_ 33 1073741823
abbrev goodtwA_31 : Array Bool := tb_ 33 2147483647
abbrev goodtwA_32 : Array Bool := tb_ 33 4294967295
abbrev goodtwA_33 : Array Bool := tb_ 33 8589934591
abbrev gq_0 : Array Bool := goodtwA_0
abbrev gq_1 : Array Bool := goodtwA_1
abbrev gq_2 : Array Bool := goodtwA_2
abbrev gq_3 : Array Bool := goodtwA_3
abbrev gq_4 : Array Bool := goodtwA_4
abbrev gq_5 : Array Bool := goodtwA_5
abbrev gq_6 : Array Bool := goodtwA_6
abbrev gq_7 : Array Bool := goodtwA_7
abbrev gq_8 : Array Bool := goodtwA_8
abbrev gq_9 : Array Bool := goodtwA_9
abbrev gq_10 : Array Bool := goodtwA_10
abbrev gq_11 : Array Bool := goodtwA_11
abbrev gq_12 : Array Bool := goodtwA_12
abbrev gq_13 : Array Bool := goodtwA_13
abbrev gq_14 : Array Bool := goodtwA_14
abbrev gq_15 : Array Bool := goodtwA_15
abbrev gq_16 : Array Bool := goodtwA_16
abbrev gq_17 : Array Bool := goodtwA_17
abbrev gq_18 : Array Bool := goodtwA_18
abbrev gq_19 : Array Bool := goodtwA_19
abbrev gq_20 : Array Bool := goodtwA_20
abbrev gq_21 : Array Bool := goodtwA_21
abbrev gq_22 : Array Bool := goodtwA_22
abbrev gq_23 : Array Bool := goodtwA_23
abbrev gq_24 : Array Bool := goodtwA_24
abbrev gq_25 : Array Bool := goodtwA_25
abbrev gq_26 : Array Bool := goodtwA_26
abbrev gq_27 : Array Bool := goodtwA_27
abbrev gq_28 : Array Bool := goodtwA_28
abbrev gq_29 : Array Bool := goodtwA_29
abbrev gq_30 : Array Bool := goodtwA_30
abbrev gq_31 : Array Bool := goodtwA_31
abbrev gq_32 : Array Bool := goodtwA_32
abbrev gq_33 : Array Bool := goodtwA_33
theorem lt_of_alloc {w w1 : World} {o : Obj} (hb : Below (w.alloc o).heap.size (w.alloc o) w1) : w.heap.size < w1.heap.size := Nat.lt_of_lt_of_le (by rw [World.size_alloc]; exact Nat.lt_succ_self _) hb.size
def RefRel (l : List Node) (W : World) (i : Int) (wr : World) : Prop := 0 ≤ i ∧ i ≤ l.length ∧ (∀ (j : Nat) (hj : j < l.length), (j : Int) < i → nodeOk l j hj = true) ∧ Below W.heap.size W wr
def headOk (l : List Node) (i : Nat) (h : i < l.length) : Bool := (decide (i = 0) || lt (l[i - 1]'(by omega)).f0 l[i].f0) && !decide (l[i].f3 = 49) && goodM (memOf l[i])
theorem nodeOk_head (l : List Node) (i : Nat) (h : i < l.length) : nodeOk l i h = (headOk l i h && ledB (l.take (i + 1)) l[i]) := rfl
def nodeObj (x : Node) (v : Value) : Obj := .cells #[.string x.f0, .string x.f1, .string x.f2, .int .u8 x.f3, .int .i64 x.f4.f0, .int .i64 x.f4.f1, .int .i64 x.f4.f2, .int .i64 x.f4.f3, v] 38
def boxed (w : World) (g : Nat) (x : Node) (v : Value) : Prop := (w.cell? ⟨g, 0, none⟩ = some (.string x.f0) ∧ w.cell? ⟨g, 1, none⟩ = some (.string x.f1) ∧ w.cell? ⟨g, 2, none⟩ = some (.string x.f2) ∧ w.cell? ⟨g, 3, none⟩ = some (.int .u8 x.f3)) ∧ (w.cell? ⟨g, 4, none⟩ = some (.int .i64 x.f4.f0) ∧ w.cell? ⟨g, 5, none⟩ = some (.int .i64 x.f4.f1) ∧ w.cell? ⟨g, 6, none⟩ = some (.int .i64 x.f4.f2) ∧ w.cell? ⟨g, 7, none⟩ = some (.int .i64 x.f4.f3)) ∧ w.cell? ⟨g, 8, none⟩ = some v
theorem boxed.below {w w1 : World} {g : Nat} {x : Node} {v : Value} (h : boxed w g x v) (hb : Below w.heap.size w w1) : boxed w1 g x v :=
 ⟨⟨bkeep hb h.1.1, bkeep hb h.1.2.1, bkeep hb h.1.2.2.1, bkeep hb h.1.2.2.2⟩, ⟨bkeep hb h.2.1.1, bkeep hb h.2.1.2.1, bkeep hb h.2.1.2.2.1, bkeep hb h.2.1.2.2.2⟩, bkeep hb h.2.2⟩
def Mid5 (l : List Node) (n : Nat) (h : n < l.length) (g : Nat) (x : Node) (v : Value) (b : Bool) (wr wx : World) : Prop := b = !(headOk l n h) ∧ Below wr.heap.size wr wx ∧ boxed wx g x v
theorem mid5_1 {l : List Node} {W w1 : World} {n : Nat} {h : n < l.length} {g : Nat} {x : Node} {v : Value} {b : Bool} (hb : b = !(headOk l n h)) (hB : Below W.heap.size W w1)
  (hh : w1.cell? ⟨g, 0, none⟩ = some (.string x.f0) ∧ w1.cell? ⟨g, 1, none⟩ = some (.string x.f1) ∧ w1.cell? ⟨g, 2, none⟩ = some (.string x.f2) ∧ w1.cell? ⟨g, 3, none⟩ = some (.int .u8 x.f3) ∧ w1.cell? ⟨g, 4, none⟩ = some (.int .i64 x.f4.f0) ∧ w1.cell? ⟨g, 5, none⟩ = some (.int .i64 x.f4.f1) ∧ w1.cell? ⟨g, 6, none⟩ = some (.int .i64 x.f4.f2) ∧ w1.cell? ⟨g, 7, none⟩ = some (.int .i64 x.f4.f3) ∧ w1.cell? ⟨g, 8, none⟩ = some v) : Mid5 l n h g x v b W w1 :=
 ⟨hb, hB, ⟨hh.1, hh.2.1, hh.2.2.1, hh.2.2.2.1⟩, ⟨hh.2.2.2.2.1, hh.2.2.2.2.2.1, hh.2.2.2.2.2.2.1, hh.2.2.2.2.2.2.2.1⟩, hh.2.2.2.2.2.2.2.2⟩
theorem mid5_2 {l : List Node} {W w1 : World} {n : Nat} {h : n < l.length} {g : Nat} {x : Node} {v : Value} {b : Bool} {p : Prop} (hb : b = !(headOk l n h)) (hB : Below W.heap.size W w1)
  (hh : w1.cell? ⟨g, 0, none⟩ = some (.string x.f0) ∧ w1.cell? ⟨g, 1, none⟩ = some (.string x.f1) ∧ w1.cell? ⟨g, 2, none⟩ = some (.string x.f2) ∧ w1.cell? ⟨g, 3, none⟩ = some (.int .u8 x.f3) ∧ w1.cell? ⟨g, 4, none⟩ = some (.int .i64 x.f4.f0) ∧ w1.cell? ⟨g, 5, none⟩ = some (.int .i64 x.f4.f1) ∧ w1.cell? ⟨g, 6, none⟩ = some (.int .i64 x.f4.f2) ∧ w1.cell? ⟨g, 7, none⟩ = some (.int .i64 x.f4.f3) ∧ w1.cell? ⟨g, 8, none⟩ = some v ∧ p) : Mid5 l n h g x v b W w1 :=
 ⟨hb, hB, ⟨hh.1, hh.2.1, hh.2.2.1, hh.2.2.2.1⟩, ⟨hh.2.2.2.2.1, hh.2.2.2.2.2.1, hh.2.2.2.2.2.2.1, hh.2.2.2.2.2.2.2.1⟩, hh.2.2.2.2.2.2.2.2.1⟩
theorem prev_lt {l : List Node} {n j : Int} {h : j.toNat < l.length} {h' : n.toNat - 1 < l.length} {y0 x0 : ByteArray} {b : Bool} (hy : l[j.toNat].f0 = y0) (hj : j = n - 1) (hl : Op.bytesLess y0.toList x0.toList = b) : lt (l[n.toNat - 1]).f0 x0 = b := by
 subst hj
 unfold lt
 rw [← hl, ← hy]
 congr 4
 omega
theorem refRel_next {l : List Node} {W wr w1 : World} {n : Int} (h : RefRel l W n wr) (hn : n.toNat < l.length) (h1 : headOk l n.toNat hn = true) (h2 : ledB (l.take (n.toNat + 1)) l[n.toNat] = true) (hB : Below W.heap.size W w1) : RefRel l W (n + 1) w1 := by
 have h0 := h.1
 refine ⟨by omega, by omega, fun q hq hqn => ?_, hB⟩
 rcases Nat.lt_or_ge q n.toNat with hh | hh
 ·exact h.2.2.1 q hq (by omega)
 ·obtain rfl : q = n.toNat := by omega
  rw [nodeOk_head, h1, h2]; rfl
def leadB (y x : Node) : Bool := decide (y.f3 = 48 ∧ y.f2.toList = y.f0.toList ∧ y.f4.f0 = x.f4.f0 ∧ y.f4.f1 = x.f4.f1 ∧ y.f4.f2 = x.f4.f2 ∧ y.f4.f3 = x.f4.f3 ∧ (strOfNums y.f5).toList = (strOfNums x.f5).toList)
theorem leadB_4 {y x : Node} (h : (y.f4.f0 == x.f4.f0 && (y.f4.f1 == x.f4.f1 && (y.f4.f2 == x.f4.f2 && (y.f4.f3 == x.f4.f3)))) = false) : (true && leadB y x) = false := by
 rw [Bool.true_and]
 unfold leadB
 rw [decide_eq_false]
 rintro ⟨_, _, h0, h1, h2, h3, _⟩
 rw [h0, h1, h2, h3] at h
 simp at h
theorem leadB_ok {y x : Node} (h3 : y.f3 = 48) (h2 : y.f2.toList = y.f0.toList) (h : (y.f4.f0 == x.f4.f0 && (y.f4.f1 == x.f4.f1 && (y.f4.f2 == x.f4.f2 && (y.f4.f3 == x.f4.f3)))) = true) (h5 : (strOfNums y.f5).toList = (strOfNums x.f5).toList) : (true && leadB y x) = true := by
 rw [Bool.true_and]
 unfold leadB
 simp only [Bool.and_eq_true, beq_iff_eq] at h
 rw [decide_eq_true_iff]
 exact ⟨h3, h2, h.1, h.2.1, h.2.2.1, h.2.2.2, h5⟩
theorem nodeOk_lead {l : List Node} {n : Nat} {x y : Node} {b : Bool} (hn : n < l.length) (hx : x = l[n]) (hR : ∀ (j : Nat) (hj : j < l.length), j < n → nodeOk l j hj = true) (hh : headOk l n hn = true) (h48 : x.f3 = 48)
  (hm : match findF (l.take (n + 1)) x.f2 with | some z => y = z ∧ b = true | none => y = z38 ∧ b = false) : nodeOk l n hn = (b && leadB y x) := by
 rw [nodeOk_head, hh, Bool.true_and]
 rw [← hx]
 unfold ledB
 rw [if_pos h48]
 cases hf : findF (l.take (n + 1)) x.f2 with
 | none =>
  rw [hf] at hm
  rw [hm.2]; rfl
 | some z =>
  rw [hf] at hm
  obtain ⟨rfl, rfl⟩ := hm
  rw [Bool.true_and]
  unfold leadB
  dsimp only
  have hlt : lt x.f0 y.f0 = false := by
   have hmem : y ∈ l.take (n + 1) := List.mem_of_find?_eq_some hf
   obtain ⟨t, ht, he⟩ := List.getElem_of_mem hmem
   rw [List.length_take] at ht
   rw [List.getElem_take] at he
   rcases Nat.lt_or_ge t n with h | h
   ·have hr : ∀ (d s : Nat) (hs : s + d + 1 ≤ n), lt (l[s]'(by omega)).f0 (l[s + d + 1]'(by omega)).f0 = true := by
     have h1 : ∀ (s : Nat) (hs : s + 1 ≤ n), lt (l[s]'(by omega)).f0 (l[s + 1]'(by omega)).f0 = true := by
      intro s hs
      have hd : headOk l (s + 1) (by omega) = true := by
       rcases Nat.lt_or_ge (s + 1) n with h2 | h2
       ·have := hR (s + 1) (by omega) h2
        rw [nodeOk_head, Bool.and_eq_true] at this
        exact this.1
       ·obtain rfl : s + 1 = n := by omega
        exact hh
      unfold headOk at hd
      simp only [Bool.and_eq_true, Bool.or_eq_true, decide_eq_true_iff] at hd
      rcases hd.1.1 with h3 | h3
      ·omega
      ·exact h3
     intro d
     induction d with
     | zero => intro s hs; exact h1 s hs
     | succ d ih => intro s hs; exact lt_trans (ih s (by omega)) (h1 (s + d + 1) (by omega))
    have h2 := hr (n - t - 1) t (by omega)
    have h3 : t + (n - t - 1) + 1 = n := by omega
    simp only [h3] at h2
    rw [he, ← hx] at h2
    exact lt_asym h2
   ·obtain rfl : t = n := by omega
    rw [← he, hx, lt_irr]
  refine decide_eq_decide.2 ⟨fun h => ⟨h.1, h.2.1, h.2.2.2⟩, fun h => ⟨h.1, h.2.1, hlt, h.2.2⟩⟩
def Mid10 (l : List Node) (n g : Nat) (x : Node) (v : Value) (g' : Nat) (y : Node) (b : Bool) (A : Option Addr) (c : Nat) (wc wx : World) : Prop :=
 (match findF (l.take (n + 1)) x.f2 with | some z => y = z ∧ b = true | none => y = z38 ∧ b = false) ∧ Below wc.heap.size wc wx ∧ boxed wx g x v ∧ boxed wx g' y (.slice A y.f5.length c) ∧ Kd.C (Kd.int .u8) wx A y.f5.length y.f5
def putNode (w : World) (g : Nat) (x : Node) (v : Value) : World := ((((((((w.setCell ⟨g, 0, none⟩ (.string x.f0)).setCell ⟨g, 1, none⟩ (.string x.f1)).setCell ⟨g, 2, none⟩ (.string x.f2)).setCell ⟨g, 3, none⟩ (.int .u8 x.f3)).setCell ⟨g, 4, none⟩ (.int .i64 x.f4.f0)).setCell ⟨g, 5, none⟩ (.int .i64 x.f4.f1)).setCell ⟨g, 6, none⟩ (.int .i64 x.f4.f2)).setCell ⟨g, 7, none⟩ (.int .i64 x.f4.f3)).setCell ⟨g, 8, none⟩ v
theorem boxed.put {w : World} {g g' : Nat} {x y : Node} {v u : Value} (h : boxed w g x v) (hne : g ≠ g') : boxed (putNode w g' y u) g x v := by
 have e : ∀ j, (putNode w g' y u).cell? ⟨g, j, none⟩ = w.cell? ⟨g, j, none⟩ := fun j => by
  have hh : ∀ i, (⟨g', i, none⟩ : Addr) ≠ ⟨g, j, none⟩ := fun i h => by injection h with h; exact hne h.symm
  unfold putNode
  rw [World.cell?_setCell_other _ _ _ _ (hh _), World.cell?_setCell_other _ _ _ _ (hh _), World.cell?_setCell_other _ _ _ _ (hh _), World.cell?_setCell_other _ _ _ _ (hh _), World.cell?_setCell_other _ _ _ _ (hh _), World.cell?_setCell_other _ _ _ _ (hh _), World.cell?_setCell_other _ _ _ _ (hh _), World.cell?_setCell_other _ _ _ _ (hh _), World.cell?_setCell_other _ _ _ _ (hh _)]
 unfold boxed
 simp only [e]
 exact h
theorem boxed.puts {w : World} {g : Nat} {x : Node} {v : Value} (h : ∀ j, j < 9 → (w.cell? ⟨g, j, none⟩).isSome = true) : boxed (putNode w g x v) g x v := by
 obtain ⟨u0, h0⟩ := Option.isSome_iff_exists.1 (h 0 (by omega))
 obtain ⟨u1, h1⟩ := Option.isSome_iff_exists.1 (h 1 (by omega))
 obtain ⟨u2, h2⟩ := Option.isSome_iff_exists.1 (h 2 (by omega))
 obtain ⟨u3, h3⟩ := Option.isSome_iff_exists.1 (h 3 (by omega))
 obtain ⟨u4, h4⟩ := Option.isSome_iff_exists.1 (h 4 (by omega))
 obtain ⟨u5, h5⟩ := Option.isSome_iff_exists.1 (h 5 (by omega))
 obtain ⟨u6, h6⟩ := Option.isSome_iff_exists.1 (h 6 (by omega))
 obtain ⟨u7, h7⟩ := Option.isSome_iff_exists.1 (h 7 (by omega))
 obtain ⟨u8, h8⟩ := Option.isSome_iff_exists.1 (h 8 (by omega))
 clear h
 unfold boxed putNode
 simp [go_sem, h0, h1, h2, h3, h4, h5, h6, h7, h8]
theorem below_putNode {B : Nat} {a w : World} (h : Below B a w) (g : Nat) (hg : B ≤ g) (x : Node) (v : Value) : Below B a (putNode w g x v) := by
 unfold putNode
 repeat (refine below_put ?_ _ _ hg _)
 exact h
theorem mid10_a {l : List Node} {wc w1 : World} {n : Int} {g c : Nat} {x y : Node} {v : Value} {b : Bool} {A : Option Addr} (hm : match findF (l.take (n + 1).toNat) x.f2 with | some z => y = z ∧ b = true | none => y = z38 ∧ b = false) (hx : boxed wc g x v) (hb : Below wc.drew.heap.size wc.drew w1)
  (hC : Kd.F (Kd.int .u8) w1 (fun k => k < wc.heap.size ∨ wc.drew.heap.size ≤ k) A y.f5.length y.f5) (hn : 0 ≤ n) : Mid10 l n.toNat g x v w1.heap.size y b A c wc (w1.alloc (nodeObj y (.slice A y.f5.length c))) := by
 have hb' : Below wc.heap.size wc w1 := (below_drew (Below.refl _ _)).trans hb
 refine ⟨by rw [show n.toNat + 1 = (n + 1).toNat by omega]; exact hm, hb'.alloc hb'.size _, (hx.below hb').below (below_alloc (Below.refl _ _) _), ?_, Kd.F_now (Kd.F_alloc hC _)⟩
 unfold boxed nodeObj
 simp [go_sem]
theorem mid10_b {cs : Array Value} {l : List Node} {wc w1 : World} {n : Int} {g c : Nat} {x y : Node} {v : Value} {b : Bool} {A : Option Addr} (hm : match findF (l.take (n + 1).toNat) x.f2 with | some z => y = z ∧ b = true | none => y = z38 ∧ b = false) (hx : boxed wc g x v) (hb : Below (wc.drew.alloc (.cells cs 38)).heap.size (wc.drew.alloc (.cells cs 38)) w1)
  (hC : Kd.F (Kd.int .u8) w1 (fun k => k < wc.heap.size ∨ (wc.drew.alloc (.cells cs 38)).heap.size ≤ k) A y.f5.length y.f5) (hn : 0 ≤ n) (hcs : cs.size = 9) : Mid10 l n.toNat g x v wc.heap.size y b A c wc (putNode w1 wc.heap.size y (.slice A y.f5.length c)) := by
 have hs : (wc.drew.alloc (.cells cs 38)).heap.size = wc.heap.size + 1 := by rw [World.size_alloc]; rfl
 have hb' : Below wc.heap.size wc w1 := (below_alloc (below_drew (Below.refl _ _)) _).trans (hb.mono (by omega))
 have hlt : g < wc.heap.size := World.block_lt_of_cell? wc ⟨g, 2, none⟩ hx.1.2.2.1
 refine ⟨by rw [show n.toNat + 1 = (n + 1).toNat by omega]; exact hm, below_putNode hb' _ (Nat.le_refl _) _ _, (hx.below hb').put (by omega), boxed.puts (fun j hj => ?_), ?_⟩
 ·have h1 : w1.cell? ⟨wc.heap.size, j, none⟩ = (wc.drew.alloc (.cells cs 38)).cell? ⟨wc.heap.size, j, none⟩ := hb.cell (p := ⟨wc.heap.size, j, none⟩) (by rw [hs]; exact Nat.lt_succ_self _)
  rw [h1]
  have h2 : (wc.drew.alloc (.cells cs 38)).cell? ⟨wc.heap.size, j, none⟩ = cs[j]? := World.cell?_alloc_new wc.drew _ _ _
  rw [h2, Array.getElem?_eq_getElem (by omega)]
  rfl
 ·unfold putNode
  refine Kd.F_now (ok := fun k => k < wc.heap.size ∨ (wc.drew.alloc (.cells cs 38)).heap.size ≤ k) ?_
  repeat (refine Kd.F_far ?_ (p := ⟨wc.heap.size, _, none⟩) (fun k hk => by show k ≠ wc.heap.size; omega) _)
  exact hC
attribute [local go_sem high] eqA24
set_option maxRecDepth 100000 in
set_option maxHeartbeats 8000000 in
theorem RefTree_calls (A0 : Option Addr) (c0 : Nat) (l : List Node) (W : World) (hC : Kd.C k38 W A0 l.length l) (hc0 : l.length ≤ c0) (hz : NodesZ l) :
  Calls Tryd.prog 26 #[.slice A0 l.length c0] W fun e W' => e = .returned (.bool (goodTree l)) ∧ Below W.heap.size W W' := by
 have HC := Aside0.mk hC
 have HZ := Aside0.mk hz
 have HC0 := Aside0.mk hc0
 have hlen : (l.length : Int) ≤ 1000000000000 := by have := hz.1; omega
 clear hC hz hc0
 generalize hpost : (fun (e : Ending) (W' : World) => e = .returned (.bool (goodTree l)) ∧ Below W.heap.size W W') = Q
 have hQ := Aside0.mk hpost
 clear hpost
 go_enter Tryd.func26, Tryd.ntmps26
 go_wp2
 go_loopg [3] (l.length) (fun g i wr => ∃ n : Int, i = .int .i64 n ∧ Aside0 (RefRel l W n wr) ∧ Aside0 ((g : Int) + n = l.length))
 case atStart => exact ⟨0, rfl, ⟨⟨by omega, by omega, fun j hj h => absurd h (by omega), Below.refl _ _⟩⟩, ⟨by omega⟩⟩
 case round =>
  obtain ⟨n, rfl, HR, HG⟩ := hrel
  have h0 := HR.out.1
  have h1 := HR.out.2.1
  have hB := HR.out.2.2.2
  have HB := Aside0.mk hB
  by_cases hlt : n < (l.length : Int)
  ·have hnl : n.toNat < l.length := by omega
   obtain ⟨ad, A7, c7, rfl, x0, x1, x2, x3, x4, x5, x6, x7, x8, hl7, hC7⟩ := at_T38 (Kd.C_below HC.out hB) n h0 hlt
   have hx := rdN_at l n h0 hlt
   have hxz : NodeZ (rd_T38 l n) := by rw [hx]; exact HZ.out.2 _ (List.getElem_mem _)
   generalize rd_T38 l n = x at hx hxz x0 x1 x2 x3 x4 x5 x6 x7 x8 hl7 hC7
   have HX := Aside0.mk hx
   have HXZ := Aside0.mk hxz
   have HC7 := Aside0.mk hC7
   have c1b : decide (n < (l.length : Int)) = true := decide_eq_true hlt
   clear hx hxz hC7
   have hmr : MemR (memOf x) := ⟨HXZ.out.1, HXZ.out.2.1, HXZ.out.2.2.2⟩
   obtain ⟨kg, hkg⟩ := Ev.rounds (refGood_eq (memOf x) hmr)
   generalize hgd : goodM (memOf x) = gd at hkg
   have HGD := Aside0.mk hgd
   have HKG : Aside0 (bindleref08_Good.f kg x.f0 x.f1 x.f3 x.f4.f0 x.f4.f1 x.f4.f2 x.f4.f3 x.f5 = some gd) := ⟨hkg⟩
   have HCA := Aside0.mk (fun o => Kd.C_alloc HC7.out o)
   have hl7' : x.f5.length ≤ c7 := hl7
   have HNL := Aside0.mk hnl
   clear hkg hmr hl7 hgd hnl
   go_upto_region 5 with (fail)
   go_cut [49] (fun v wx => ∃ b, v = .bool b ∧ Aside0 (Mid5 l n.toNat HNL.out wr.heap.size x (.slice A7 x.f5.length c7) b wr wx))
   case first =>
    by_cases hn0 : n = 0
    ·have g1 : decide (0 < n) = false := decide_eq_false (by omega)
     have g2 : decide (n > 0) = false := decide_eq_false (by omega)
     have HN0 := Aside0.mk hn0
     clear hn0
     by_cases h49 : x.f3 = 49
     ·have e49 : (x.f3 == 49) = true := beq_iff_eq.2 h49
      have H49 := Aside0.mk h49
      clear h49
      refine start_ (n := 33) (S := fun w' => w'.cell? ⟨wr.heap.size, 0, none⟩ = some (.string x.f0) ∧ w'.cell? ⟨wr.heap.size, 1, none⟩ = some (.string x.f1) ∧ w'.cell? ⟨wr.heap.size, 2, none⟩ = some (.string x.f2) ∧ w'.cell? ⟨wr.heap.size, 3, none⟩ = some (.int .u8 x.f3) ∧ w'.cell? ⟨wr.heap.size, 4, none⟩ = some (.int .i64 x.f4.f0) ∧ w'.cell? ⟨wr.heap.size, 5, none⟩ = some (.int .i64 x.f4.f1) ∧ w'.cell? ⟨wr.heap.size, 6, none⟩ = some (.int .i64 x.f4.f2) ∧ w'.cell? ⟨wr.heap.size, 7, none⟩ = some (.int .i64 x.f4.f3) ∧ w'.cell? ⟨wr.heap.size, 8, none⟩ = some (.slice A7 x.f5.length c7)) (ds := []) gq_0 (by kernel_rfl) rfl rfl ⟨by simp, by simp, by simp, by simp, by simp, by simp, by simp, by simp, by simp⟩ (fun hHeld => ?_)
      generalize hwq : (wr.alloc (.cells #[.string x.f0, .string x.f1, .string x.f2, .int .u8 x.f3, .int .i64 x.f4.f0, .int .i64 x.f4.f1, .int .i64 x.f4.f2, .int .i64 x.f4.f3, .slice A7 x.f5.length c7] 38)).drew = wq at hHeld ⊢
      refine pur_ (i := 0) (N := some 17) gq_1 (by kernel_rfl) ?_
      refine pur_ (i := 1) (N := some 18) gq_2 (by kernel_rfl) ?_
      refine pur_ (i := 2) (N := some 19) gq_3 (by kernel_rfl) ?_
      refine puu_ (i := 3) (N := some 20) gq_4 (by kernel_rfl) ?_
      refine puu_ (i := 4) (N := some 21) gq_5 (by kernel_rfl) ?_
      refine puu_ (i := 5) (N := some 22) gq_6 (by kernel_rfl) ?_
      refine puu_ (i := 6) (N := some 23) gq_7 (by kernel_rfl) ?_
      refine puu_ (i := 7) (N := some 24) gq_8 (by kernel_rfl) ?_
      refine puu_ (i := 8) (N := some 25) gq_9 (by kernel_rfl) ?_
      refine puu_ (i := 9) (N := some 26) gq_10 (by kernel_rfl) ?_
      refine puu_ (i := 10) (N := some 27) gq_11 (by kernel_rfl) ?_
      refine puu_ (i := 11) (N := some 28) gq_12 (by kernel_rfl) ?_
      refine pur_ (i := 12) (N := some 29) gq_13 (by kernel_rfl) ?_
      refine pur_ (i := 13) (N := some 30) gq_14 (by kernel_rfl) ?_
      refine pur_ (i := 14) (N := some 31) gq_15 (by kernel_rfl) ?_
      refine tak_ (i := 15) (N := some 32) gq_16 (by kernel_rfl) hHeld ?_
      refine pur_ (i := 16) (N := some 33) gq_17 (by kernel_rfl) ?_
      refine pur_ (i := 17) (N := some 34) gq_18 (by kernel_rfl) ?_
      refine pur_ (i := 18) (N := some 35) gq_19 (by kernel_rfl) ?_
      refine puu_ (i := 19) (N := some 36) gq_20 (by kernel_rfl) ?_
      refine puu_ (i := 20) (N := some 37) gq_21 (by kernel_rfl) ?_
      refine puu_ (i := 21) (N := some 38) gq_22 (by kernel_rfl) ?_
      refine puu_ (i := 22) (N := some 39) gq_23 (by kernel_rfl) ?_
      refine puu_ (i := 23) (N := some 40) gq_24 (by kernel_rfl) ?_
      refine puu_ (i := 24) (N := some 41) gq_25 (by kernel_rfl) ?_
      refine puu_ (i := 25) (N := some 42) gq_26 (by kernel_rfl) ?_
      refine puu_ (i := 26) (N := some 43) gq_27 (by kernel_rfl) ?_
      refine puu_ (i := 27) (N := some 44) gq_28 (by kernel_rfl) ?_
      refine puu_ (i := 28) (N := some 45) gq_29 (by kernel_rfl) ?_
      refine puu_ (i := 29) (N := some 46) gq_30 (by kernel_rfl) ?_
      refine puu_ (i := 30) (N := some 47) gq_31 (by kernel_rfl) ?_
      refine puu_ (i := 31) (N := some 48) gq_32 (by kernel_rfl) ?_
      refine pur_ (i := 32) (N := some 49) gq_33 (by kernel_rfl) ?_
      refine done_ (by kernel_rfl) ?_
      go_wp2_with (fail)
      go_meet
      exact ⟨true, rfl, ⟨mid5_1 (by unfold headOk; rw [← HX.out, decide_eq_true H49.out]; simp) (by rw [← hwq]; exact below_drew (below_alloc (Below.refl _ _) _)) hHeld⟩⟩
     ·have e49 : (x.f3 == 49) = false := beq_eq_false_iff_ne.2 h49
      have H49 := Aside0.mk h49
      clear h49
      refine start_ (n := 33) (S := fun w' => w'.cell? ⟨wr.heap.size, 0, none⟩ = some (.string x.f0) ∧ w'.cell? ⟨wr.heap.size, 1, none⟩ = some (.string x.f1) ∧ w'.cell? ⟨wr.heap.size, 2, none⟩ = some (.string x.f2) ∧ w'.cell? ⟨wr.heap.size, 3, none⟩ = some (.int .u8 x.f3) ∧ w'.cell? ⟨wr.heap.size, 4, none⟩ = some (.int .i64 x.f4.f0) ∧ w'.cell? ⟨wr.heap.size, 5, none⟩ = some (.int .i64 x.f4.f1) ∧ w'.cell? ⟨wr.heap.size, 6, none⟩ = some (.int .i64 x.f4.f2) ∧ w'.cell? ⟨wr.heap.size, 7, none⟩ = some (.int .i64 x.f4.f3) ∧ w'.cell? ⟨wr.heap.size, 8, none⟩ = some (.slice A7 x.f5.length c7)) (ds := []) gq_0 (by kernel_rfl) rfl rfl ⟨by simp, by simp, by simp, by simp, by simp, by simp, by simp, by simp, by simp⟩ (fun hHeld => ?_)
      generalize hwq : (wr.alloc (.cells #[.string x.f0, .string x.f1, .string x.f2, .int .u8 x.f3, .int .i64 x.f4.f0, .int .i64 x.f4.f1, .int .i64 x.f4.f2, .int .i64 x.f4.f3, .slice A7 x.f5.length c7] 38)).drew = wq at hHeld ⊢
      refine pur_ (i := 0) (N := some 17) gq_1 (by kernel_rfl) ?_
      refine pur_ (i := 1) (N := some 18) gq_2 (by kernel_rfl) ?_
      refine pur_ (i := 2) (N := some 19) gq_3 (by kernel_rfl) ?_
      refine puu_ (i := 3) (N := some 20) gq_4 (by kernel_rfl) ?_
      refine puu_ (i := 4) (N := some 21) gq_5 (by kernel_rfl) ?_
      refine puu_ (i := 5) (N := some 22) gq_6 (by kernel_rfl) ?_
      refine puu_ (i := 6) (N := some 23) gq_7 (by kernel_rfl) ?_
      refine puu_ (i := 7) (N := some 24) gq_8 (by kernel_rfl) ?_
      refine puu_ (i := 8) (N := some 25) gq_9 (by kernel_rfl) ?_
      refine puu_ (i := 9) (N := some 26) gq_10 (by kernel_rfl) ?_
      refine puu_ (i := 10) (N := some 27) gq_11 (by kernel_rfl) ?_
      refine puu_ (i := 11) (N := some 28) gq_12 (by kernel_rfl) ?_
      refine pur_ (i := 12) (N := some 29) gq_13 (by kernel_rfl) ?_
      refine pur_ (i := 13) (N := some 30) gq_14 (by kernel_rfl) ?_
      refine pur_ (i := 14) (N := some 31) gq_15 (by kernel_rfl) ?_
      refine tak_ (i := 15) (N := some 32) gq_16 (by kernel_rfl) hHeld ?_
      refine pur_ (i := 16) (N := some 33) gq_17 (by kernel_rfl) ?_
      refine pur_ (i := 17) (N := some 34) gq_18 (by kernel_rfl) ?_
      refine pur_ (i := 18) (N := some 35) gq_19 (by kernel_rfl) ?_
      refine pur_ (i := 19) (N := some 36) gq_20 (by kernel_rfl) ?_
      refine tak_ (i := 20) (N := some 37) gq_21 (by kernel_rfl) hHeld ?_
      refine pur_ (i := 21) (N := some 38) gq_22 (by kernel_rfl) ?_
      refine tak_ (i := 22) (N := some 39) gq_23 (by kernel_rfl) hHeld ?_
      refine pur_ (i := 23) (N := some 40) gq_24 (by kernel_rfl) ?_
      refine tak_ (i := 24) (N := some 41) gq_25 (by kernel_rfl) hHeld ?_
      refine pur_ (i := 25) (N := some 42) gq_26 (by kernel_rfl) ?_
      refine tak_ (i := 26) (N := some 43) gq_27 (by kernel_rfl) hHeld ?_
      refine pur_ (i := 27) (N := some 44) gq_28 (by kernel_rfl) ?_
      refine tak_ (i := 28) (N := some 45) gq_29 (by kernel_rfl) hHeld ?_
      refine pur_ (i := 29) (N := some 46) gq_30 (by kernel_rfl) ?_
      refine one_ (i := 30) (N := some 47) gq_31 rfl rfl (by kernel_rfl) (by decide) (fun K hK => ?_)
      refine goes_ Tryd.func16 (by kernel_rfl) rfl #[.agg #[.string x.f0, .string x.f1, .int .u8 x.f3, .int .i64 x.f4.f0, .int .i64 x.f4.f1, .int .i64 x.f4.f2, .int .i64 x.f4.f3, .slice A7 x.f5.length c7]] (by rfl) rfl rfl (by first | rfl | (simp [Act.eval]; done)) ?_
      refine (bindleref08_Good.calls kg x.f0 x.f1 x.f3 x.f4.f0 x.f4.f1 x.f4.f2 x.f4.f3 A7 c7 x.f5 gd wq (by rw [← hwq]; exact Kd.C_drew (HCA.out _)) hl7' HKG.out).mono ?_
      rintro e w5 ⟨rfl, hb5⟩
      refine ⟨_, rfl, ?_⟩
      refine hK.out _ _ ⟨bkeep hb5 hHeld.1, bkeep hb5 hHeld.2.1, bkeep hb5 hHeld.2.2.1, bkeep hb5 hHeld.2.2.2.1, bkeep hb5 hHeld.2.2.2.2.1, bkeep hb5 hHeld.2.2.2.2.2.1, bkeep hb5 hHeld.2.2.2.2.2.2.1, bkeep hb5 hHeld.2.2.2.2.2.2.2.1, bkeep hb5 hHeld.2.2.2.2.2.2.2.2⟩ (fun hHeld => ?_)
      clear hK K
      refine norm_ (a' := ?_) ?_ ?_
      rotate_left
      ·show Act.put _ (some 47) _ = _
       simp only [Act.put, List.setIfInBounds_toArray, List.set_cons_zero, List.set_cons_succ, i64_w, i32_w]
       rfl
      refine pur_ (i := 31) (N := some 48) gq_32 (by kernel_rfl) ?_
      refine pur_ (i := 32) (N := some 49) gq_33 (by kernel_rfl) ?_
      refine done_ (by kernel_rfl) ?_
      go_wp2_with (fail)
      go_meet
      exact ⟨!gd, rfl, ⟨mid5_1 (by unfold headOk; rw [← HX.out, HGD.out, decide_eq_false H49.out, decide_eq_true (show n.toNat = 0 by have := HN0.out; omega)]; simp) ((show Below wr.heap.size wr wq from by rw [← hwq]; exact below_drew (below_alloc (Below.refl _ _) _)).trans (hb5.mono (by rw [← hwq]; show wr.heap.size ≤ (wr.alloc (.cells #[.string x.f0, .string x.f1, .string x.f2, .int .u8 x.f3, .int .i64 x.f4.f0, .int .i64 x.f4.f1, .int .i64 x.f4.f2, .int .i64 x.f4.f3, .slice A7 x.f5.length c7] 38)).heap.size; rw [World.size_alloc]; omega))) hHeld⟩⟩
    ·have g1 : decide (0 < n) = true := decide_eq_true (by omega)
     have g2 : decide (n > 0) = true := decide_eq_true (by omega)
     obtain ⟨j, hj⟩ : ∃ j, j = n - 1 := ⟨_, rfl⟩
     have hn1 : 0 ≤ j := by omega
     have hn2 : j < (l.length : Int) := by omega
     obtain ⟨ad', _, _, hA, hp0, _⟩ := at_T38 (Kd.C_below HC.out HB.out) j hn1 hn2
     cases hA
     have hy := rdN_at l j hn1 hn2
     generalize hy0 : (rd_T38 l j).f0 = y0 at hp0
     rw [hy] at hy0
     have HN0 := Aside0.mk hn0
     have HY := Aside0.mk hy0
     have hw64 : wrap64 (n - 1) = j := by unfold wrap64; omega
     have HJ := Aside0.mk hj
     clear hn0 hy hy0 hj
     cases hls : Op.bytesLess y0.toList x.f0.toList with
     | false =>
      refine start_ (n := 33) (S := fun w' => w'.cell? ⟨wr.heap.size, 0, none⟩ = some (.string x.f0) ∧ w'.cell? ⟨wr.heap.size, 1, none⟩ = some (.string x.f1) ∧ w'.cell? ⟨wr.heap.size, 2, none⟩ = some (.string x.f2) ∧ w'.cell? ⟨wr.heap.size, 3, none⟩ = some (.int .u8 x.f3) ∧ w'.cell? ⟨wr.heap.size, 4, none⟩ = some (.int .i64 x.f4.f0) ∧ w'.cell? ⟨wr.heap.size, 5, none⟩ = some (.int .i64 x.f4.f1) ∧ w'.cell? ⟨wr.heap.size, 6, none⟩ = some (.int .i64 x.f4.f2) ∧ w'.cell? ⟨wr.heap.size, 7, none⟩ = some (.int .i64 x.f4.f3) ∧ w'.cell? ⟨wr.heap.size, 8, none⟩ = some (.slice A7 x.f5.length c7) ∧ w'.cell? (ad.add (j.toNat * 9)) = some (.string y0)) (ds := []) gq_0 (by kernel_rfl) rfl rfl ⟨by simp, by simp, by simp, by simp, by simp, by simp, by simp, by simp, by simp, acell hp0 _⟩ (fun hHeld => ?_)
      generalize hwq : (wr.alloc (.cells #[.string x.f0, .string x.f1, .string x.f2, .int .u8 x.f3, .int .i64 x.f4.f0, .int .i64 x.f4.f1, .int .i64 x.f4.f2, .int .i64 x.f4.f3, .slice A7 x.f5.length c7] 38)).drew = wq at hHeld ⊢
      refine pur_ (i := 0) (N := some 17) gq_1 (by kernel_rfl) ?_
      refine pur_ (i := 1) (N := some 18) gq_2 (by kernel_rfl) ?_
      refine pur_ (i := 2) (N := some 19) gq_3 (by kernel_rfl) ?_
      refine pur_ (i := 3) (N := some 20) gq_4 (by kernel_rfl) ?_
      refine pur_ (i := 4) (N := some 21) gq_5 (by kernel_rfl) ?_
      refine pur_ (i := 5) (N := some 22) gq_6 (by kernel_rfl) ?_
      refine pur_ (i := 6) (N := some 23) gq_7 (by kernel_rfl) ?_
      refine pur_ (i := 7) (N := some 24) gq_8 (by kernel_rfl) ?_
      refine tak_ (i := 8) (N := some 25) gq_9 (by kernel_rfl) hHeld ?_
      refine pur_ (i := 9) (N := some 26) gq_10 (by kernel_rfl) ?_
      refine tak_ (i := 10) (N := some 27) gq_11 (by kernel_rfl) hHeld ?_
      refine pur_ (i := 11) (N := some 28) gq_12 (by kernel_rfl) ?_
      refine pur_ (i := 12) (N := some 29) gq_13 (by kernel_rfl) ?_
      refine pur_ (i := 13) (N := some 30) gq_14 (by kernel_rfl) ?_
      refine puu_ (i := 14) (N := some 31) gq_15 (by kernel_rfl) ?_
      refine puu_ (i := 15) (N := some 32) gq_16 (by kernel_rfl) ?_
      refine puu_ (i := 16) (N := some 33) gq_17 (by kernel_rfl) ?_
      refine pur_ (i := 17) (N := some 34) gq_18 (by kernel_rfl) ?_
      refine pur_ (i := 18) (N := some 35) gq_19 (by kernel_rfl) ?_
      refine puu_ (i := 19) (N := some 36) gq_20 (by kernel_rfl) ?_
      refine puu_ (i := 20) (N := some 37) gq_21 (by kernel_rfl) ?_
      refine puu_ (i := 21) (N := some 38) gq_22 (by kernel_rfl) ?_
      refine puu_ (i := 22) (N := some 39) gq_23 (by kernel_rfl) ?_
      refine puu_ (i := 23) (N := some 40) gq_24 (by kernel_rfl) ?_
      refine puu_ (i := 24) (N := some 41) gq_25 (by kernel_rfl) ?_
      refine puu_ (i := 25) (N := some 42) gq_26 (by kernel_rfl) ?_
      refine puu_ (i := 26) (N := some 43) gq_27 (by kernel_rfl) ?_
      refine puu_ (i := 27) (N := some 44) gq_28 (by kernel_rfl) ?_
      refine puu_ (i := 28) (N := some 45) gq_29 (by kernel_rfl) ?_
      refine puu_ (i := 29) (N := some 46) gq_30 (by kernel_rfl) ?_
      refine puu_ (i := 30) (N := some 47) gq_31 (by kernel_rfl) ?_
      refine puu_ (i := 31) (N := some 48) gq_32 (by kernel_rfl) ?_
      refine pur_ (i := 32) (N := some 49) gq_33 (by kernel_rfl) ?_
      refine done_ (by kernel_rfl) ?_
      clear hw64
      go_wp2_with (fail)
      go_meet
      exact ⟨true, rfl, ⟨mid5_2 (by unfold headOk; rw [← HX.out, decide_eq_false (show ¬ n.toNat = 0 by have := HN0.out; omega), show lt (l[n.toNat - 1]'(by have := HNL.out; omega)).f0 x.f0 = false from (prev_lt HY.out HJ.out hls)]; simp) (by rw [← hwq]; exact below_drew (below_alloc (Below.refl _ _) _)) hHeld⟩⟩
     | true =>
      by_cases h49 : x.f3 = 49
      ·have e49 : (x.f3 == 49) = true := beq_iff_eq.2 h49
       have H49 := Aside0.mk h49
       clear h49
       refine start_ (n := 33) (S := fun w' => w'.cell? ⟨wr.heap.size, 0, none⟩ = some (.string x.f0) ∧ w'.cell? ⟨wr.heap.size, 1, none⟩ = some (.string x.f1) ∧ w'.cell? ⟨wr.heap.size, 2, none⟩ = some (.string x.f2) ∧ w'.cell? ⟨wr.heap.size, 3, none⟩ = some (.int .u8 x.f3) ∧ w'.cell? ⟨wr.heap.size, 4, none⟩ = some (.int .i64 x.f4.f0) ∧ w'.cell? ⟨wr.heap.size, 5, none⟩ = some (.int .i64 x.f4.f1) ∧ w'.cell? ⟨wr.heap.size, 6, none⟩ = some (.int .i64 x.f4.f2) ∧ w'.cell? ⟨wr.heap.size, 7, none⟩ = some (.int .i64 x.f4.f3) ∧ w'.cell? ⟨wr.heap.size, 8, none⟩ = some (.slice A7 x.f5.length c7) ∧ w'.cell? (ad.add (j.toNat * 9)) = some (.string y0)) (ds := []) gq_0 (by kernel_rfl) rfl rfl ⟨by simp, by simp, by simp, by simp, by simp, by simp, by simp, by simp, by simp, acell hp0 _⟩ (fun hHeld => ?_)
       generalize hwq : (wr.alloc (.cells #[.string x.f0, .string x.f1, .string x.f2, .int .u8 x.f3, .int .i64 x.f4.f0, .int .i64 x.f4.f1, .int .i64 x.f4.f2, .int .i64 x.f4.f3, .slice A7 x.f5.length c7] 38)).drew = wq at hHeld ⊢
       refine pur_ (i := 0) (N := some 17) gq_1 (by kernel_rfl) ?_
       refine pur_ (i := 1) (N := some 18) gq_2 (by kernel_rfl) ?_
       refine pur_ (i := 2) (N := some 19) gq_3 (by kernel_rfl) ?_
       refine pur_ (i := 3) (N := some 20) gq_4 (by kernel_rfl) ?_
       refine pur_ (i := 4) (N := some 21) gq_5 (by kernel_rfl) ?_
       refine pur_ (i := 5) (N := some 22) gq_6 (by kernel_rfl) ?_
       refine pur_ (i := 6) (N := some 23) gq_7 (by kernel_rfl) ?_
       refine pur_ (i := 7) (N := some 24) gq_8 (by kernel_rfl) ?_
       refine tak_ (i := 8) (N := some 25) gq_9 (by kernel_rfl) hHeld ?_
       refine pur_ (i := 9) (N := some 26) gq_10 (by kernel_rfl) ?_
       refine tak_ (i := 10) (N := some 27) gq_11 (by kernel_rfl) hHeld ?_
       refine pur_ (i := 11) (N := some 28) gq_12 (by kernel_rfl) ?_
       refine pur_ (i := 12) (N := some 29) gq_13 (by kernel_rfl) ?_
       refine pur_ (i := 13) (N := some 30) gq_14 (by kernel_rfl) ?_
       refine pur_ (i := 14) (N := some 31) gq_15 (by kernel_rfl) ?_
       refine tak_ (i := 15) (N := some 32) gq_16 (by kernel_rfl) hHeld ?_
       refine pur_ (i := 16) (N := some 33) gq_17 (by kernel_rfl) ?_
       refine pur_ (i := 17) (N := some 34) gq_18 (by kernel_rfl) ?_
       refine pur_ (i := 18) (N := some 35) gq_19 (by kernel_rfl) ?_
       refine puu_ (i := 19) (N := some 36) gq_20 (by kernel_rfl) ?_
       refine puu_ (i := 20) (N := some 37) gq_21 (by kernel_rfl) ?_
       refine puu_ (i := 21) (N := some 38) gq_22 (by kernel_rfl) ?_
       refine puu_ (i := 22) (N := some 39) gq_23 (by kernel_rfl) ?_
       refine puu_ (i := 23) (N := some 40) gq_24 (by kernel_rfl) ?_
       refine puu_ (i := 24) (N := some 41) gq_25 (by kernel_rfl) ?_
       refine puu_ (i := 25) (N := some 42) gq_26 (by kernel_rfl) ?_
       refine puu_ (i := 26) (N := some 43) gq_27 (by kernel_rfl) ?_
       refine puu_ (i := 27) (N := some 44) gq_28 (by kernel_rfl) ?_
       refine puu_ (i := 28) (N := some 45) gq_29 (by kernel_rfl) ?_
       refine puu_ (i := 29) (N := some 46) gq_30 (by kernel_rfl) ?_
       refine puu_ (i := 30) (N := some 47) gq_31 (by kernel_rfl) ?_
       refine puu_ (i := 31) (N := some 48) gq_32 (by kernel_rfl) ?_
       refine pur_ (i := 32) (N := some 49) gq_33 (by kernel_rfl) ?_
       refine done_ (by kernel_rfl) ?_
       clear hw64
       go_wp2_with (fail)
       go_meet
       exact ⟨true, rfl, ⟨mid5_2 (by unfold headOk; rw [← HX.out, decide_eq_true H49.out]; simp) (by rw [← hwq]; exact below_drew (below_alloc (Below.refl _ _) _)) hHeld⟩⟩
      ·have e49 : (x.f3 == 49) = false := beq_eq_false_iff_ne.2 h49
       have H49 := Aside0.mk h49
       clear h49
       refine start_ (n := 33) (S := fun w' => w'.cell? ⟨wr.heap.size, 0, none⟩ = some (.string x.f0) ∧ w'.cell? ⟨wr.heap.size, 1, none⟩ = some (.string x.f1) ∧ w'.cell? ⟨wr.heap.size, 2, none⟩ = some (.string x.f2) ∧ w'.cell? ⟨wr.heap.size, 3, none⟩ = some (.int .u8 x.f3) ∧ w'.cell? ⟨wr.heap.size, 4, none⟩ = some (.int .i64 x.f4.f0) ∧ w'.cell? ⟨wr.heap.size, 5, none⟩ = some (.int .i64 x.f4.f1) ∧ w'.cell? ⟨wr.heap.size, 6, none⟩ = some (.int .i64 x.f4.f2) ∧ w'.cell? ⟨wr.heap.size, 7, none⟩ = some (.int .i64 x.f4.f3) ∧ w'.cell? ⟨wr.heap.size, 8, none⟩ = some (.slice A7 x.f5.length c7) ∧ w'.cell? (ad.add (j.toNat * 9)) = some (.string y0)) (ds := []) gq_0 (by kernel_rfl) rfl rfl ⟨by simp, by simp, by simp, by simp, by simp, by simp, by simp, by simp, by simp, acell hp0 _⟩ (fun hHeld => ?_)
       generalize hwq : (wr.alloc (.cells #[.string x.f0, .string x.f1, .string x.f2, .int .u8 x.f3, .int .i64 x.f4.f0, .int .i64 x.f4.f1, .int .i64 x.f4.f2, .int .i64 x.f4.f3, .slice A7 x.f5.length c7] 38)).drew = wq at hHeld ⊢
       refine pur_ (i := 0) (N := some 17) gq_1 (by kernel_rfl) ?_
       refine pur_ (i := 1) (N := some 18) gq_2 (by kernel_rfl) ?_
       refine pur_ (i := 2) (N := some 19) gq_3 (by kernel_rfl) ?_
       refine pur_ (i := 3) (N := some 20) gq_4 (by kernel_rfl) ?_
       refine pur_ (i := 4) (N := some 21) gq_5 (by kernel_rfl) ?_
       refine pur_ (i := 5) (N := some 22) gq_6 (by kernel_rfl) ?_
       refine pur_ (i := 6) (N := some 23) gq_7 (by kernel_rfl) ?_
       refine pur_ (i := 7) (N := some 24) gq_8 (by kernel_rfl) ?_
       refine tak_ (i := 8) (N := some 25) gq_9 (by kernel_rfl) hHeld ?_
       refine pur_ (i := 9) (N := some 26) gq_10 (by kernel_rfl) ?_
       refine tak_ (i := 10) (N := some 27) gq_11 (by kernel_rfl) hHeld ?_
       refine pur_ (i := 11) (N := some 28) gq_12 (by kernel_rfl) ?_
       refine pur_ (i := 12) (N := some 29) gq_13 (by kernel_rfl) ?_
       refine pur_ (i := 13) (N := some 30) gq_14 (by kernel_rfl) ?_
       refine pur_ (i := 14) (N := some 31) gq_15 (by kernel_rfl) ?_
       refine tak_ (i := 15) (N := some 32) gq_16 (by kernel_rfl) hHeld ?_
       refine pur_ (i := 16) (N := some 33) gq_17 (by kernel_rfl) ?_
       refine pur_ (i := 17) (N := some 34) gq_18 (by kernel_rfl) ?_
       refine pur_ (i := 18) (N := some 35) gq_19 (by kernel_rfl) ?_
       refine pur_ (i := 19) (N := some 36) gq_20 (by kernel_rfl) ?_
       refine tak_ (i := 20) (N := some 37) gq_21 (by kernel_rfl) hHeld ?_
       refine pur_ (i := 21) (N := some 38) gq_22 (by kernel_rfl) ?_
       refine tak_ (i := 22) (N := some 39) gq_23 (by kernel_rfl) hHeld ?_
       refine pur_ (i := 23) (N := some 40) gq_24 (by kernel_rfl) ?_
       refine tak_ (i := 24) (N := some 41) gq_25 (by kernel_rfl) hHeld ?_
       refine pur_ (i := 25) (N := some 42) gq_26 (by kernel_rfl) ?_
       refine tak_ (i := 26) (N := some 43) gq_27 (by kernel_rfl) hHeld ?_
       refine pur_ (i := 27) (N := some 44) gq_28 (by kernel_rfl) ?_
       refine tak_ (i := 28) (N := some 45) gq_29 (by kernel_rfl) hHeld ?_
       refine pur_ (i := 29) (N := some 46) gq_30 (by kernel_rfl) ?_
       refine one_ (i := 30) (N := some 47) gq_31 rfl rfl (by kernel_rfl) (by decide) (fun K hK => ?_)
       refine goes_ Tryd.func16 (by kernel_rfl) rfl #[.agg #[.string x.f0, .string x.f1, .int .u8 x.f3, .int .i64 x.f4.f0, .int .i64 x.f4.f1, .int .i64 x.f4.f2, .int .i64 x.f4.f3, .slice A7 x.f5.length c7]] (by rfl) rfl rfl (by first | rfl | (simp [Act.eval]; done)) ?_
       refine (bindleref08_Good.calls kg x.f0 x.f1 x.f3 x.f4.f0 x.f4.f1 x.f4.f2 x.f4.f3 A7 c7 x.f5 gd wq (by rw [← hwq]; exact Kd.C_drew (HCA.out _)) hl7' HKG.out).mono ?_
       rintro e w5 ⟨rfl, hb5⟩
       refine ⟨_, rfl, ?_⟩
       refine hK.out _ _ ⟨bkeep hb5 hHeld.1, bkeep hb5 hHeld.2.1, bkeep hb5 hHeld.2.2.1, bkeep hb5 hHeld.2.2.2.1, bkeep hb5 hHeld.2.2.2.2.1, bkeep hb5 hHeld.2.2.2.2.2.1, bkeep hb5 hHeld.2.2.2.2.2.2.1, bkeep hb5 hHeld.2.2.2.2.2.2.2.1, bkeep hb5 hHeld.2.2.2.2.2.2.2.2.1, bkeep hb5 hHeld.2.2.2.2.2.2.2.2.2⟩ (fun hHeld => ?_)
       clear hK K
       refine norm_ (a' := ?_) ?_ ?_
       rotate_left
       ·show Act.put _ (some 47) _ = _
        simp only [Act.put, List.setIfInBounds_toArray, List.set_cons_zero, List.set_cons_succ, i64_w, i32_w]
        rfl
       refine pur_ (i := 31) (N := some 48) gq_32 (by kernel_rfl) ?_
       refine pur_ (i := 32) (N := some 49) gq_33 (by kernel_rfl) ?_
       refine done_ (by kernel_rfl) ?_
       clear hw64
       go_wp2_with (fail)
       go_meet
       exact ⟨!gd, rfl, ⟨mid5_2 (by unfold headOk; rw [← HX.out, HGD.out, decide_eq_false H49.out, show lt (l[n.toNat - 1]'(by have := HNL.out; omega)).f0 x.f0 = true from (prev_lt HY.out HJ.out hls)]; simp) ((show Below wr.heap.size wr wq from by rw [← hwq]; exact below_drew (below_alloc (Below.refl _ _) _)).trans (hb5.mono (by rw [← hwq]; show wr.heap.size ≤ (wr.alloc (.cells #[.string x.f0, .string x.f1, .string x.f2, .int .u8 x.f3, .int .i64 x.f4.f0, .int .i64 x.f4.f1, .int .i64 x.f4.f2, .int .i64 x.f4.f3, .slice A7 x.f5.length c7] 38)).heap.size; rw [World.size_alloc]; omega))) hHeld⟩⟩
   case rest =>
    obtain ⟨b, rfl, HM⟩ := hcut
    obtain ⟨wm, rfl⟩ : ∃ wm : World, wm = wc := ⟨_, rfl⟩
    have HBW := Aside0.mk (HB.out.trans (HM.out.2.1.mono HB.out.size))
    cases b with
    | true =>
     go_wp2
     rw [← hQ.out]
     refine ⟨by rw [goodTree_not n.toNat HNL.out (by rw [nodeOk_head, show headOk l n.toNat HNL.out = false from by have := HM.out.1; simpa using this.symm]; rfl)]; rfl, HBW.out⟩
    | false =>
     obtain ⟨⟨b0, b1, b2, b3⟩, ⟨b4, b5, b6, b7⟩, b8⟩ := HM.out.2.2
     have hhd : headOk l n.toNat HNL.out = true := by have := HM.out.1; simpa using this.symm
     have HHD := Aside0.mk hhd
     clear hhd
     by_cases h48 : x.f3 = 48
     ·have e48 : (x.f3 != 48) = false := by rw [bne_eq_false_iff_eq]; exact h48
      have H48 := Aside0.mk h48
      clear h48
      have hns : (n + 1).toNat ≤ l.length := by omega
      have hnt : (l.take (n + 1).toNat).length = (n + 1).toNat := by rw [List.length_take]; omega
      have hCt : Kd.C k38 wm (some ad) (n + 1).toNat (l.take (n + 1).toNat) := by have := Kd.C_take (Kd.C_below HC.out HBW.out) hns; rw [hnt] at this; exact this
      have hs0 : (0 : Int) ≤ n + 1 := by omega
      have hs1 : n + 1 ≤ (c0 : Int) := by have := HC0.out; omega
      have hs2 : IntKind.i64.wrap (n + 1) = n + 1 := IntWalk.i64_in _ (by omega)
      have HT := Aside0.mk (Kd.C_F nodeHeap hCt)
      have HNT := Aside0.mk hnt
      have hBlt : wr.heap.size < wm.heap.size := World.block_lt_of_cell? wm ⟨wr.heap.size, 2, none⟩ b2
      have hRF : ∀ W2, Kd.F k38 W2 (fun k => k < wm.heap.size) (some ad) (n + 1).toNat (l.take (n + 1).toNat) → Calls Tryd.prog 19 #[.slice (some ad) (n + 1).toNat c0, .string x.f2] W2 fun e W' => ∃ x' b A c, (match findF (l.take (n + 1).toNat) x.f2 with | some y => x' = y ∧ b = true | none => x' = z38 ∧ b = false) ∧ e = .returned (.tuple #[.agg (nodeCells x' (.slice A x'.f5.length c)), .bool b]) ∧ x'.f5.length ≤ c ∧ Kd.F (Kd.int .u8) W' (fun k => k < wm.heap.size ∨ W2.heap.size ≤ k) A x'.f5.length x'.f5 ∧ Below W2.heap.size W2 W' := fun W2 hC2 => by
       have h := RefFind_F (fun k => k < wm.heap.size) (some ad) c0 (l.take (n + 1).toNat) x.f2 W2 (by rw [hnt]; exact hC2) (by rw [hnt]; have := HC0.out; omega) (by rw [hnt]; omega)
       rw [hnt] at h
       exact h
      have RFC := Aside0.mk hRF
      have hne1 : ¬ wr.heap.size = wm.heap.size := by omega
      have hne2 : ¬ wm.heap.size = wr.heap.size := by omega
      clear hCt hnt hRF
      go_upto_region 10 with (fail)
      go_cut [5, 6] (fun v5 v6 wx => ∃ g y b A c, v5 = .pointer (some ⟨g, 0, none⟩) ∧ v6 = .bool b ∧ Aside0 (Mid10 l n.toNat wr.heap.size x (.slice A7 x.f5.length c7) g y b A c wm wx))
      case first =>
       go_region_held3 (fun w' => w'.cell? ⟨wr.heap.size, 2, none⟩ = some (.string x.f2)) (go_keep) ((go_at_call 19; refine (RFC.out _ (by first | exact Kd.F_drew HT.out | exact Kd.F_alloc (Kd.F_drew HT.out) _)).mono ?_; rintro e w1 ⟨y, b, A, c, hm, rfl, hlc, hCy, hb⟩; have hs2b : w1.cell? ⟨wr.heap.size, 2, none⟩ = some (.string x.f2) := (by first | exact bkeep hb (show wm.drew.cell? ⟨wr.heap.size, 2, none⟩ = _ from b2) | exact bkeep hb (acell (show wm.drew.cell? ⟨wr.heap.size, 2, none⟩ = _ from b2) _)); have HM1 := Aside0.mk hm; have HLC := Aside0.mk hlc; have HCY := Aside0.mk hCy; have HB1 := Aside0.mk hb; (first | (have hz9 : wm.heap.size < w1.heap.size := lt_of_alloc hb) | skip); obtain ⟨hcb, hfb⟩ := bcell hb; clear hm hlc hCy hb; simp only [nodeCells]))
       ·go_wp2_with (fail)
        go_meet
        exact ⟨_, y, b, A, c, rfl, rfl, ⟨mid10_a HM1.out HM.out.2.2 HB1.out HCY.out h0⟩⟩
       ·go_wp2_with (fail)
        go_meet
        exact ⟨_, y, b, A, c, rfl, rfl, ⟨mid10_b HM1.out HM.out.2.2 HB1.out HCY.out h0 rfl⟩⟩
      case rest =>
       obtain ⟨g, y, b, A, c, rfl, rfl, HM2⟩ := hcut
       have hnd := nodeOk_lead (n := n.toNat) HNL.out HX.out (fun j hj hjn => HR.out.2.2.1 j hj (by omega)) HHD.out H48.out HM2.out.1
       have HND := Aside0.mk hnd
       have HBD := Aside0.mk (HBW.out.trans (HM2.out.2.1.mono HBW.out.size))
       have hno : ∀ b', (b && leadB y x) = b' → nodeOk l n.toNat HNL.out = b' := fun b' h => hnd.trans h
       have HNO := Aside0.mk hno
       clear hnd hno b0 b1 b2 b3 b4 b5 b6 b7 b8
       obtain ⟨⟨c0_, c1_, c2_, c3_⟩, ⟨c4_, c5_, c6_, c7_⟩, c8_⟩ := HM2.out.2.2.1
       obtain ⟨⟨d0, d1, d2, d3⟩, ⟨d4, d5, d6, d7⟩, d8⟩ := HM2.out.2.2.2.1
       cases b with
       | false =>
        go_wp2
        rw [← hQ.out]
        exact ⟨by rw [goodTree_not n.toNat HNL.out (HNO.out _ rfl)]; rfl, HBD.out⟩
       | true =>
        by_cases k3 : y.f3 = 48
        ·have e3 : (y.f3 != 48) = false := by rw [bne_eq_false_iff_eq]; exact k3
         have K3 := Aside0.mk k3
         clear k3
         by_cases k2 : y.f2.toList = y.f0.toList
         ·have e2 : (y.f2.toList != y.f0.toList) = false := by rw [bne_eq_false_iff_eq]; exact k2
          have e2' : (y.f2.toList == y.f0.toList) = true := by rw [beq_iff_eq]; exact k2
          have K2 := Aside0.mk k2
          clear k2
          cases k4 : (y.f4.f0 == x.f4.f0 && (y.f4.f1 == x.f4.f1 && (y.f4.f2 == x.f4.f2 && (y.f4.f3 == x.f4.f3)))) with
          | true =>
           have e4 : (!(y.f4.f0 == x.f4.f0) || (!(y.f4.f1 == x.f4.f1) || (!(y.f4.f2 == x.f4.f2) || !(y.f4.f3 == x.f4.f3)))) = false := by simpa using k4
           have K4 := Aside0.mk k4
           clear k4
           have hsx := Kd.C_string (P := Tryd.prog) (A := A7) (c := c7) Tryd.underlying25 Tryd.underlying5 Tryd.underlying9 (Kd.C_below (Kd.C_below HC7.out HM.out.2.1) HM2.out.2.1)
           have hsy := Kd.C_string (P := Tryd.prog) (A := A) (c := c) Tryd.underlying25 Tryd.underlying5 Tryd.underlying9 HM2.out.2.2.2.2
           by_cases k5 : (strOfNums y.f5).toList = (strOfNums x.f5).toList
           ·have e5 : ((strOfNums y.f5).toList != (strOfNums x.f5).toList) = false := by rw [bne_eq_false_iff_eq]; exact k5
            have e5' : ((strOfNums y.f5).toList == (strOfNums x.f5).toList) = true := by rw [beq_iff_eq]; exact k5
            have K5 := Aside0.mk k5
            clear k5
            have hok : nodeOk l n.toNat HNL.out = true := HNO.out _ (leadB_ok K3.out K2.out K4.out K5.out)
            have hfin : RefRel l W (n + 1) wc := refRel_next HR.out HNL.out HHD.out (by rw [nodeOk_head, Bool.and_eq_true] at hok; exact hok.2) HBD.out
            have HF := Aside0.mk hfin
            clear hok hfin
            go_wp2
            go_roundg (gk - 1)
            case measure => have := HG.out; omega
            case rel => exact ⟨n + 1, by go_num, HF, ⟨by have := HG.out; omega⟩⟩
           ·have e5 : ((strOfNums y.f5).toList != (strOfNums x.f5).toList) = true := by rw [bne_iff_ne]; exact k5
            have e5' : ((strOfNums y.f5).toList == (strOfNums x.f5).toList) = false := by rw [beq_eq_false_iff_ne]; exact k5
            have K5 := Aside0.mk k5
            clear k5
            go_wp2
            rw [← hQ.out]
            exact ⟨by rw [goodTree_not n.toNat HNL.out (HNO.out _ (by unfold leadB; rw [decide_eq_false (fun h => K5.out h.2.2.2.2.2.2)]; rfl))]; rfl, HBD.out⟩
          | false =>
           have e4 : (!(y.f4.f0 == x.f4.f0) || (!(y.f4.f1 == x.f4.f1) || (!(y.f4.f2 == x.f4.f2) || !(y.f4.f3 == x.f4.f3)))) = true := by cases k5 : (!(y.f4.f0 == x.f4.f0) || (!(y.f4.f1 == x.f4.f1) || (!(y.f4.f2 == x.f4.f2) || !(y.f4.f3 == x.f4.f3)))) with | true => rfl | false => (exfalso; revert k4 k5; cases (y.f4.f0 == x.f4.f0) <;> cases (y.f4.f1 == x.f4.f1) <;> cases (y.f4.f2 == x.f4.f2) <;> cases (y.f4.f3 == x.f4.f3) <;> decide)
           have K4 := Aside0.mk k4
           clear k4
           go_wp2
           all_goals (rw [← hQ.out]; exact ⟨by rw [goodTree_not n.toNat HNL.out (HNO.out _ (leadB_4 K4.out))]; rfl, HBD.out⟩)
         ·have e2 : (y.f2.toList != y.f0.toList) = true := by rw [bne_iff_ne]; exact k2
          have e2' : (y.f2.toList == y.f0.toList) = false := by rw [beq_eq_false_iff_ne]; exact k2
          have K2 := Aside0.mk k2
          clear k2
          go_wp2
          rw [← hQ.out]
          exact ⟨by rw [goodTree_not n.toNat HNL.out (HNO.out _ (by unfold leadB; rw [decide_eq_false (fun h => K2.out h.2.1)]; rfl))]; rfl, HBD.out⟩
        ·have e3 : (y.f3 != 48) = true := by rw [bne_iff_ne]; exact k3
         have K3 := Aside0.mk k3
         clear k3
         go_wp2
         rw [← hQ.out]
         exact ⟨by rw [goodTree_not n.toNat HNL.out (HNO.out _ (by unfold leadB; rw [decide_eq_false (fun h => K3.out h.1)]; rfl))]; rfl, HBD.out⟩
     ·have e48 : (x.f3 != 48) = true := by rw [bne_iff_ne]; exact h48
      have H48 := Aside0.mk h48
      clear h48
      cases hle : x.f2.toList.isEmpty with
      | false =>
       go_wp2
       rw [← hQ.out]
       refine ⟨by rw [goodTree_not n.toNat HNL.out (by unfold nodeOk; rw [← HX.out]; unfold ledB; rw [if_neg H48.out, decide_eq_false (show ¬ x.f2.toList = [] from fun e => by rw [e] at hle; cases hle)]; simp)]; rfl, HBW.out⟩
      | true =>
       have hfin : RefRel l W (n + 1) wm := refRel_next HR.out HNL.out HHD.out (by rw [← HX.out]; unfold ledB; rw [if_neg H48.out, decide_eq_true (List.isEmpty_iff.1 hle)]) HBW.out
       go_wp2
       go_roundg (gk - 1)
       case measure => have := HG.out; omega
       case rel => exact ⟨n + 1, by go_num, ⟨hfin⟩, ⟨by have := HG.out; omega⟩⟩
  ·have c1b : decide (n < (l.length : Int)) = false := decide_eq_false hlt
   go_wp2
   rw [← hQ.out]
   refine ⟨?_, HB.out⟩
   rw [goodTree_of (fun i hi => HR.out.2.2.1 i hi (by omega))]
   rw [show decide ((l.length : Int) ≤ 4096) = decide (l.length ≤ 4096) from decide_eq_decide.2 (by omega)]
end Go.Proofs.YtfmphccoeinhcaaDoor

namespace Go.Proofs.YtfmphccoeinhcaaDoor.Print
open Go.RowKit Go.Proofs.YtfmphccoeinhcaaDoor Go.Proofs.YtfmphccoeinhcaaDoorW.PrintWords Go.Proofs.YtfmphccoeinhcaaDoorW.PrintLast Go.Proofs.YtfmphccoeinhcaaDoorW.PrintMore
set_option linter.unusedVariables false
def bindleref08_GoodTree.f (l : List S38) : Option Bool := if nodesZ l = true then some (goodTree l) else none
theorem bindleref08_GoodTree.calls (A0 : Option Addr) (c0 : Nat) (l0 : List S38) (r : Bool) (w : World) (hr0 : Kd.C k38 w A0 l0.length l0) (hc0 : l0.length ≤ c0) (h : bindleref08_GoodTree.f l0 = some r) :
  Calls Tryd.prog 26 #[.slice A0 l0.length c0] w fun e w' => e = .returned (.bool r) ∧ Below w.heap.size w w' := by
 unfold bindleref08_GoodTree.f at h
 split at h
 ·rename_i hc
  simp only [Option.some.injEq] at h
  subst h
  exact RefTree_calls A0 c0 l0 w hr0 hc0 ((nodesZ_iff l0).1 hc)
 ·cases h
end Go.Proofs.YtfmphccoeinhcaaDoor.Print

namespace Go.Proofs.YtfmphccoeinhcaaDoor.Print
open Go.RowKit Go.Proofs.YtfmphccoeinhcaaDoorW.PrintWords Go.Proofs.YtfmphccoeinhcaaDoorW.PrintLast Go.Proofs.YtfmphccoeinhcaaDoorW.PrintMore
attribute [local go_sem] max2_int min2_int max_two min_two max_three min_three max_four min_four   -- for this text's walks alone
set_option linter.unusedVariables false
set_option linter.unusedSimpArgs false
attribute [local go_sem high] eqA24
def bindleref08_Equal.f (a0_0 : ByteArray) (a0_1 : ByteArray) (a0_2 : ByteArray) (a0_3 : Int) (a0_4 : Int) (a0_5 : Int) (a0_6 : Int) (a0_7 : Int) (l0_8 : List Int) (a1_0 : ByteArray) (a1_1 : ByteArray) (a1_2 : ByteArray) (a1_3 : Int) (a1_4 : Int) (a1_5 : Int) (a1_6 : Int) (a1_7 : Int) (l1_8 : List Int) : Option (Bool) := if a0_0.toList = a1_0.toList then (if a0_3 = a1_3 then (if (a0_4 == a1_4 && (a0_5 == a1_5 && (a0_6 == a1_6 && (a0_7 == a1_7)))) = true then (if a0_1.toList = a1_1.toList then (some ((strOfNums l0_8).toList == (strOfNums l1_8).toList)) else (some false)) else (some false)) else (some false)) else (some false)
set_option maxHeartbeats 8000000 in
set_option maxRecDepth 100000 in
theorem bindleref08_Equal.calls (a0_0 : ByteArray) (a0_1 : ByteArray) (a0_2 : ByteArray) (a0_3 : Int) (a0_4 : Int) (a0_5 : Int) (a0_6 : Int) (a0_7 : Int) (A0_8 : Option Addr) (c0_8 : Nat) (l0_8 : List Int) (a1_0 : ByteArray) (a1_1 : ByteArray) (a1_2 : ByteArray) (a1_3 : Int) (a1_4 : Int) (a1_5 : Int) (a1_6 : Int) (a1_7 : Int) (A1_8 : Option Addr) (c1_8 : Nat) (l1_8 : List Int) (r : Bool) (w : World) (hr0_8 : Kd.C (Kd.int .u8) w A0_8 l0_8.length l0_8) (hc0_8 : l0_8.length ≤ c0_8) (hr1_8 : Kd.C (Kd.int .u8) w A1_8 l1_8.length l1_8) (hc1_8 : l1_8.length ≤ c1_8) (h : bindleref08_Equal.f a0_0 a0_1 a0_2 a0_3 a0_4 a0_5 a0_6 a0_7 l0_8 a1_0 a1_1 a1_2 a1_3 a1_4 a1_5 a1_6 a1_7 l1_8 = some r) :
  Calls Tryd.prog 20 #[.agg #[.string a0_0, .string a0_1, .string a0_2, .int .u8 a0_3, .int .i64 a0_4, .int .i64 a0_5, .int .i64 a0_6, .int .i64 a0_7, .slice A0_8 l0_8.length c0_8], .agg #[.string a1_0, .string a1_1, .string a1_2, .int .u8 a1_3, .int .i64 a1_4, .int .i64 a1_5, .int .i64 a1_6, .int .i64 a1_7, .slice A1_8 l1_8.length c1_8]] w fun e w' => e = .returned (.bool r) ∧ Below w.heap.size w w' := by
 have hu38 := Tryd.underlying38
 have hu24 := Tryd.underlying24
 have HR0_8 := A0_ hr0_8
 have HC0_8 := A0_ hc0_8
 clear hr0_8 hc0_8
 have HR1_8 := A0_ hr1_8
 have HC1_8 := A0_ hc1_8
 clear hr1_8 hc1_8
 have HB := A0_ (Below.refl w.heap.size w)
 have H : (if a0_0.toList = a1_0.toList then (if a0_3 = a1_3 then (if (a0_4 == a1_4 && (a0_5 == a1_5 && (a0_6 == a1_6 && (a0_7 == a1_7)))) = true then (if a0_1.toList = a1_1.toList then (some ((strOfNums l0_8).toList == (strOfNums l1_8).toList)) else (some false)) else (some false)) else (some false)) else (some false)) = some r := h
 clear h
 by_cases c3 : a0_0.toList = a1_0.toList
 rotate_left
 ·rw [if_neg c3] at H
  have c3b0 : (a0_0.toList == a1_0.toList) = false := beq_eq_false_iff_ne.mpr c3
  have c3b1 : (a0_0.toList != a1_0.toList) = true := bne_iff_ne.mpr c3
  obtain rfl := Option.some.inj H
  go_enter Tryd.func20, Tryd.ntmps20
  go_wp2_with (first | ((with_reducible refine gate_dst (N := 2) rfl ?_); refine box_event ?hg (N := 2) ?hd (cs := #[.string a0_0, .string a0_1, .string a0_2, .int .u8 a0_3, .int .i64 a0_4, .int .i64 a0_5, .int .i64 a0_6, .int .i64 a0_7, .slice A0_8 l0_8.length c0_8]) (t := 38) ?hr ?_; (case hd => rfl); (case hg => rfl); (case hr => first | (go_simp; done) | (go_simp; rfl)); intro gb118 hg w29 hbox hb; have n0_ := A0_ (below_step (wb_ HB.out) hb); have n1_ := A0_ (hbox); have n2_ := A0_ ((by rw [hg]; exact (below_size (wb_ HB.out)) : w.heap.size ≤ gb118)); have n3_ := A0_ ((by rw [hg]; exact (below_size (wb_ HB.out)) : w.heap.size ≤ gb118)); clear HB; have HB := n0_; have BK118 := n1_; have GW118 := n2_; have GE118 := n3_; clear n0_ n1_ n2_ n3_; clear hb hbox hg) | ((with_reducible refine gate_dst (N := 3) rfl ?_); refine box_event ?hg (N := 3) ?hd (cs := #[.string a1_0, .string a1_1, .string a1_2, .int .u8 a1_3, .int .i64 a1_4, .int .i64 a1_5, .int .i64 a1_6, .int .i64 a1_7, .slice A1_8 l1_8.length c1_8]) (t := 38) ?hr ?_; (case hd => rfl); (case hg => rfl); (case hr => first | (go_simp; done) | (go_simp; rfl)); intro gb119 hg w30 hbox hb; have n0_ := A0_ (blk_below (g := gb118) (o := .cells #[.string a0_0, .string a0_1, .string a0_2, .int .u8 a0_3, .int .i64 a0_4, .int .i64 a0_5, .int .i64 a0_6, .int .i64 a0_7, .slice A0_8 l0_8.length c0_8] 38 (0, 0)) (wB_ BK118.out) hb); have n1_ := A0_ (below_step (wb1_ HB.out GE118.out) hb); have n2_ := A0_ (hbox); have n3_ := A0_ ((by rw [hg]; exact (below_size (wb1_ HB.out GE118.out)) : w.heap.size ≤ gb119)); have n4_ := A0_ ((by rw [hg]; exact (below_size (wb1_ HB.out GE118.out)) : w.heap.size ≤ gb119)); have n5_ := A0_ ((by rw [hg]; exact Nat.ne_of_lt (blk_lt (g := gb118) (o := .cells #[.string a0_0, .string a0_1, .string a0_2, .int .u8 a0_3, .int .i64 a0_4, .int .i64 a0_5, .int .i64 a0_6, .int .i64 a0_7, .slice A0_8 l0_8.length c0_8] 38 (0, 0)) (wB_ BK118.out)) : gb118 ≠ gb119)); have n6_ := A0_ ((by rw [hg]; exact Nat.ne_of_gt (blk_lt (g := gb118) (o := .cells #[.string a0_0, .string a0_1, .string a0_2, .int .u8 a0_3, .int .i64 a0_4, .int .i64 a0_5, .int .i64 a0_6, .int .i64 a0_7, .slice A0_8 l0_8.length c0_8] 38 (0, 0)) (wB_ BK118.out)) : gb119 ≠ gb118)); clear BK118; clear HB; have BK118 := n0_; have HB := n1_; have BK119 := n2_; have GW119 := n3_; have GE119 := n4_; have NB118_119 := n5_; have NB119_118 := n6_; clear n0_ n1_ n2_ n3_ n4_ n5_ n6_; clear hb hbox hg; have hnb31 := NB118_119.out; have hnc31 := NB119_118.out; have hcz32_0 : w30.cell? ⟨gb118, 0, none⟩ = some (.string a0_0) := (bc_ BK118.out 0).trans rfl; have hcz32_1 : w30.cell? ⟨gb118, 1, none⟩ = some (.string a0_1) := (bc_ BK118.out 1).trans rfl; have hcz32_2 : w30.cell? ⟨gb118, 2, none⟩ = some (.string a0_2) := (bc_ BK118.out 2).trans rfl; have hcz32_3 : w30.cell? ⟨gb118, 3, none⟩ = some (.int .u8 a0_3) := (bc_ BK118.out 3).trans rfl; have hcz32_4 : w30.cell? ⟨gb118, 4, none⟩ = some (.int .i64 a0_4) := (bc_ BK118.out 4).trans rfl; have hcz32_5 : w30.cell? ⟨gb118, 5, none⟩ = some (.int .i64 a0_5) := (bc_ BK118.out 5).trans rfl; have hcz32_6 : w30.cell? ⟨gb118, 6, none⟩ = some (.int .i64 a0_6) := (bc_ BK118.out 6).trans rfl; have hcz32_7 : w30.cell? ⟨gb118, 7, none⟩ = some (.int .i64 a0_7) := (bc_ BK118.out 7).trans rfl; have hcz32_8 : w30.cell? ⟨gb118, 8, none⟩ = some (.slice A0_8 l0_8.length c0_8) := (bc_ BK118.out 8).trans rfl; have hfz32_0 := bf_ BK118.out 0; have hfz32_1 := bf_ BK118.out 1; have hfz32_2 := bf_ BK118.out 2; have hfz32_3 := bf_ BK118.out 3; have hfz32_4 := bf_ BK118.out 4; have hfz32_5 := bf_ BK118.out 5; have hfz32_6 := bf_ BK118.out 6; have hfz32_7 := bf_ BK118.out 7; have hfz32_8 := bf_ BK118.out 8; have hcz33_0 : w30.cell? ⟨gb119, 0, none⟩ = some (.string a1_0) := (bc_ BK119.out 0).trans rfl; have hcz33_1 : w30.cell? ⟨gb119, 1, none⟩ = some (.string a1_1) := (bc_ BK119.out 1).trans rfl; have hcz33_2 : w30.cell? ⟨gb119, 2, none⟩ = some (.string a1_2) := (bc_ BK119.out 2).trans rfl; have hcz33_3 : w30.cell? ⟨gb119, 3, none⟩ = some (.int .u8 a1_3) := (bc_ BK119.out 3).trans rfl; have hcz33_4 : w30.cell? ⟨gb119, 4, none⟩ = some (.int .i64 a1_4) := (bc_ BK119.out 4).trans rfl; have hcz33_5 : w30.cell? ⟨gb119, 5, none⟩ = some (.int .i64 a1_5) := (bc_ BK119.out 5).trans rfl; have hcz33_6 : w30.cell? ⟨gb119, 6, none⟩ = some (.int .i64 a1_6) := (bc_ BK119.out 6).trans rfl; have hcz33_7 : w30.cell? ⟨gb119, 7, none⟩ = some (.int .i64 a1_7) := (bc_ BK119.out 7).trans rfl; have hcz33_8 : w30.cell? ⟨gb119, 8, none⟩ = some (.slice A1_8 l1_8.length c1_8) := (bc_ BK119.out 8).trans rfl; have hfz33_0 := bf_ BK119.out 0; have hfz33_1 := bf_ BK119.out 1; have hfz33_2 := bf_ BK119.out 2; have hfz33_3 := bf_ BK119.out 3; have hfz33_4 := bf_ BK119.out 4; have hfz33_5 := bf_ BK119.out 5; have hfz33_6 := bf_ BK119.out 6; have hfz33_7 := bf_ BK119.out 7; have hfz33_8 := bf_ BK119.out 8))
  go_ret
  exact ⟨we_, wb2_ HB.out GE118.out GE119.out⟩
 rw [if_pos c3] at H
 have c3b0 : (a0_0.toList == a1_0.toList) = true := beq_iff_eq.mpr c3
 have c3b1 : (a0_0.toList != a1_0.toList) = false := bne_eq_false_iff_eq.mpr c3
 clear c3
 by_cases c4 : a0_3 = a1_3
 rotate_left
 ·rw [if_neg c4] at H
  have c4b0 : (a0_3 == a1_3) = false := beq_eq_false_iff_ne.mpr c4
  have c4b1 : (a0_3 != a1_3) = true := bne_iff_ne.mpr c4
  obtain rfl := Option.some.inj H
  go_enter Tryd.func20, Tryd.ntmps20
  go_wp2_with (first | ((with_reducible refine gate_dst (N := 2) rfl ?_); refine box_event ?hg (N := 2) ?hd (cs := #[.string a0_0, .string a0_1, .string a0_2, .int .u8 a0_3, .int .i64 a0_4, .int .i64 a0_5, .int .i64 a0_6, .int .i64 a0_7, .slice A0_8 l0_8.length c0_8]) (t := 38) ?hr ?_; (case hd => rfl); (case hg => rfl); (case hr => first | (go_simp; done) | (go_simp; rfl)); intro gb118 hg w24 hbox hb; have n0_ := A0_ (below_step (wb_ HB.out) hb); have n1_ := A0_ (hbox); have n2_ := A0_ ((by rw [hg]; exact (below_size (wb_ HB.out)) : w.heap.size ≤ gb118)); have n3_ := A0_ ((by rw [hg]; exact (below_size (wb_ HB.out)) : w.heap.size ≤ gb118)); clear HB; have HB := n0_; have BK118 := n1_; have GW118 := n2_; have GE118 := n3_; clear n0_ n1_ n2_ n3_; clear hb hbox hg) | ((with_reducible refine gate_dst (N := 3) rfl ?_); refine box_event ?hg (N := 3) ?hd (cs := #[.string a1_0, .string a1_1, .string a1_2, .int .u8 a1_3, .int .i64 a1_4, .int .i64 a1_5, .int .i64 a1_6, .int .i64 a1_7, .slice A1_8 l1_8.length c1_8]) (t := 38) ?hr ?_; (case hd => rfl); (case hg => rfl); (case hr => first | (go_simp; done) | (go_simp; rfl)); intro gb119 hg w25 hbox hb; have n0_ := A0_ (blk_below (g := gb118) (o := .cells #[.string a0_0, .string a0_1, .string a0_2, .int .u8 a0_3, .int .i64 a0_4, .int .i64 a0_5, .int .i64 a0_6, .int .i64 a0_7, .slice A0_8 l0_8.length c0_8] 38 (0, 0)) (wB_ BK118.out) hb); have n1_ := A0_ (below_step (wb1_ HB.out GE118.out) hb); have n2_ := A0_ (hbox); have n3_ := A0_ ((by rw [hg]; exact (below_size (wb1_ HB.out GE118.out)) : w.heap.size ≤ gb119)); have n4_ := A0_ ((by rw [hg]; exact (below_size (wb1_ HB.out GE118.out)) : w.heap.size ≤ gb119)); have n5_ := A0_ ((by rw [hg]; exact Nat.ne_of_lt (blk_lt (g := gb118) (o := .cells #[.string a0_0, .string a0_1, .string a0_2, .int .u8 a0_3, .int .i64 a0_4, .int .i64 a0_5, .int .i64 a0_6, .int .i64 a0_7, .slice A0_8 l0_8.length c0_8] 38 (0, 0)) (wB_ BK118.out)) : gb118 ≠ gb119)); have n6_ := A0_ ((by rw [hg]; exact Nat.ne_of_gt (blk_lt (g := gb118) (o := .cells #[.string a0_0, .string a0_1, .string a0_2, .int .u8 a0_3, .int .i64 a0_4, .int .i64 a0_5, .int .i64 a0_6, .int .i64 a0_7, .slice A0_8 l0_8.length c0_8] 38 (0, 0)) (wB_ BK118.out)) : gb119 ≠ gb118)); clear BK118; clear HB; have BK118 := n0_; have HB := n1_; have BK119 := n2_; have GW119 := n3_; have GE119 := n4_; have NB118_119 := n5_; have NB119_118 := n6_; clear n0_ n1_ n2_ n3_ n4_ n5_ n6_; clear hb hbox hg; have hnb26 := NB118_119.out; have hnc26 := NB119_118.out; have hcz27_0 : w25.cell? ⟨gb118, 0, none⟩ = some (.string a0_0) := (bc_ BK118.out 0).trans rfl; have hcz27_1 : w25.cell? ⟨gb118, 1, none⟩ = some (.string a0_1) := (bc_ BK118.out 1).trans rfl; have hcz27_2 : w25.cell? ⟨gb118, 2, none⟩ = some (.string a0_2) := (bc_ BK118.out 2).trans rfl; have hcz27_3 : w25.cell? ⟨gb118, 3, none⟩ = some (.int .u8 a0_3) := (bc_ BK118.out 3).trans rfl; have hcz27_4 : w25.cell? ⟨gb118, 4, none⟩ = some (.int .i64 a0_4) := (bc_ BK118.out 4).trans rfl; have hcz27_5 : w25.cell? ⟨gb118, 5, none⟩ = some (.int .i64 a0_5) := (bc_ BK118.out 5).trans rfl; have hcz27_6 : w25.cell? ⟨gb118, 6, none⟩ = some (.int .i64 a0_6) := (bc_ BK118.out 6).trans rfl; have hcz27_7 : w25.cell? ⟨gb118, 7, none⟩ = some (.int .i64 a0_7) := (bc_ BK118.out 7).trans rfl; have hcz27_8 : w25.cell? ⟨gb118, 8, none⟩ = some (.slice A0_8 l0_8.length c0_8) := (bc_ BK118.out 8).trans rfl; have hfz27_0 := bf_ BK118.out 0; have hfz27_1 := bf_ BK118.out 1; have hfz27_2 := bf_ BK118.out 2; have hfz27_3 := bf_ BK118.out 3; have hfz27_4 := bf_ BK118.out 4; have hfz27_5 := bf_ BK118.out 5; have hfz27_6 := bf_ BK118.out 6; have hfz27_7 := bf_ BK118.out 7; have hfz27_8 := bf_ BK118.out 8; have hcz28_0 : w25.cell? ⟨gb119, 0, none⟩ = some (.string a1_0) := (bc_ BK119.out 0).trans rfl; have hcz28_1 : w25.cell? ⟨gb119, 1, none⟩ = some (.string a1_1) := (bc_ BK119.out 1).trans rfl; have hcz28_2 : w25.cell? ⟨gb119, 2, none⟩ = some (.string a1_2) := (bc_ BK119.out 2).trans rfl; have hcz28_3 : w25.cell? ⟨gb119, 3, none⟩ = some (.int .u8 a1_3) := (bc_ BK119.out 3).trans rfl; have hcz28_4 : w25.cell? ⟨gb119, 4, none⟩ = some (.int .i64 a1_4) := (bc_ BK119.out 4).trans rfl; have hcz28_5 : w25.cell? ⟨gb119, 5, none⟩ = some (.int .i64 a1_5) := (bc_ BK119.out 5).trans rfl; have hcz28_6 : w25.cell? ⟨gb119, 6, none⟩ = some (.int .i64 a1_6) := (bc_ BK119.out 6).trans rfl; have hcz28_7 : w25.cell? ⟨gb119, 7, none⟩ = some (.int .i64 a1_7) := (bc_ BK119.out 7).trans rfl; have hcz28_8 : w25.cell? ⟨gb119, 8, none⟩ = some (.slice A1_8 l1_8.length c1_8) := (bc_ BK119.out 8).trans rfl; have hfz28_0 := bf_ BK119.out 0; have hfz28_1 := bf_ BK119.out 1; have hfz28_2 := bf_ BK119.out 2; have hfz28_3 := bf_ BK119.out 3; have hfz28_4 := bf_ BK119.out 4; have hfz28_5 := bf_ BK119.out 5; have hfz28_6 := bf_ BK119.out 6; have hfz28_7 := bf_ BK119.out 7; have hfz28_8 := bf_ BK119.out 8))
  go_ret
  exact ⟨we_, wb2_ HB.out GE118.out GE119.out⟩
 rw [if_pos c4] at H
 have c4b0 : (a0_3 == a1_3) = true := beq_iff_eq.mpr c4
 have c4b1 : (a0_3 != a1_3) = false := bne_eq_false_iff_eq.mpr c4
 clear c4
 by_cases c5 : (a0_4 == a1_4 && (a0_5 == a1_5 && (a0_6 == a1_6 && (a0_7 == a1_7)))) = true
 rotate_left
 ·rw [if_neg c5] at H
  have c5b0 : (a0_4 == a1_4 && (a0_5 == a1_5 && (a0_6 == a1_6 && (a0_7 == a1_7)))) = false := by simpa using c5
  (try (have c5b1 : decide (a0_4 = a1_4 && (a0_5 == a1_5 && (a0_6 == a1_6 && (a0_7 == a1_7)))) = false := by simpa using c5))
  (try (have c5b2 : (a0_4 == a1_4 && (a0_5 == a1_5 && (a0_6 == a1_6 && (a0_7 == a1_7)))) = false := by simpa using c5))
  (try (have c5b3 : ¬ (a0_4 = a1_4 && (a0_5 == a1_5 && (a0_6 == a1_6 && (a0_7 == a1_7)))) := by simpa using c5))
  clear c5
  obtain rfl := Option.some.inj H
  go_enter Tryd.func20, Tryd.ntmps20
  go_wp2_with (first | ((with_reducible refine gate_dst (N := 2) rfl ?_); refine box_event ?hg (N := 2) ?hd (cs := #[.string a0_0, .string a0_1, .string a0_2, .int .u8 a0_3, .int .i64 a0_4, .int .i64 a0_5, .int .i64 a0_6, .int .i64 a0_7, .slice A0_8 l0_8.length c0_8]) (t := 38) ?hr ?_; (case hd => rfl); (case hg => rfl); (case hr => first | (go_simp; done) | (go_simp; rfl)); intro gb118 hg w19 hbox hb; have n0_ := A0_ (below_step (wb_ HB.out) hb); have n1_ := A0_ (hbox); have n2_ := A0_ ((by rw [hg]; exact (below_size (wb_ HB.out)) : w.heap.size ≤ gb118)); have n3_ := A0_ ((by rw [hg]; exact (below_size (wb_ HB.out)) : w.heap.size ≤ gb118)); clear HB; have HB := n0_; have BK118 := n1_; have GW118 := n2_; have GE118 := n3_; clear n0_ n1_ n2_ n3_; clear hb hbox hg) | ((with_reducible refine gate_dst (N := 3) rfl ?_); refine box_event ?hg (N := 3) ?hd (cs := #[.string a1_0, .string a1_1, .string a1_2, .int .u8 a1_3, .int .i64 a1_4, .int .i64 a1_5, .int .i64 a1_6, .int .i64 a1_7, .slice A1_8 l1_8.length c1_8]) (t := 38) ?hr ?_; (case hd => rfl); (case hg => rfl); (case hr => first | (go_simp; done) | (go_simp; rfl)); intro gb119 hg w20 hbox hb; have n0_ := A0_ (blk_below (g := gb118) (o := .cells #[.string a0_0, .string a0_1, .string a0_2, .int .u8 a0_3, .int .i64 a0_4, .int .i64 a0_5, .int .i64 a0_6, .int .i64 a0_7, .slice A0_8 l0_8.length c0_8] 38 (0, 0)) (wB_ BK118.out) hb); have n1_ := A0_ (below_step (wb1_ HB.out GE118.out) hb); have n2_ := A0_ (hbox); have n3_ := A0_ ((by rw [hg]; exact (below_size (wb1_ HB.out GE118.out)) : w.heap.size ≤ gb119)); have n4_ := A0_ ((by rw [hg]; exact (below_size (wb1_ HB.out GE118.out)) : w.heap.size ≤ gb119)); have n5_ := A0_ ((by rw [hg]; exact Nat.ne_of_lt (blk_lt (g := gb118) (o := .cells #[.string a0_0, .string a0_1, .string a0_2, .int .u8 a0_3, .int .i64 a0_4, .int .i64 a0_5, .int .i64 a0_6, .int .i64 a0_7, .slice A0_8 l0_8.length c0_8] 38 (0, 0)) (wB_ BK118.out)) : gb118 ≠ gb119)); have n6_ := A0_ ((by rw [hg]; exact Nat.ne_of_gt (blk_lt (g := gb118) (o := .cells #[.string a0_0, .string a0_1, .string a0_2, .int .u8 a0_3, .int .i64 a0_4, .int .i64 a0_5, .int .i64 a0_6, .int .i64 a0_7, .slice A0_8 l0_8.length c0_8] 38 (0, 0)) (wB_ BK118.out)) : gb119 ≠ gb118)); clear BK118; clear HB; have BK118 := n0_; have HB := n1_; have BK119 := n2_; have GW119 := n3_; have GE119 := n4_; have NB118_119 := n5_; have NB119_118 := n6_; clear n0_ n1_ n2_ n3_ n4_ n5_ n6_; clear hb hbox hg; have hnb21 := NB118_119.out; have hnc21 := NB119_118.out; have hcz22_0 : w20.cell? ⟨gb118, 0, none⟩ = some (.string a0_0) := (bc_ BK118.out 0).trans rfl; have hcz22_1 : w20.cell? ⟨gb118, 1, none⟩ = some (.string a0_1) := (bc_ BK118.out 1).trans rfl; have hcz22_2 : w20.cell? ⟨gb118, 2, none⟩ = some (.string a0_2) := (bc_ BK118.out 2).trans rfl; have hcz22_3 : w20.cell? ⟨gb118, 3, none⟩ = some (.int .u8 a0_3) := (bc_ BK118.out 3).trans rfl; have hcz22_4 : w20.cell? ⟨gb118, 4, none⟩ = some (.int .i64 a0_4) := (bc_ BK118.out 4).trans rfl; have hcz22_5 : w20.cell? ⟨gb118, 5, none⟩ = some (.int .i64 a0_5) := (bc_ BK118.out 5).trans rfl; have hcz22_6 : w20.cell? ⟨gb118, 6, none⟩ = some (.int .i64 a0_6) := (bc_ BK118.out 6).trans rfl; have hcz22_7 : w20.cell? ⟨gb118, 7, none⟩ = some (.int .i64 a0_7) := (bc_ BK118.out 7).trans rfl; have hcz22_8 : w20.cell? ⟨gb118, 8, none⟩ = some (.slice A0_8 l0_8.length c0_8) := (bc_ BK118.out 8).trans rfl; have hfz22_0 := bf_ BK118.out 0; have hfz22_1 := bf_ BK118.out 1; have hfz22_2 := bf_ BK118.out 2; have hfz22_3 := bf_ BK118.out 3; have hfz22_4 := bf_ BK118.out 4; have hfz22_5 := bf_ BK118.out 5; have hfz22_6 := bf_ BK118.out 6; have hfz22_7 := bf_ BK118.out 7; have hfz22_8 := bf_ BK118.out 8; have hcz23_0 : w20.cell? ⟨gb119, 0, none⟩ = some (.string a1_0) := (bc_ BK119.out 0).trans rfl; have hcz23_1 : w20.cell? ⟨gb119, 1, none⟩ = some (.string a1_1) := (bc_ BK119.out 1).trans rfl; have hcz23_2 : w20.cell? ⟨gb119, 2, none⟩ = some (.string a1_2) := (bc_ BK119.out 2).trans rfl; have hcz23_3 : w20.cell? ⟨gb119, 3, none⟩ = some (.int .u8 a1_3) := (bc_ BK119.out 3).trans rfl; have hcz23_4 : w20.cell? ⟨gb119, 4, none⟩ = some (.int .i64 a1_4) := (bc_ BK119.out 4).trans rfl; have hcz23_5 : w20.cell? ⟨gb119, 5, none⟩ = some (.int .i64 a1_5) := (bc_ BK119.out 5).trans rfl; have hcz23_6 : w20.cell? ⟨gb119, 6, none⟩ = some (.int .i64 a1_6) := (bc_ BK119.out 6).trans rfl; have hcz23_7 : w20.cell? ⟨gb119, 7, none⟩ = some (.int .i64 a1_7) := (bc_ BK119.out 7).trans rfl; have hcz23_8 : w20.cell? ⟨gb119, 8, none⟩ = some (.slice A1_8 l1_8.length c1_8) := (bc_ BK119.out 8).trans rfl; have hfz23_0 := bf_ BK119.out 0; have hfz23_1 := bf_ BK119.out 1; have hfz23_2 := bf_ BK119.out 2; have hfz23_3 := bf_ BK119.out 3; have hfz23_4 := bf_ BK119.out 4; have hfz23_5 := bf_ BK119.out 5; have hfz23_6 := bf_ BK119.out 6; have hfz23_7 := bf_ BK119.out 7; have hfz23_8 := bf_ BK119.out 8))
  go_ret
  exact ⟨we_, wb2_ HB.out GE118.out GE119.out⟩
 rw [if_pos c5] at H
 have c5b0 : (a0_4 == a1_4 && (a0_5 == a1_5 && (a0_6 == a1_6 && (a0_7 == a1_7)))) = true := c5
 (try (have c5b1 : decide (a0_4 = a1_4 && (a0_5 == a1_5 && (a0_6 == a1_6 && (a0_7 == a1_7)))) = true := by simpa using c5))
 (try (have c5b2 : (a0_4 == a1_4 && (a0_5 == a1_5 && (a0_6 == a1_6 && (a0_7 == a1_7)))) = true := by simpa using c5))
 clear c5
 by_cases c6 : a0_1.toList = a1_1.toList
 rotate_left
 ·rw [if_neg c6] at H
  have c6b0 : (a0_1.toList == a1_1.toList) = false := beq_eq_false_iff_ne.mpr c6
  have c6b1 : (a0_1.toList != a1_1.toList) = true := bne_iff_ne.mpr c6
  obtain rfl := Option.some.inj H
  go_enter Tryd.func20, Tryd.ntmps20
  go_wp2_with (first | ((with_reducible refine gate_dst (N := 2) rfl ?_); refine box_event ?hg (N := 2) ?hd (cs := #[.string a0_0, .string a0_1, .string a0_2, .int .u8 a0_3, .int .i64 a0_4, .int .i64 a0_5, .int .i64 a0_6, .int .i64 a0_7, .slice A0_8 l0_8.length c0_8]) (t := 38) ?hr ?_; (case hd => rfl); (case hg => rfl); (case hr => first | (go_simp; done) | (go_simp; rfl)); intro gb118 hg w14 hbox hb; have n0_ := A0_ (below_step (wb_ HB.out) hb); have n1_ := A0_ (hbox); have n2_ := A0_ ((by rw [hg]; exact (below_size (wb_ HB.out)) : w.heap.size ≤ gb118)); have n3_ := A0_ ((by rw [hg]; exact (below_size (wb_ HB.out)) : w.heap.size ≤ gb118)); clear HB; have HB := n0_; have BK118 := n1_; have GW118 := n2_; have GE118 := n3_; clear n0_ n1_ n2_ n3_; clear hb hbox hg) | ((with_reducible refine gate_dst (N := 3) rfl ?_); refine box_event ?hg (N := 3) ?hd (cs := #[.string a1_0, .string a1_1, .string a1_2, .int .u8 a1_3, .int .i64 a1_4, .int .i64 a1_5, .int .i64 a1_6, .int .i64 a1_7, .slice A1_8 l1_8.length c1_8]) (t := 38) ?hr ?_; (case hd => rfl); (case hg => rfl); (case hr => first | (go_simp; done) | (go_simp; rfl)); intro gb119 hg w15 hbox hb; have n0_ := A0_ (blk_below (g := gb118) (o := .cells #[.string a0_0, .string a0_1, .string a0_2, .int .u8 a0_3, .int .i64 a0_4, .int .i64 a0_5, .int .i64 a0_6, .int .i64 a0_7, .slice A0_8 l0_8.length c0_8] 38 (0, 0)) (wB_ BK118.out) hb); have n1_ := A0_ (below_step (wb1_ HB.out GE118.out) hb); have n2_ := A0_ (hbox); have n3_ := A0_ ((by rw [hg]; exact (below_size (wb1_ HB.out GE118.out)) : w.heap.size ≤ gb119)); have n4_ := A0_ ((by rw [hg]; exact (below_size (wb1_ HB.out GE118.out)) : w.heap.size ≤ gb119)); have n5_ := A0_ ((by rw [hg]; exact Nat.ne_of_lt (blk_lt (g := gb118) (o := .cells #[.string a0_0, .string a0_1, .string a0_2, .int .u8 a0_3, .int .i64 a0_4, .int .i64 a0_5, .int .i64 a0_6, .int .i64 a0_7, .slice A0_8 l0_8.length c0_8] 38 (0, 0)) (wB_ BK118.out)) : gb118 ≠ gb119)); have n6_ := A0_ ((by rw [hg]; exact Nat.ne_of_gt (blk_lt (g := gb118) (o := .cells #[.string a0_0, .string a0_1, .string a0_2, .int .u8 a0_3, .int .i64 a0_4, .int .i64 a0_5, .int .i64 a0_6, .int .i64 a0_7, .slice A0_8 l0_8.length c0_8] 38 (0, 0)) (wB_ BK118.out)) : gb119 ≠ gb118)); clear BK118; clear HB; have BK118 := n0_; have HB := n1_; have BK119 := n2_; have GW119 := n3_; have GE119 := n4_; have NB118_119 := n5_; have NB119_118 := n6_; clear n0_ n1_ n2_ n3_ n4_ n5_ n6_; clear hb hbox hg; have hnb16 := NB118_119.out; have hnc16 := NB119_118.out; have hcz17_0 : w15.cell? ⟨gb118, 0, none⟩ = some (.string a0_0) := (bc_ BK118.out 0).trans rfl; have hcz17_1 : w15.cell? ⟨gb118, 1, none⟩ = some (.string a0_1) := (bc_ BK118.out 1).trans rfl; have hcz17_2 : w15.cell? ⟨gb118, 2, none⟩ = some (.string a0_2) := (bc_ BK118.out 2).trans rfl; have hcz17_3 : w15.cell? ⟨gb118, 3, none⟩ = some (.int .u8 a0_3) := (bc_ BK118.out 3).trans rfl; have hcz17_4 : w15.cell? ⟨gb118, 4, none⟩ = some (.int .i64 a0_4) := (bc_ BK118.out 4).trans rfl; have hcz17_5 : w15.cell? ⟨gb118, 5, none⟩ = some (.int .i64 a0_5) := (bc_ BK118.out 5).trans rfl; have hcz17_6 : w15.cell? ⟨gb118, 6, none⟩ = some (.int .i64 a0_6) := (bc_ BK118.out 6).trans rfl; have hcz17_7 : w15.cell? ⟨gb118, 7, none⟩ = some (.int .i64 a0_7) := (bc_ BK118.out 7).trans rfl; have hcz17_8 : w15.cell? ⟨gb118, 8, none⟩ = some (.slice A0_8 l0_8.length c0_8) := (bc_ BK118.out 8).trans rfl; have hfz17_0 := bf_ BK118.out 0; have hfz17_1 := bf_ BK118.out 1; have hfz17_2 := bf_ BK118.out 2; have hfz17_3 := bf_ BK118.out 3; have hfz17_4 := bf_ BK118.out 4; have hfz17_5 := bf_ BK118.out 5; have hfz17_6 := bf_ BK118.out 6; have hfz17_7 := bf_ BK118.out 7; have hfz17_8 := bf_ BK118.out 8; have hcz18_0 : w15.cell? ⟨gb119, 0, none⟩ = some (.string a1_0) := (bc_ BK119.out 0).trans rfl; have hcz18_1 : w15.cell? ⟨gb119, 1, none⟩ = some (.string a1_1) := (bc_ BK119.out 1).trans rfl; have hcz18_2 : w15.cell? ⟨gb119, 2, none⟩ = some (.string a1_2) := (bc_ BK119.out 2).trans rfl; have hcz18_3 : w15.cell? ⟨gb119, 3, none⟩ = some (.int .u8 a1_3) := (bc_ BK119.out 3).trans rfl; have hcz18_4 : w15.cell? ⟨gb119, 4, none⟩ = some (.int .i64 a1_4) := (bc_ BK119.out 4).trans rfl; have hcz18_5 : w15.cell? ⟨gb119, 5, none⟩ = some (.int .i64 a1_5) := (bc_ BK119.out 5).trans rfl; have hcz18_6 : w15.cell? ⟨gb119, 6, none⟩ = some (.int .i64 a1_6) := (bc_ BK119.out 6).trans rfl; have hcz18_7 : w15.cell? ⟨gb119, 7, none⟩ = some (.int .i64 a1_7) := (bc_ BK119.out 7).trans rfl; have hcz18_8 : w15.cell? ⟨gb119, 8, none⟩ = some (.slice A1_8 l1_8.length c1_8) := (bc_ BK119.out 8).trans rfl; have hfz18_0 := bf_ BK119.out 0; have hfz18_1 := bf_ BK119.out 1; have hfz18_2 := bf_ BK119.out 2; have hfz18_3 := bf_ BK119.out 3; have hfz18_4 := bf_ BK119.out 4; have hfz18_5 := bf_ BK119.out 5; have hfz18_6 := bf_ BK119.out 6; have hfz18_7 := bf_ BK119.out 7; have hfz18_8 := bf_ BK119.out 8))
  go_ret
  exact ⟨we_, wb2_ HB.out GE118.out GE119.out⟩
 rw [if_pos c6] at H
 have c6b0 : (a0_1.toList == a1_1.toList) = true := beq_iff_eq.mpr c6
 have c6b1 : (a0_1.toList != a1_1.toList) = false := bne_eq_false_iff_eq.mpr c6
 clear c6
 obtain rfl := Option.some.inj H
 go_enter Tryd.func20, Tryd.ntmps20
 go_wp2_with (first | ((with_reducible refine gate_dst (N := 2) rfl ?_); refine box_event ?hg (N := 2) ?hd (cs := #[.string a0_0, .string a0_1, .string a0_2, .int .u8 a0_3, .int .i64 a0_4, .int .i64 a0_5, .int .i64 a0_6, .int .i64 a0_7, .slice A0_8 l0_8.length c0_8]) (t := 38) ?hr ?_; (case hd => rfl); (case hg => rfl); (case hr => first | (go_simp; done) | (go_simp; rfl)); intro gb118 hg w7 hbox hb; have n0_ := A0_ (below_step (wb_ HB.out) hb); have n1_ := A0_ (hbox); have n2_ := A0_ ((by rw [hg]; exact (below_size (wb_ HB.out)) : w.heap.size ≤ gb118)); have n3_ := A0_ ((by rw [hg]; exact (below_size (wb_ HB.out)) : w.heap.size ≤ gb118)); clear HB; have HB := n0_; have BK118 := n1_; have GW118 := n2_; have GE118 := n3_; clear n0_ n1_ n2_ n3_; clear hb hbox hg) | ((with_reducible refine gate_dst (N := 3) rfl ?_); refine box_event ?hg (N := 3) ?hd (cs := #[.string a1_0, .string a1_1, .string a1_2, .int .u8 a1_3, .int .i64 a1_4, .int .i64 a1_5, .int .i64 a1_6, .int .i64 a1_7, .slice A1_8 l1_8.length c1_8]) (t := 38) ?hr ?_; (case hd => rfl); (case hg => rfl); (case hr => first | (go_simp; done) | (go_simp; rfl)); intro gb119 hg w8 hbox hb; have n0_ := A0_ (blk_below (g := gb118) (o := .cells #[.string a0_0, .string a0_1, .string a0_2, .int .u8 a0_3, .int .i64 a0_4, .int .i64 a0_5, .int .i64 a0_6, .int .i64 a0_7, .slice A0_8 l0_8.length c0_8] 38 (0, 0)) (wB_ BK118.out) hb); have n1_ := A0_ (below_step (wb1_ HB.out GE118.out) hb); have n2_ := A0_ (hbox); have n3_ := A0_ ((by rw [hg]; exact (below_size (wb1_ HB.out GE118.out)) : w.heap.size ≤ gb119)); have n4_ := A0_ ((by rw [hg]; exact (below_size (wb1_ HB.out GE118.out)) : w.heap.size ≤ gb119)); have n5_ := A0_ ((by rw [hg]; exact Nat.ne_of_lt (blk_lt (g := gb118) (o := .cells #[.string a0_0, .string a0_1, .string a0_2, .int .u8 a0_3, .int .i64 a0_4, .int .i64 a0_5, .int .i64 a0_6, .int .i64 a0_7, .slice A0_8 l0_8.length c0_8] 38 (0, 0)) (wB_ BK118.out)) : gb118 ≠ gb119)); have n6_ := A0_ ((by rw [hg]; exact Nat.ne_of_gt (blk_lt (g := gb118) (o := .cells #[.string a0_0, .string a0_1, .string a0_2, .int .u8 a0_3, .int .i64 a0_4, .int .i64 a0_5, .int .i64 a0_6, .int .i64 a0_7, .slice A0_8 l0_8.length c0_8] 38 (0, 0)) (wB_ BK118.out)) : gb119 ≠ gb118)); clear BK118; clear HB; have BK118 := n0_; have HB := n1_; have BK119 := n2_; have GW119 := n3_; have GE119 := n4_; have NB118_119 := n5_; have NB119_118 := n6_; clear n0_ n1_ n2_ n3_ n4_ n5_ n6_; clear hb hbox hg; have hnb9 := NB118_119.out; have hnc9 := NB119_118.out; have hcz10_0 : w8.cell? ⟨gb118, 0, none⟩ = some (.string a0_0) := (bc_ BK118.out 0).trans rfl; have hcz10_1 : w8.cell? ⟨gb118, 1, none⟩ = some (.string a0_1) := (bc_ BK118.out 1).trans rfl; have hcz10_2 : w8.cell? ⟨gb118, 2, none⟩ = some (.string a0_2) := (bc_ BK118.out 2).trans rfl; have hcz10_3 : w8.cell? ⟨gb118, 3, none⟩ = some (.int .u8 a0_3) := (bc_ BK118.out 3).trans rfl; have hcz10_4 : w8.cell? ⟨gb118, 4, none⟩ = some (.int .i64 a0_4) := (bc_ BK118.out 4).trans rfl; have hcz10_5 : w8.cell? ⟨gb118, 5, none⟩ = some (.int .i64 a0_5) := (bc_ BK118.out 5).trans rfl; have hcz10_6 : w8.cell? ⟨gb118, 6, none⟩ = some (.int .i64 a0_6) := (bc_ BK118.out 6).trans rfl; have hcz10_7 : w8.cell? ⟨gb118, 7, none⟩ = some (.int .i64 a0_7) := (bc_ BK118.out 7).trans rfl; have hcz10_8 : w8.cell? ⟨gb118, 8, none⟩ = some (.slice A0_8 l0_8.length c0_8) := (bc_ BK118.out 8).trans rfl; have hfz10_0 := bf_ BK118.out 0; have hfz10_1 := bf_ BK118.out 1; have hfz10_2 := bf_ BK118.out 2; have hfz10_3 := bf_ BK118.out 3; have hfz10_4 := bf_ BK118.out 4; have hfz10_5 := bf_ BK118.out 5; have hfz10_6 := bf_ BK118.out 6; have hfz10_7 := bf_ BK118.out 7; have hfz10_8 := bf_ BK118.out 8; have hcz11_0 : w8.cell? ⟨gb119, 0, none⟩ = some (.string a1_0) := (bc_ BK119.out 0).trans rfl; have hcz11_1 : w8.cell? ⟨gb119, 1, none⟩ = some (.string a1_1) := (bc_ BK119.out 1).trans rfl; have hcz11_2 : w8.cell? ⟨gb119, 2, none⟩ = some (.string a1_2) := (bc_ BK119.out 2).trans rfl; have hcz11_3 : w8.cell? ⟨gb119, 3, none⟩ = some (.int .u8 a1_3) := (bc_ BK119.out 3).trans rfl; have hcz11_4 : w8.cell? ⟨gb119, 4, none⟩ = some (.int .i64 a1_4) := (bc_ BK119.out 4).trans rfl; have hcz11_5 : w8.cell? ⟨gb119, 5, none⟩ = some (.int .i64 a1_5) := (bc_ BK119.out 5).trans rfl; have hcz11_6 : w8.cell? ⟨gb119, 6, none⟩ = some (.int .i64 a1_6) := (bc_ BK119.out 6).trans rfl; have hcz11_7 : w8.cell? ⟨gb119, 7, none⟩ = some (.int .i64 a1_7) := (bc_ BK119.out 7).trans rfl; have hcz11_8 : w8.cell? ⟨gb119, 8, none⟩ = some (.slice A1_8 l1_8.length c1_8) := (bc_ BK119.out 8).trans rfl; have hfz11_0 := bf_ BK119.out 0; have hfz11_1 := bf_ BK119.out 1; have hfz11_2 := bf_ BK119.out 2; have hfz11_3 := bf_ BK119.out 3; have hfz11_4 := bf_ BK119.out 4; have hfz11_5 := bf_ BK119.out 5; have hfz11_6 := bf_ BK119.out 6; have hfz11_7 := bf_ BK119.out 7; have hfz11_8 := bf_ BK119.out 8; have hcv12 := Kd.C_string (P := Tryd.prog) (A := A0_8) (c := c0_8) Tryd.underlying25 Tryd.underlying5 Tryd.underlying9 (Kd.C_below HR0_8.out HB.out); have hcv13 := Kd.C_string (P := Tryd.prog) (A := A1_8) (c := c1_8) Tryd.underlying25 Tryd.underlying5 Tryd.underlying9 (Kd.C_below HR1_8.out HB.out)))
 go_ret
 exact ⟨we_, wb2_ HB.out GE118.out GE119.out⟩
end Go.Proofs.YtfmphccoeinhcaaDoor.Print

namespace Go.Proofs.YtfmphccoeinhcaaDoor.Print
open Go.RowKit Go.Proofs.YtfmphccoeinhcaaDoorW.PrintWords Go.Proofs.YtfmphccoeinhcaaDoorW.PrintLast Go.Proofs.YtfmphccoeinhcaaDoorW.PrintMore
attribute [local go_sem] max2_int min2_int max_two min_two max_three min_three max_four min_four   -- for this text's walks alone
set_option linter.unusedVariables false
set_option linter.unusedSimpArgs false
abbrev q25_0 : Array Bool := #[false, false, false, false, false, false, false, false, false, false, false, false, false, false, false, false, false, false, false, false, false, false, false]
abbrev q25_1 : Array Bool := tb_ 23 1
abbrev q25_2 : Array Bool := tb_ 23 3
abbrev q25_3 : Array Bool := tb_ 23 7
abbrev q25_4 : Array Bool := tb_ 23 15
abbrev q25_5 : Array Bool := tb_ 23 47
abbrev q25_6 : Array Bool := tb_ 23 111
abbrev q25_7 : Array Bool := tb_ 23 239
abbrev q25_8 : Array Bool := tb_ 23 495
abbrev q25_9 : Array Bool := tb_ 23 511
abbrev q25_10 : Array Bool := tb_ 23 1023
abbrev q25_11 : Array Bool := tb_ 23 2047
abbrev q25_12 : Array Bool := tb_ 23 4095
abbrev q25_13 : Array Bool := tb_ 23 8191
abbrev q25_14 : Array Bool := tb_ 23 16383
abbrev q25_15 : Array Bool := tb_ 23 32767
abbrev q25_16 : Array Bool := tb_ 23 65535
abbrev q25_17 : Array Bool := tb_ 23 131071
abbrev q25_18 : Array Bool := tb_ 23 262143
abbrev q25_19 : Array Bool := tb_ 23 524287
abbrev q25_20 : Array Bool := tb_ 23 1048575
abbrev q25_21 : Array Bool := tb_ 23 2097151
abbrev q25_22 : Array Bool := tb_ 23 4194303
abbrev q25_23 : Array Bool := tb_ 23 8388607
abbrev q25_24 : Array Bool := tb_ 23 98303
abbrev q25_25 : Array Bool := tb_ 23 229375
abbrev q25_26 : Array Bool := tb_ 23 491519
def bindleref08_SameTree.l0 : Nat → List (S38) → List (S38) → Int → Option (Bool)
 | 0, _, _, _ => none
 | k + 1, x0, x1, x5 => if x5 < (x0.length : Int) then (if 0 ≤ x5 then (if x5 < (x1.length : Int) then (if ((rd_T38 x0 x5).f2).toList = ((rd_T38 x1 x5).f2).toList then ((bindleref08_Equal.f ((rd_T38 x0 x5).f0) ((rd_T38 x0 x5).f1) ((rd_T38 x0 x5).f2) ((rd_T38 x0 x5).f3) ((rd_T38 x0 x5).f4.f0) ((rd_T38 x0 x5).f4.f1) ((rd_T38 x0 x5).f4.f2) ((rd_T38 x0 x5).f4.f3) ((rd_T38 x0 x5).f5) ((rd_T38 x1 x5).f0) ((rd_T38 x1 x5).f1) ((rd_T38 x1 x5).f2) ((rd_T38 x1 x5).f3) ((rd_T38 x1 x5).f4.f0) ((rd_T38 x1 x5).f4.f1) ((rd_T38 x1 x5).f4.f2) ((rd_T38 x1 x5).f4.f3) ((rd_T38 x1 x5).f5)).bind fun t251 => (if t251 = true then (bindleref08_SameTree.l0 k x0 x1 (wrap64 (x5 + 1))) else (some false))) else (some false)) else (none)) else (none)) else (some true)
def bindleref08_SameTree.f (k : Nat) (l0 : List (S38)) (l1 : List (S38)) : Option (Bool) := if (l0.length : Int) = (l1.length : Int) then (bindleref08_SameTree.l0 k l0 l1 0) else (some false)
def bindleref08_SameTree.T6 : Bool × List (List Nat × List Nat) := (true, [([], []), ([], []), ([0, 1], [0, 1]), ([2], [2]), ([3], [3]), ([], []), ([], []), ([5, 6], [5, 6]), ([7], [7]), ([8], [8]), ([4, 9], [4, 9]), ([10], [10]), ([11], [11]), ([11], [11]), ([12, 13, 11], [11, 12, 13]), ([14, 11], [11, 14]), ([11], [11]), ([11], [11]), ([16, 17, 11], [11, 16, 17]), ([18, 11], [11, 18]), ([15, 19, 11, 11], [11, 15, 19]), ([20, 11], [11, 20]), ([11, 21], [11, 21])])
def bindleref08_SameTree.B6 : List Nat := [0, 0, 3, 7, 15, 0, 0, 96, 224, 480, 1023, 2047, 4095, 4095, 16383, 32767, 4095, 4095, 200703, 462847, 1048575, 2097151, 4194303]
theorem bindleref08_SameTree.tab6 : rtab .any (opsOf Tryd.f25 6) = bindleref08_SameTree.T6 := by kernel_rfl
theorem bindleref08_SameTree.bits6 : waitsOk bindleref08_SameTree.T6.2 bindleref08_SameTree.B6 = true := by kernel_rfl
set_option maxHeartbeats 8000000 in
set_option maxRecDepth 100000 in
theorem bindleref08_SameTree.calls (k : Nat) (A0 : Option Addr) (c0 : Nat) (l0 : List (S38)) (A1 : Option Addr) (c1 : Nat) (l1 : List (S38)) (r : Bool) (w : World) (hr0 : Kd.C k38 w A0 l0.length l0) (hc0 : l0.length ≤ c0) (hr1 : Kd.C k38 w A1 l1.length l1) (hc1 : l1.length ≤ c1) (h : bindleref08_SameTree.f k l0 l1 = some r) :
  Calls Tryd.prog 25 #[.slice A0 l0.length c0, .slice A1 l1.length c1] w fun e w' => e = .returned (.bool r) ∧ Below w.heap.size w w' := by
 have hu38 := Tryd.underlying38
 have HR0 := A0_ hr0
 have HC0 := A0_ hc0
 clear hr0 hc0
 have HR1 := A0_ hr1
 have HC1 := A0_ hc1
 clear hr1 hc1
 have HB := A0_ (Below.refl w.heap.size w)
 have H : (if (l0.length : Int) = (l1.length : Int) then (bindleref08_SameTree.l0 k l0 l1 0) else (some false)) = some r := h
 clear h
 by_cases c3 : (l0.length : Int) = (l1.length : Int)
 rotate_left
 ·rw [if_neg c3] at H
  have c3b0 : ((l0.length : Int) == (l1.length : Int)) = false := beq_eq_false_iff_ne.mpr c3
  have c3b1 : ((l0.length : Int) != (l1.length : Int)) = true := bne_iff_ne.mpr c3
  have c3b2 : (l0.length == l1.length) = false := by first | simpa using c3 | (simp at c3 ⊢; omega)
  obtain rfl := Option.some.inj H
  go_enter Tryd.func25, Tryd.ntmps25
  go_wp2
  go_ret
  exact ⟨we_, wb_ HB.out⟩
 rw [if_pos c3] at H
 have c3b0 : ((l0.length : Int) == (l1.length : Int)) = true := beq_iff_eq.mpr c3
 have c3b1 : ((l0.length : Int) != (l1.length : Int)) = false := bne_eq_false_iff_eq.mpr c3
 have c3b2 : (l0.length == l1.length) = true := by first | simpa using c3 | (simp at c3 ⊢; omega)
 clear c3
 have H' := A0_ H
 clear H
 go_enter Tryd.func25, Tryd.ntmps25
 go_wp2
 go_loopg [5] k (fun kq v5 w' => ∃ (x5_1 : Int), v5 = .int .i64 x5_1 ∧ Aside0 (bindleref08_SameTree.l0 kq l0 l1 x5_1 = some r) ∧ Aside0 (kq ≤ k) ∧ Aside0 (Below w.heap.size w w'))
 case atStart => exact ⟨(0), wr_, H', ⟨Nat.le_refl _⟩, ⟨wb_ HB.out⟩⟩
 case round =>
  clear H'
  try clear c1
  try clear c2
  try clear p2
  try clear c3
  try clear c3b0
  try clear c3b1
  try clear c3b2
  obtain ⟨x5_1, rfl, HA, HK1, HB⟩ := hrel
  cases gk with
  | zero => exact absurd HA.out (by simp [bindleref08_SameTree.l0])
  | succ k1 =>
   have H := HA.out
   clear HA
   simp only [bindleref08_SameTree.l0] at H
   by_cases c4 : x5_1 < (l0.length : Int)
   rotate_left
   ·rw [if_neg c4] at H
    have c4b0 : decide (x5_1 < (l0.length : Int)) = false := decide_eq_false c4
    clear c4
    obtain rfl := Option.some.inj H
    go_wp2
    go_ret
    exact ⟨we_, wb_ HB.out⟩
   rw [if_pos c4] at H
   have c4b0 : decide (x5_1 < (l0.length : Int)) = true := decide_eq_true c4
   clear c4
   by_cases c5 : 0 ≤ x5_1
   rotate_left
   ·rw [if_neg c5] at H
    exact absurd H (by simp)
   rw [if_pos c5] at H
   have c5b0 : decide (0 ≤ x5_1) = true := decide_eq_true c5
   clear c5
   by_cases c6 : x5_1 < (l1.length : Int)
   rotate_left
   ·rw [if_neg c6] at H
    exact absurd H (by simp)
   rw [if_pos c6] at H
   have c6b0 : decide (x5_1 < (l1.length : Int)) = true := decide_eq_true c6
   clear c6
   by_cases c7 : ((rd_T38 l0 x5_1).f2).toList = ((rd_T38 l1 x5_1).f2).toList
   rotate_left
   ·rw [if_neg c7] at H
    have c7b0 : (((rd_T38 l0 x5_1).f2).toList == ((rd_T38 l1 x5_1).f2).toList) = false := beq_eq_false_iff_ne.mpr c7
    have c7b1 : (((rd_T38 l0 x5_1).f2).toList != ((rd_T38 l1 x5_1).f2).toList) = true := bne_iff_ne.mpr c7
    obtain rfl := Option.some.inj H
    try go_wp2
    have n0_ := A0_ (b1_ HB.out)
    clear HB
    have HB := n0_
    clear n0_
    have p247 : 0 ≤ (x5_1 : Int) := wd_
    have q247 : x5_1 < (l0.length : Int) := wd_
    obtain ⟨ad247, A247_8, c247_8, e247, hx247_0, hx247_1, hx247_2, hx247_3, hx247_4, hx247_5, hx247_6, hx247_7, hx247_8, hl247_8, hi247_8⟩ := at_T38 HR0.out x5_1 p247 q247
    have hw247_8 := hx247_8
    have hw247_7 := hx247_7
    have hw247_6 := hx247_6
    have hw247_5 := hx247_5
    have hw247_4 := hx247_4
    have hw247_3 := hx247_3
    have hw247_2 := hx247_2
    have hw247_1 := hx247_1
    have hw247_0 := hx247_0
    cases e247
    replace hx247_0 := (HB.out.cell (World.block_lt_of_cell? w _ hx247_0)).trans hx247_0
    replace hx247_1 := (HB.out.cell (World.block_lt_of_cell? w _ hx247_1)).trans hx247_1
    replace hx247_2 := (HB.out.cell (World.block_lt_of_cell? w _ hx247_2)).trans hx247_2
    replace hx247_3 := (HB.out.cell (World.block_lt_of_cell? w _ hx247_3)).trans hx247_3
    replace hx247_4 := (HB.out.cell (World.block_lt_of_cell? w _ hx247_4)).trans hx247_4
    replace hx247_5 := (HB.out.cell (World.block_lt_of_cell? w _ hx247_5)).trans hx247_5
    replace hx247_6 := (HB.out.cell (World.block_lt_of_cell? w _ hx247_6)).trans hx247_6
    replace hx247_7 := (HB.out.cell (World.block_lt_of_cell? w _ hx247_7)).trans hx247_7
    replace hx247_8 := (HB.out.cell (World.block_lt_of_cell? w _ hx247_8)).trans hx247_8
    have HR247_8 := A0_ hi247_8
    have HC247_8 := A0_ hl247_8
    clear hi247_8 hl247_8
    replace p247 := eq_true p247
    replace q247 := eq_true q247
    have p248 : 0 ≤ (x5_1 : Int) := wd_
    have q248 : x5_1 < (l1.length : Int) := wd_
    obtain ⟨ad248, A248_8, c248_8, e248, hx248_0, hx248_1, hx248_2, hx248_3, hx248_4, hx248_5, hx248_6, hx248_7, hx248_8, hl248_8, hi248_8⟩ := at_T38 HR1.out x5_1 p248 q248
    have hw248_8 := hx248_8
    have hw248_7 := hx248_7
    have hw248_6 := hx248_6
    have hw248_5 := hx248_5
    have hw248_4 := hx248_4
    have hw248_3 := hx248_3
    have hw248_2 := hx248_2
    have hw248_1 := hx248_1
    have hw248_0 := hx248_0
    cases e248
    replace hx248_0 := (HB.out.cell (World.block_lt_of_cell? w _ hx248_0)).trans hx248_0
    replace hx248_1 := (HB.out.cell (World.block_lt_of_cell? w _ hx248_1)).trans hx248_1
    replace hx248_2 := (HB.out.cell (World.block_lt_of_cell? w _ hx248_2)).trans hx248_2
    replace hx248_3 := (HB.out.cell (World.block_lt_of_cell? w _ hx248_3)).trans hx248_3
    replace hx248_4 := (HB.out.cell (World.block_lt_of_cell? w _ hx248_4)).trans hx248_4
    replace hx248_5 := (HB.out.cell (World.block_lt_of_cell? w _ hx248_5)).trans hx248_5
    replace hx248_6 := (HB.out.cell (World.block_lt_of_cell? w _ hx248_6)).trans hx248_6
    replace hx248_7 := (HB.out.cell (World.block_lt_of_cell? w _ hx248_7)).trans hx248_7
    replace hx248_8 := (HB.out.cell (World.block_lt_of_cell? w _ hx248_8)).trans hx248_8
    have HR248_8 := A0_ hi248_8
    have HC248_8 := A0_ hl248_8
    clear hi248_8 hl248_8
    replace p248 := eq_true p248
    replace q248 := eq_true q248
    refine start_ (n := 23) (S := fun w' => w'.cell? (ad247.add ((x5_1).toNat * 9)) = some (.string ((rd_T38 l0 x5_1).f0)) ∧ w'.cell? ⟨(ad247.add ((x5_1).toNat * 9)).block, (ad247.add ((x5_1).toNat * 9)).off + 1, none⟩ = some (.string ((rd_T38 l0 x5_1).f1)) ∧ w'.cell? ⟨(ad247.add ((x5_1).toNat * 9)).block, (ad247.add ((x5_1).toNat * 9)).off + 2, none⟩ = some (.string ((rd_T38 l0 x5_1).f2)) ∧ w'.cell? ⟨(ad247.add ((x5_1).toNat * 9)).block, (ad247.add ((x5_1).toNat * 9)).off + 3, none⟩ = some (.int .u8 ((rd_T38 l0 x5_1).f3)) ∧ w'.cell? ⟨(ad247.add ((x5_1).toNat * 9)).block, (ad247.add ((x5_1).toNat * 9)).off + 4, none⟩ = some (.int .i64 ((rd_T38 l0 x5_1).f4.f0)) ∧ w'.cell? ⟨(ad247.add ((x5_1).toNat * 9)).block, (ad247.add ((x5_1).toNat * 9)).off + 5, none⟩ = some (.int .i64 ((rd_T38 l0 x5_1).f4.f1)) ∧ w'.cell? ⟨(ad247.add ((x5_1).toNat * 9)).block, (ad247.add ((x5_1).toNat * 9)).off + 6, none⟩ = some (.int .i64 ((rd_T38 l0 x5_1).f4.f2)) ∧ w'.cell? ⟨(ad247.add ((x5_1).toNat * 9)).block, (ad247.add ((x5_1).toNat * 9)).off + 7, none⟩ = some (.int .i64 ((rd_T38 l0 x5_1).f4.f3)) ∧ w'.cell? ⟨(ad247.add ((x5_1).toNat * 9)).block, (ad247.add ((x5_1).toNat * 9)).off + 8, none⟩ = some (.slice A247_8 ((rd_T38 l0 x5_1).f5).length c247_8) ∧ w'.cell? (ad248.add ((x5_1).toNat * 9)) = some (.string ((rd_T38 l1 x5_1).f0)) ∧ w'.cell? ⟨(ad248.add ((x5_1).toNat * 9)).block, (ad248.add ((x5_1).toNat * 9)).off + 1, none⟩ = some (.string ((rd_T38 l1 x5_1).f1)) ∧ w'.cell? ⟨(ad248.add ((x5_1).toNat * 9)).block, (ad248.add ((x5_1).toNat * 9)).off + 2, none⟩ = some (.string ((rd_T38 l1 x5_1).f2)) ∧ w'.cell? ⟨(ad248.add ((x5_1).toNat * 9)).block, (ad248.add ((x5_1).toNat * 9)).off + 3, none⟩ = some (.int .u8 ((rd_T38 l1 x5_1).f3)) ∧ w'.cell? ⟨(ad248.add ((x5_1).toNat * 9)).block, (ad248.add ((x5_1).toNat * 9)).off + 4, none⟩ = some (.int .i64 ((rd_T38 l1 x5_1).f4.f0)) ∧ w'.cell? ⟨(ad248.add ((x5_1).toNat * 9)).block, (ad248.add ((x5_1).toNat * 9)).off + 5, none⟩ = some (.int .i64 ((rd_T38 l1 x5_1).f4.f1)) ∧ w'.cell? ⟨(ad248.add ((x5_1).toNat * 9)).block, (ad248.add ((x5_1).toNat * 9)).off + 6, none⟩ = some (.int .i64 ((rd_T38 l1 x5_1).f4.f2)) ∧ w'.cell? ⟨(ad248.add ((x5_1).toNat * 9)).block, (ad248.add ((x5_1).toNat * 9)).off + 7, none⟩ = some (.int .i64 ((rd_T38 l1 x5_1).f4.f3)) ∧ w'.cell? ⟨(ad248.add ((x5_1).toNat * 9)).block, (ad248.add ((x5_1).toNat * 9)).off + 8, none⟩ = some (.slice A248_8 ((rd_T38 l1 x5_1).f5).length c248_8)) (ds := []) q25_0 (by kernel_rfl) rfl rfl ⟨((HB.out.cell (World.block_lt_of_cell? w _ hw247_0)).trans hw247_0), ((HB.out.cell (World.block_lt_of_cell? w _ hw247_1)).trans hw247_1), ((HB.out.cell (World.block_lt_of_cell? w _ hw247_2)).trans hw247_2), ((HB.out.cell (World.block_lt_of_cell? w _ hw247_3)).trans hw247_3), ((HB.out.cell (World.block_lt_of_cell? w _ hw247_4)).trans hw247_4), ((HB.out.cell (World.block_lt_of_cell? w _ hw247_5)).trans hw247_5), ((HB.out.cell (World.block_lt_of_cell? w _ hw247_6)).trans hw247_6), ((HB.out.cell (World.block_lt_of_cell? w _ hw247_7)).trans hw247_7), ((HB.out.cell (World.block_lt_of_cell? w _ hw247_8)).trans hw247_8), ((HB.out.cell (World.block_lt_of_cell? w _ hw248_0)).trans hw248_0), ((HB.out.cell (World.block_lt_of_cell? w _ hw248_1)).trans hw248_1), ((HB.out.cell (World.block_lt_of_cell? w _ hw248_2)).trans hw248_2), ((HB.out.cell (World.block_lt_of_cell? w _ hw248_3)).trans hw248_3), ((HB.out.cell (World.block_lt_of_cell? w _ hw248_4)).trans hw248_4), ((HB.out.cell (World.block_lt_of_cell? w _ hw248_5)).trans hw248_5), ((HB.out.cell (World.block_lt_of_cell? w _ hw248_6)).trans hw248_6), ((HB.out.cell (World.block_lt_of_cell? w _ hw248_7)).trans hw248_7), ((HB.out.cell (World.block_lt_of_cell? w _ hw248_8)).trans hw248_8)⟩ (fun hHeld => ?_); refine with_tabW bindleref08_SameTree.tab6 bindleref08_SameTree.bits6 (fun HT_ HW_ => ?_)
    generalize wr.drew = w14 at HB HR247_8 HR248_8 hx247_0 hx247_1 hx247_2 hx247_3 hx247_4 hx247_5 hx247_6 hx247_7 hx247_8 hx248_0 hx248_1 hx248_2 hx248_3 hx248_4 hx248_5 hx248_6 hx248_7 hx248_8 hHeld ⊢
    refine pur_ (i := 0) (N := some 17) q25_1 (any_of HT_.out (by kernel_rfl)) ?_
    refine pur_ (i := 1) (N := some 18) q25_2 (any_of HT_.out (by kernel_rfl)) ?_
    refine pur_ (i := 2) (N := some 19) q25_3 (any_of HT_.out (by kernel_rfl)) ?_
    refine pur_ (i := 3) (N := some 20) q25_4 (any_of HT_.out (by kernel_rfl)) ?_
    refine pur_ (i := 5) (N := some 22) q25_5 (any_of HT_.out (by kernel_rfl)) ?_
    refine pur_ (i := 6) (N := some 23) q25_6 (any_of HT_.out (by kernel_rfl)) ?_
    refine pur_ (i := 7) (N := some 24) q25_7 (any_of HT_.out (by kernel_rfl)) ?_
    refine pur_ (i := 8) (N := some 25) q25_8 (any_of HT_.out (by kernel_rfl)) ?_
    refine take_ (i := 4) (N := some 21) (v := ?_) (a' := ?_) q25_9 rfl rfl (take_ofW HT_.out HW_.out (by kernel_rfl)) (fun _ _ _ h => h) (Or.inl ⟨by rfl, ?_⟩) hHeld ?_ ?_
    rotate_left
    ·rintro w' ⟨s0, s1, s2, s3, s4, s5, s6, s7, s8, s9, s10, s11, s12, s13, s14, s15, s16, s17⟩
     go_simp
     with_reducible rfl
    rotate_left
    ·simp only [Act.put, List.setIfInBounds_toArray, List.set_cons_zero, List.set_cons_succ, i64_w, i32_w]
     rfl
    refine take_ (i := 9) (N := some 26) (v := ?_) (a' := ?_) q25_10 rfl rfl (take_ofW HT_.out HW_.out (by kernel_rfl)) (fun _ _ _ h => h) (Or.inl ⟨by rfl, ?_⟩) hHeld ?_ ?_
    rotate_left
    ·rintro w' ⟨s0, s1, s2, s3, s4, s5, s6, s7, s8, s9, s10, s11, s12, s13, s14, s15, s16, s17⟩
     go_simp
     with_reducible rfl
    rotate_left
    ·simp only [Act.put, List.setIfInBounds_toArray, List.set_cons_zero, List.set_cons_succ, i64_w, i32_w]
     rfl
    refine pur_ (i := 10) (N := some 27) q25_11 (any_of HT_.out (by kernel_rfl)) ?_
    refine pur_ (i := 11) (N := some 28) q25_12 (any_of HT_.out (by kernel_rfl)) ?_
    refine puu_ (i := 12) (N := some 29) q25_13 (any_of HT_.out (by kernel_rfl)) ?_
    refine puu_ (i := 13) (N := some 30) q25_14 (any_of HT_.out (by kernel_rfl)) ?_
    refine puu_ (i := 14) (N := some 31) q25_15 (any_of HT_.out (by kernel_rfl)) ?_
    refine puu_ (i := 15) (N := some 32) q25_16 (any_of HT_.out (by kernel_rfl)) ?_
    refine puu_ (i := 16) (N := some 33) q25_17 (any_of HT_.out (by kernel_rfl)) ?_
    refine puu_ (i := 17) (N := some 34) q25_18 (any_of HT_.out (by kernel_rfl)) ?_
    refine puu_ (i := 18) (N := some 35) q25_19 (any_of HT_.out (by kernel_rfl)) ?_
    refine puu_ (i := 19) (N := some 36) q25_20 (any_of HT_.out (by kernel_rfl)) ?_
    refine puu_ (i := 20) (N := some 37) q25_21 (any_of HT_.out (by kernel_rfl)) ?_
    refine puu_ (i := 21) (N := some 38) q25_22 (any_of HT_.out (by kernel_rfl)) ?_
    refine pur_ (i := 22) (N := some 39) q25_23 (any_of HT_.out (by kernel_rfl)) ?_
    refine done_ (done_of HT_.out (by kernel_rfl)) ?_
    try go_wp2
    go_ret
    exact ⟨we_, wb_ HB.out⟩
   rw [if_pos c7] at H
   have c7b0 : (((rd_T38 l0 x5_1).f2).toList == ((rd_T38 l1 x5_1).f2).toList) = true := beq_iff_eq.mpr c7
   have c7b1 : (((rd_T38 l0 x5_1).f2).toList != ((rd_T38 l1 x5_1).f2).toList) = false := bne_eq_false_iff_eq.mpr c7
   clear c7
   replace H := Option.bind_eq_some_iff.mp H
   obtain ⟨t251, A80, H⟩ := H
   replace H : (if t251 = true then (bindleref08_SameTree.l0 k1 l0 l1 (wrap64 (x5_1 + 1))) else (some false)) = some r := H
   have A8 := A0_ A80
   clear A80
   by_cases c9 : t251 = true
   rotate_left
   ·replace c9 := Bool.eq_false_iff.mpr c9
    subst c9
    have H1 : (some false) = some r := by rw [if_neg (show ¬ (false = true) by decide)] at H; exact H
    clear H
    have H := H1
    clear H1
    obtain rfl := Option.some.inj H
    try go_wp2
    have n0_ := A0_ (b1_ HB.out)
    clear HB
    have HB := n0_
    clear n0_
    have p247 : 0 ≤ (x5_1 : Int) := wd_
    have q247 : x5_1 < (l0.length : Int) := wd_
    obtain ⟨ad247, A247_8, c247_8, e247, hx247_0, hx247_1, hx247_2, hx247_3, hx247_4, hx247_5, hx247_6, hx247_7, hx247_8, hl247_8, hi247_8⟩ := at_T38 HR0.out x5_1 p247 q247
    have hw247_8 := hx247_8
    have hw247_7 := hx247_7
    have hw247_6 := hx247_6
    have hw247_5 := hx247_5
    have hw247_4 := hx247_4
    have hw247_3 := hx247_3
    have hw247_2 := hx247_2
    have hw247_1 := hx247_1
    have hw247_0 := hx247_0
    cases e247
    replace hx247_0 := (HB.out.cell (World.block_lt_of_cell? w _ hx247_0)).trans hx247_0
    replace hx247_1 := (HB.out.cell (World.block_lt_of_cell? w _ hx247_1)).trans hx247_1
    replace hx247_2 := (HB.out.cell (World.block_lt_of_cell? w _ hx247_2)).trans hx247_2
    replace hx247_3 := (HB.out.cell (World.block_lt_of_cell? w _ hx247_3)).trans hx247_3
    replace hx247_4 := (HB.out.cell (World.block_lt_of_cell? w _ hx247_4)).trans hx247_4
    replace hx247_5 := (HB.out.cell (World.block_lt_of_cell? w _ hx247_5)).trans hx247_5
    replace hx247_6 := (HB.out.cell (World.block_lt_of_cell? w _ hx247_6)).trans hx247_6
    replace hx247_7 := (HB.out.cell (World.block_lt_of_cell? w _ hx247_7)).trans hx247_7
    replace hx247_8 := (HB.out.cell (World.block_lt_of_cell? w _ hx247_8)).trans hx247_8
    have HR247_8 := A0_ hi247_8
    have HC247_8 := A0_ hl247_8
    clear hi247_8 hl247_8
    replace p247 := eq_true p247
    replace q247 := eq_true q247
    have p248 : 0 ≤ (x5_1 : Int) := wd_
    have q248 : x5_1 < (l1.length : Int) := wd_
    obtain ⟨ad248, A248_8, c248_8, e248, hx248_0, hx248_1, hx248_2, hx248_3, hx248_4, hx248_5, hx248_6, hx248_7, hx248_8, hl248_8, hi248_8⟩ := at_T38 HR1.out x5_1 p248 q248
    have hw248_8 := hx248_8
    have hw248_7 := hx248_7
    have hw248_6 := hx248_6
    have hw248_5 := hx248_5
    have hw248_4 := hx248_4
    have hw248_3 := hx248_3
    have hw248_2 := hx248_2
    have hw248_1 := hx248_1
    have hw248_0 := hx248_0
    cases e248
    replace hx248_0 := (HB.out.cell (World.block_lt_of_cell? w _ hx248_0)).trans hx248_0
    replace hx248_1 := (HB.out.cell (World.block_lt_of_cell? w _ hx248_1)).trans hx248_1
    replace hx248_2 := (HB.out.cell (World.block_lt_of_cell? w _ hx248_2)).trans hx248_2
    replace hx248_3 := (HB.out.cell (World.block_lt_of_cell? w _ hx248_3)).trans hx248_3
    replace hx248_4 := (HB.out.cell (World.block_lt_of_cell? w _ hx248_4)).trans hx248_4
    replace hx248_5 := (HB.out.cell (World.block_lt_of_cell? w _ hx248_5)).trans hx248_5
    replace hx248_6 := (HB.out.cell (World.block_lt_of_cell? w _ hx248_6)).trans hx248_6
    replace hx248_7 := (HB.out.cell (World.block_lt_of_cell? w _ hx248_7)).trans hx248_7
    replace hx248_8 := (HB.out.cell (World.block_lt_of_cell? w _ hx248_8)).trans hx248_8
    have HR248_8 := A0_ hi248_8
    have HC248_8 := A0_ hl248_8
    clear hi248_8 hl248_8
    replace p248 := eq_true p248
    replace q248 := eq_true q248
    have p249 : 0 ≤ (x5_1 : Int) := wd_
    have q249 : x5_1 < (l0.length : Int) := wd_
    obtain ⟨ad249, A249_8, c249_8, e249, hx249_0, hx249_1, hx249_2, hx249_3, hx249_4, hx249_5, hx249_6, hx249_7, hx249_8, hl249_8, hi249_8⟩ := at_T38 HR0.out x5_1 p249 q249
    have hw249_8 := hx249_8
    have hw249_7 := hx249_7
    have hw249_6 := hx249_6
    have hw249_5 := hx249_5
    have hw249_4 := hx249_4
    have hw249_3 := hx249_3
    have hw249_2 := hx249_2
    have hw249_1 := hx249_1
    have hw249_0 := hx249_0
    obtain rfl : ad247 = ad249 := (by injection e249)
    replace hx249_0 := (HB.out.cell (World.block_lt_of_cell? w _ hx249_0)).trans hx249_0
    replace hx249_1 := (HB.out.cell (World.block_lt_of_cell? w _ hx249_1)).trans hx249_1
    replace hx249_2 := (HB.out.cell (World.block_lt_of_cell? w _ hx249_2)).trans hx249_2
    replace hx249_3 := (HB.out.cell (World.block_lt_of_cell? w _ hx249_3)).trans hx249_3
    replace hx249_4 := (HB.out.cell (World.block_lt_of_cell? w _ hx249_4)).trans hx249_4
    replace hx249_5 := (HB.out.cell (World.block_lt_of_cell? w _ hx249_5)).trans hx249_5
    replace hx249_6 := (HB.out.cell (World.block_lt_of_cell? w _ hx249_6)).trans hx249_6
    replace hx249_7 := (HB.out.cell (World.block_lt_of_cell? w _ hx249_7)).trans hx249_7
    replace hx249_8 := (HB.out.cell (World.block_lt_of_cell? w _ hx249_8)).trans hx249_8
    have HR249_8 := A0_ hi249_8
    have HC249_8 := A0_ hl249_8
    clear hi249_8 hl249_8
    replace p249 := eq_true p249
    replace q249 := eq_true q249
    have ea_ := Option.some.inj (hx247_8.symm.trans hx249_8)
    injection ea_ with ea_ en_ ec_
    subst ea_
    subst ec_
    clear en_
    have p250 : 0 ≤ (x5_1 : Int) := wd_
    have q250 : x5_1 < (l1.length : Int) := wd_
    obtain ⟨ad250, A250_8, c250_8, e250, hx250_0, hx250_1, hx250_2, hx250_3, hx250_4, hx250_5, hx250_6, hx250_7, hx250_8, hl250_8, hi250_8⟩ := at_T38 HR1.out x5_1 p250 q250
    have hw250_8 := hx250_8
    have hw250_7 := hx250_7
    have hw250_6 := hx250_6
    have hw250_5 := hx250_5
    have hw250_4 := hx250_4
    have hw250_3 := hx250_3
    have hw250_2 := hx250_2
    have hw250_1 := hx250_1
    have hw250_0 := hx250_0
    obtain rfl : ad248 = ad250 := (by injection e250)
    replace hx250_0 := (HB.out.cell (World.block_lt_of_cell? w _ hx250_0)).trans hx250_0
    replace hx250_1 := (HB.out.cell (World.block_lt_of_cell? w _ hx250_1)).trans hx250_1
    replace hx250_2 := (HB.out.cell (World.block_lt_of_cell? w _ hx250_2)).trans hx250_2
    replace hx250_3 := (HB.out.cell (World.block_lt_of_cell? w _ hx250_3)).trans hx250_3
    replace hx250_4 := (HB.out.cell (World.block_lt_of_cell? w _ hx250_4)).trans hx250_4
    replace hx250_5 := (HB.out.cell (World.block_lt_of_cell? w _ hx250_5)).trans hx250_5
    replace hx250_6 := (HB.out.cell (World.block_lt_of_cell? w _ hx250_6)).trans hx250_6
    replace hx250_7 := (HB.out.cell (World.block_lt_of_cell? w _ hx250_7)).trans hx250_7
    replace hx250_8 := (HB.out.cell (World.block_lt_of_cell? w _ hx250_8)).trans hx250_8
    have HR250_8 := A0_ hi250_8
    have HC250_8 := A0_ hl250_8
    clear hi250_8 hl250_8
    replace p250 := eq_true p250
    replace q250 := eq_true q250
    have ea_ := Option.some.inj (hx248_8.symm.trans hx250_8)
    injection ea_ with ea_ en_ ec_
    subst ea_
    subst ec_
    clear en_
    refine start_ (n := 23) (S := fun w' => w'.cell? (ad247.add ((x5_1).toNat * 9)) = some (.string ((rd_T38 l0 x5_1).f0)) ∧ w'.cell? ⟨(ad247.add ((x5_1).toNat * 9)).block, (ad247.add ((x5_1).toNat * 9)).off + 1, none⟩ = some (.string ((rd_T38 l0 x5_1).f1)) ∧ w'.cell? ⟨(ad247.add ((x5_1).toNat * 9)).block, (ad247.add ((x5_1).toNat * 9)).off + 2, none⟩ = some (.string ((rd_T38 l0 x5_1).f2)) ∧ w'.cell? ⟨(ad247.add ((x5_1).toNat * 9)).block, (ad247.add ((x5_1).toNat * 9)).off + 3, none⟩ = some (.int .u8 ((rd_T38 l0 x5_1).f3)) ∧ w'.cell? ⟨(ad247.add ((x5_1).toNat * 9)).block, (ad247.add ((x5_1).toNat * 9)).off + 4, none⟩ = some (.int .i64 ((rd_T38 l0 x5_1).f4.f0)) ∧ w'.cell? ⟨(ad247.add ((x5_1).toNat * 9)).block, (ad247.add ((x5_1).toNat * 9)).off + 5, none⟩ = some (.int .i64 ((rd_T38 l0 x5_1).f4.f1)) ∧ w'.cell? ⟨(ad247.add ((x5_1).toNat * 9)).block, (ad247.add ((x5_1).toNat * 9)).off + 6, none⟩ = some (.int .i64 ((rd_T38 l0 x5_1).f4.f2)) ∧ w'.cell? ⟨(ad247.add ((x5_1).toNat * 9)).block, (ad247.add ((x5_1).toNat * 9)).off + 7, none⟩ = some (.int .i64 ((rd_T38 l0 x5_1).f4.f3)) ∧ w'.cell? ⟨(ad247.add ((x5_1).toNat * 9)).block, (ad247.add ((x5_1).toNat * 9)).off + 8, none⟩ = some (.slice A247_8 ((rd_T38 l0 x5_1).f5).length c247_8) ∧ w'.cell? (ad248.add ((x5_1).toNat * 9)) = some (.string ((rd_T38 l1 x5_1).f0)) ∧ w'.cell? ⟨(ad248.add ((x5_1).toNat * 9)).block, (ad248.add ((x5_1).toNat * 9)).off + 1, none⟩ = some (.string ((rd_T38 l1 x5_1).f1)) ∧ w'.cell? ⟨(ad248.add ((x5_1).toNat * 9)).block, (ad248.add ((x5_1).toNat * 9)).off + 2, none⟩ = some (.string ((rd_T38 l1 x5_1).f2)) ∧ w'.cell? ⟨(ad248.add ((x5_1).toNat * 9)).block, (ad248.add ((x5_1).toNat * 9)).off + 3, none⟩ = some (.int .u8 ((rd_T38 l1 x5_1).f3)) ∧ w'.cell? ⟨(ad248.add ((x5_1).toNat * 9)).block, (ad248.add ((x5_1).toNat * 9)).off + 4, none⟩ = some (.int .i64 ((rd_T38 l1 x5_1).f4.f0)) ∧ w'.cell? ⟨(ad248.add ((x5_1).toNat * 9)).block, (ad248.add ((x5_1).toNat * 9)).off + 5, none⟩ = some (.int .i64 ((rd_T38 l1 x5_1).f4.f1)) ∧ w'.cell? ⟨(ad248.add ((x5_1).toNat * 9)).block, (ad248.add ((x5_1).toNat * 9)).off + 6, none⟩ = some (.int .i64 ((rd_T38 l1 x5_1).f4.f2)) ∧ w'.cell? ⟨(ad248.add ((x5_1).toNat * 9)).block, (ad248.add ((x5_1).toNat * 9)).off + 7, none⟩ = some (.int .i64 ((rd_T38 l1 x5_1).f4.f3)) ∧ w'.cell? ⟨(ad248.add ((x5_1).toNat * 9)).block, (ad248.add ((x5_1).toNat * 9)).off + 8, none⟩ = some (.slice A248_8 ((rd_T38 l1 x5_1).f5).length c248_8) ∧ w'.cell? (ad247.add ((x5_1).toNat * 9)) = some (.string ((rd_T38 l0 x5_1).f0)) ∧ w'.cell? ⟨(ad247.add ((x5_1).toNat * 9)).block, (ad247.add ((x5_1).toNat * 9)).off + 1, none⟩ = some (.string ((rd_T38 l0 x5_1).f1)) ∧ w'.cell? ⟨(ad247.add ((x5_1).toNat * 9)).block, (ad247.add ((x5_1).toNat * 9)).off + 2, none⟩ = some (.string ((rd_T38 l0 x5_1).f2)) ∧ w'.cell? ⟨(ad247.add ((x5_1).toNat * 9)).block, (ad247.add ((x5_1).toNat * 9)).off + 3, none⟩ = some (.int .u8 ((rd_T38 l0 x5_1).f3)) ∧ w'.cell? ⟨(ad247.add ((x5_1).toNat * 9)).block, (ad247.add ((x5_1).toNat * 9)).off + 4, none⟩ = some (.int .i64 ((rd_T38 l0 x5_1).f4.f0)) ∧ w'.cell? ⟨(ad247.add ((x5_1).toNat * 9)).block, (ad247.add ((x5_1).toNat * 9)).off + 5, none⟩ = some (.int .i64 ((rd_T38 l0 x5_1).f4.f1)) ∧ w'.cell? ⟨(ad247.add ((x5_1).toNat * 9)).block, (ad247.add ((x5_1).toNat * 9)).off + 6, none⟩ = some (.int .i64 ((rd_T38 l0 x5_1).f4.f2)) ∧ w'.cell? ⟨(ad247.add ((x5_1).toNat * 9)).block, (ad247.add ((x5_1).toNat * 9)).off + 7, none⟩ = some (.int .i64 ((rd_T38 l0 x5_1).f4.f3)) ∧ w'.cell? ⟨(ad247.add ((x5_1).toNat * 9)).block, (ad247.add ((x5_1).toNat * 9)).off + 8, none⟩ = some (.slice A247_8 ((rd_T38 l0 x5_1).f5).length c247_8) ∧ w'.cell? (ad248.add ((x5_1).toNat * 9)) = some (.string ((rd_T38 l1 x5_1).f0)) ∧ w'.cell? ⟨(ad248.add ((x5_1).toNat * 9)).block, (ad248.add ((x5_1).toNat * 9)).off + 1, none⟩ = some (.string ((rd_T38 l1 x5_1).f1)) ∧ w'.cell? ⟨(ad248.add ((x5_1).toNat * 9)).block, (ad248.add ((x5_1).toNat * 9)).off + 2, none⟩ = some (.string ((rd_T38 l1 x5_1).f2)) ∧ w'.cell? ⟨(ad248.add ((x5_1).toNat * 9)).block, (ad248.add ((x5_1).toNat * 9)).off + 3, none⟩ = some (.int .u8 ((rd_T38 l1 x5_1).f3)) ∧ w'.cell? ⟨(ad248.add ((x5_1).toNat * 9)).block, (ad248.add ((x5_1).toNat * 9)).off + 4, none⟩ = some (.int .i64 ((rd_T38 l1 x5_1).f4.f0)) ∧ w'.cell? ⟨(ad248.add ((x5_1).toNat * 9)).block, (ad248.add ((x5_1).toNat * 9)).off + 5, none⟩ = some (.int .i64 ((rd_T38 l1 x5_1).f4.f1)) ∧ w'.cell? ⟨(ad248.add ((x5_1).toNat * 9)).block, (ad248.add ((x5_1).toNat * 9)).off + 6, none⟩ = some (.int .i64 ((rd_T38 l1 x5_1).f4.f2)) ∧ w'.cell? ⟨(ad248.add ((x5_1).toNat * 9)).block, (ad248.add ((x5_1).toNat * 9)).off + 7, none⟩ = some (.int .i64 ((rd_T38 l1 x5_1).f4.f3)) ∧ w'.cell? ⟨(ad248.add ((x5_1).toNat * 9)).block, (ad248.add ((x5_1).toNat * 9)).off + 8, none⟩ = some (.slice A248_8 ((rd_T38 l1 x5_1).f5).length c248_8)) (ds := []) q25_0 (by kernel_rfl) rfl rfl ⟨((HB.out.cell (World.block_lt_of_cell? w _ hw247_0)).trans hw247_0), ((HB.out.cell (World.block_lt_of_cell? w _ hw247_1)).trans hw247_1), ((HB.out.cell (World.block_lt_of_cell? w _ hw247_2)).trans hw247_2), ((HB.out.cell (World.block_lt_of_cell? w _ hw247_3)).trans hw247_3), ((HB.out.cell (World.block_lt_of_cell? w _ hw247_4)).trans hw247_4), ((HB.out.cell (World.block_lt_of_cell? w _ hw247_5)).trans hw247_5), ((HB.out.cell (World.block_lt_of_cell? w _ hw247_6)).trans hw247_6), ((HB.out.cell (World.block_lt_of_cell? w _ hw247_7)).trans hw247_7), ((HB.out.cell (World.block_lt_of_cell? w _ hw247_8)).trans hw247_8), ((HB.out.cell (World.block_lt_of_cell? w _ hw248_0)).trans hw248_0), ((HB.out.cell (World.block_lt_of_cell? w _ hw248_1)).trans hw248_1), ((HB.out.cell (World.block_lt_of_cell? w _ hw248_2)).trans hw248_2), ((HB.out.cell (World.block_lt_of_cell? w _ hw248_3)).trans hw248_3), ((HB.out.cell (World.block_lt_of_cell? w _ hw248_4)).trans hw248_4), ((HB.out.cell (World.block_lt_of_cell? w _ hw248_5)).trans hw248_5), ((HB.out.cell (World.block_lt_of_cell? w _ hw248_6)).trans hw248_6), ((HB.out.cell (World.block_lt_of_cell? w _ hw248_7)).trans hw248_7), ((HB.out.cell (World.block_lt_of_cell? w _ hw248_8)).trans hw248_8), ((HB.out.cell (World.block_lt_of_cell? w _ hw249_0)).trans hw249_0), ((HB.out.cell (World.block_lt_of_cell? w _ hw249_1)).trans hw249_1), ((HB.out.cell (World.block_lt_of_cell? w _ hw249_2)).trans hw249_2), ((HB.out.cell (World.block_lt_of_cell? w _ hw249_3)).trans hw249_3), ((HB.out.cell (World.block_lt_of_cell? w _ hw249_4)).trans hw249_4), ((HB.out.cell (World.block_lt_of_cell? w _ hw249_5)).trans hw249_5), ((HB.out.cell (World.block_lt_of_cell? w _ hw249_6)).trans hw249_6), ((HB.out.cell (World.block_lt_of_cell? w _ hw249_7)).trans hw249_7), ((HB.out.cell (World.block_lt_of_cell? w _ hw249_8)).trans hw249_8), ((HB.out.cell (World.block_lt_of_cell? w _ hw250_0)).trans hw250_0), ((HB.out.cell (World.block_lt_of_cell? w _ hw250_1)).trans hw250_1), ((HB.out.cell (World.block_lt_of_cell? w _ hw250_2)).trans hw250_2), ((HB.out.cell (World.block_lt_of_cell? w _ hw250_3)).trans hw250_3), ((HB.out.cell (World.block_lt_of_cell? w _ hw250_4)).trans hw250_4), ((HB.out.cell (World.block_lt_of_cell? w _ hw250_5)).trans hw250_5), ((HB.out.cell (World.block_lt_of_cell? w _ hw250_6)).trans hw250_6), ((HB.out.cell (World.block_lt_of_cell? w _ hw250_7)).trans hw250_7), ((HB.out.cell (World.block_lt_of_cell? w _ hw250_8)).trans hw250_8)⟩ (fun hHeld => ?_); refine with_tabW bindleref08_SameTree.tab6 bindleref08_SameTree.bits6 (fun HT_ HW_ => ?_)
    generalize wr.drew = w12 at HB HR247_8 HR248_8 HR249_8 HR250_8 hx247_0 hx247_1 hx247_2 hx247_3 hx247_4 hx247_5 hx247_6 hx247_7 hx247_8 hx248_0 hx248_1 hx248_2 hx248_3 hx248_4 hx248_5 hx248_6 hx248_7 hx248_8 hx249_0 hx249_1 hx249_2 hx249_3 hx249_4 hx249_5 hx249_6 hx249_7 hx249_8 hx250_0 hx250_1 hx250_2 hx250_3 hx250_4 hx250_5 hx250_6 hx250_7 hx250_8 hHeld ⊢
    refine pur_ (i := 0) (N := some 17) q25_1 (any_of HT_.out (by kernel_rfl)) ?_
    refine pur_ (i := 1) (N := some 18) q25_2 (any_of HT_.out (by kernel_rfl)) ?_
    refine pur_ (i := 2) (N := some 19) q25_3 (any_of HT_.out (by kernel_rfl)) ?_
    refine pur_ (i := 3) (N := some 20) q25_4 (any_of HT_.out (by kernel_rfl)) ?_
    refine pur_ (i := 5) (N := some 22) q25_5 (any_of HT_.out (by kernel_rfl)) ?_
    refine pur_ (i := 6) (N := some 23) q25_6 (any_of HT_.out (by kernel_rfl)) ?_
    refine pur_ (i := 7) (N := some 24) q25_7 (any_of HT_.out (by kernel_rfl)) ?_
    refine pur_ (i := 8) (N := some 25) q25_8 (any_of HT_.out (by kernel_rfl)) ?_
    refine take_ (i := 4) (N := some 21) (v := ?_) (a' := ?_) q25_9 rfl rfl (take_ofW HT_.out HW_.out (by kernel_rfl)) (fun _ _ _ h => h) (Or.inl ⟨by rfl, ?_⟩) hHeld ?_ ?_
    rotate_left
    ·rintro w' ⟨s0, s1, s2, s3, s4, s5, s6, s7, s8, s9, s10, s11, s12, s13, s14, s15, s16, s17, s18, s19, s20, s21, s22, s23, s24, s25, s26, s27, s28, s29, s30, s31, s32, s33, s34, s35⟩
     go_simp
     with_reducible rfl
    rotate_left
    ·simp only [Act.put, List.setIfInBounds_toArray, List.set_cons_zero, List.set_cons_succ, i64_w, i32_w]
     rfl
    refine take_ (i := 9) (N := some 26) (v := ?_) (a' := ?_) q25_10 rfl rfl (take_ofW HT_.out HW_.out (by kernel_rfl)) (fun _ _ _ h => h) (Or.inl ⟨by rfl, ?_⟩) hHeld ?_ ?_
    rotate_left
    ·rintro w' ⟨s0, s1, s2, s3, s4, s5, s6, s7, s8, s9, s10, s11, s12, s13, s14, s15, s16, s17, s18, s19, s20, s21, s22, s23, s24, s25, s26, s27, s28, s29, s30, s31, s32, s33, s34, s35⟩
     go_simp
     with_reducible rfl
    rotate_left
    ·simp only [Act.put, List.setIfInBounds_toArray, List.set_cons_zero, List.set_cons_succ, i64_w, i32_w]
     rfl
    refine pur_ (i := 10) (N := some 27) q25_11 (any_of HT_.out (by kernel_rfl)) ?_
    refine pur_ (i := 11) (N := some 28) q25_12 (any_of HT_.out (by kernel_rfl)) ?_
    refine pur_ (i := 12) (N := some 29) q25_13 (any_of HT_.out (by kernel_rfl)) ?_
    refine pur_ (i := 13) (N := some 30) q25_14 (any_of HT_.out (by kernel_rfl)) ?_
    refine pur_ (i := 14) (N := some 31) q25_15 (any_of HT_.out (by kernel_rfl)) ?_
    refine pur_ (i := 16) (N := some 33) q25_24 (any_of HT_.out (by kernel_rfl)) ?_
    refine pur_ (i := 17) (N := some 34) q25_25 (any_of HT_.out (by kernel_rfl)) ?_
    refine pur_ (i := 18) (N := some 35) q25_26 (any_of HT_.out (by kernel_rfl)) ?_
    refine take_ (i := 15) (N := some 32) (v := ?_) (a' := ?_) q25_19 rfl rfl (take_ofW HT_.out HW_.out (by kernel_rfl)) (fun _ _ _ h => h) (Or.inl ⟨by rfl, ?_⟩) hHeld ?_ ?_
    rotate_left
    ·rintro w' ⟨s0, s1, s2, s3, s4, s5, s6, s7, s8, s9, s10, s11, s12, s13, s14, s15, s16, s17, s18, s19, s20, s21, s22, s23, s24, s25, s26, s27, s28, s29, s30, s31, s32, s33, s34, s35⟩
     go_simp
     with_reducible rfl
    rotate_left
    ·simp only [Act.put, List.setIfInBounds_toArray, List.set_cons_zero, List.set_cons_succ, i64_w, i32_w]
     rfl
    refine take_ (i := 19) (N := some 36) (v := ?_) (a' := ?_) q25_20 rfl rfl (take_ofW HT_.out HW_.out (by kernel_rfl)) (fun _ _ _ h => h) (Or.inl ⟨by rfl, ?_⟩) hHeld ?_ ?_
    rotate_left
    ·rintro w' ⟨s0, s1, s2, s3, s4, s5, s6, s7, s8, s9, s10, s11, s12, s13, s14, s15, s16, s17, s18, s19, s20, s21, s22, s23, s24, s25, s26, s27, s28, s29, s30, s31, s32, s33, s34, s35⟩
     go_simp
     with_reducible rfl
    rotate_left
    ·simp only [Act.put, List.setIfInBounds_toArray, List.set_cons_zero, List.set_cons_succ, i64_w, i32_w]
     rfl
    refine one_ (i := 20) (N := some 37) q25_21 rfl rfl (one_of HT_.out (by kernel_rfl)) (by decide) (fun K hK => ?_)
    refine goes_ Tryd.func20 (by kernel_rfl) rfl #[.agg #[.string ((rd_T38 l0 x5_1).f0), .string ((rd_T38 l0 x5_1).f1), .string ((rd_T38 l0 x5_1).f2), .int .u8 ((rd_T38 l0 x5_1).f3), .int .i64 ((rd_T38 l0 x5_1).f4.f0), .int .i64 ((rd_T38 l0 x5_1).f4.f1), .int .i64 ((rd_T38 l0 x5_1).f4.f2), .int .i64 ((rd_T38 l0 x5_1).f4.f3), .slice A247_8 ((rd_T38 l0 x5_1).f5).length c247_8], .agg #[.string ((rd_T38 l1 x5_1).f0), .string ((rd_T38 l1 x5_1).f1), .string ((rd_T38 l1 x5_1).f2), .int .u8 ((rd_T38 l1 x5_1).f3), .int .i64 ((rd_T38 l1 x5_1).f4.f0), .int .i64 ((rd_T38 l1 x5_1).f4.f1), .int .i64 ((rd_T38 l1 x5_1).f4.f2), .int .i64 ((rd_T38 l1 x5_1).f4.f3), .slice A248_8 ((rd_T38 l1 x5_1).f5).length c248_8]] (by rfl) rfl rfl wm_ ?_
    with_reducible refine (bindleref08_Equal.calls ((rd_T38 l0 x5_1).f0) ((rd_T38 l0 x5_1).f1) ((rd_T38 l0 x5_1).f2) ((rd_T38 l0 x5_1).f3) ((rd_T38 l0 x5_1).f4.f0) ((rd_T38 l0 x5_1).f4.f1) ((rd_T38 l0 x5_1).f4.f2) ((rd_T38 l0 x5_1).f4.f3) _ _ ((rd_T38 l0 x5_1).f5) ((rd_T38 l1 x5_1).f0) ((rd_T38 l1 x5_1).f1) ((rd_T38 l1 x5_1).f2) ((rd_T38 l1 x5_1).f3) ((rd_T38 l1 x5_1).f4.f0) ((rd_T38 l1 x5_1).f4.f1) ((rd_T38 l1 x5_1).f4.f2) ((rd_T38 l1 x5_1).f4.f3) _ _ ((rd_T38 l1 x5_1).f5) false _ ?side1 ?side2 ?side3 ?side4 A8.out).mono ?_
    (case side1 => exact wc_ (Kd.C_below HR249_8.out HB.out))
    (case side2 => exact HC249_8.out)
    (case side3 => exact wc_ (Kd.C_below HR250_8.out HB.out))
    (case side4 => exact HC250_8.out)
    rintro e w13 ⟨rfl, hb⟩
    refine ⟨_, rfl, ?_⟩
    have n0_ := A0_ (below_step (wb_ HB.out) hb)
    clear HB
    have HB := n0_
    clear n0_
    (try clear hb)
    (try clear hb2)
    (try clear hk)
    (try clear hi)
    refine hK.out _ _ ⟨((HB.out.cell (World.block_lt_of_cell? w _ hw247_0)).trans hw247_0), ((HB.out.cell (World.block_lt_of_cell? w _ hw247_1)).trans hw247_1), ((HB.out.cell (World.block_lt_of_cell? w _ hw247_2)).trans hw247_2), ((HB.out.cell (World.block_lt_of_cell? w _ hw247_3)).trans hw247_3), ((HB.out.cell (World.block_lt_of_cell? w _ hw247_4)).trans hw247_4), ((HB.out.cell (World.block_lt_of_cell? w _ hw247_5)).trans hw247_5), ((HB.out.cell (World.block_lt_of_cell? w _ hw247_6)).trans hw247_6), ((HB.out.cell (World.block_lt_of_cell? w _ hw247_7)).trans hw247_7), ((HB.out.cell (World.block_lt_of_cell? w _ hw247_8)).trans hw247_8), ((HB.out.cell (World.block_lt_of_cell? w _ hw248_0)).trans hw248_0), ((HB.out.cell (World.block_lt_of_cell? w _ hw248_1)).trans hw248_1), ((HB.out.cell (World.block_lt_of_cell? w _ hw248_2)).trans hw248_2), ((HB.out.cell (World.block_lt_of_cell? w _ hw248_3)).trans hw248_3), ((HB.out.cell (World.block_lt_of_cell? w _ hw248_4)).trans hw248_4), ((HB.out.cell (World.block_lt_of_cell? w _ hw248_5)).trans hw248_5), ((HB.out.cell (World.block_lt_of_cell? w _ hw248_6)).trans hw248_6), ((HB.out.cell (World.block_lt_of_cell? w _ hw248_7)).trans hw248_7), ((HB.out.cell (World.block_lt_of_cell? w _ hw248_8)).trans hw248_8), ((HB.out.cell (World.block_lt_of_cell? w _ hw249_0)).trans hw249_0), ((HB.out.cell (World.block_lt_of_cell? w _ hw249_1)).trans hw249_1), ((HB.out.cell (World.block_lt_of_cell? w _ hw249_2)).trans hw249_2), ((HB.out.cell (World.block_lt_of_cell? w _ hw249_3)).trans hw249_3), ((HB.out.cell (World.block_lt_of_cell? w _ hw249_4)).trans hw249_4), ((HB.out.cell (World.block_lt_of_cell? w _ hw249_5)).trans hw249_5), ((HB.out.cell (World.block_lt_of_cell? w _ hw249_6)).trans hw249_6), ((HB.out.cell (World.block_lt_of_cell? w _ hw249_7)).trans hw249_7), ((HB.out.cell (World.block_lt_of_cell? w _ hw249_8)).trans hw249_8), ((HB.out.cell (World.block_lt_of_cell? w _ hw250_0)).trans hw250_0), ((HB.out.cell (World.block_lt_of_cell? w _ hw250_1)).trans hw250_1), ((HB.out.cell (World.block_lt_of_cell? w _ hw250_2)).trans hw250_2), ((HB.out.cell (World.block_lt_of_cell? w _ hw250_3)).trans hw250_3), ((HB.out.cell (World.block_lt_of_cell? w _ hw250_4)).trans hw250_4), ((HB.out.cell (World.block_lt_of_cell? w _ hw250_5)).trans hw250_5), ((HB.out.cell (World.block_lt_of_cell? w _ hw250_6)).trans hw250_6), ((HB.out.cell (World.block_lt_of_cell? w _ hw250_7)).trans hw250_7), ((HB.out.cell (World.block_lt_of_cell? w _ hw250_8)).trans hw250_8)⟩ (fun hHeld => ?_)
    clear hK K
    refine norm_ (a' := ?_) ?_ ?_
    rotate_left
    ·show Act.put _ (some 37) _ = _
     simp only [Act.put, List.setIfInBounds_toArray, List.set_cons_zero, List.set_cons_succ, i64_w, i32_w]
     rfl
    refine pur_ (i := 21) (N := some 38) q25_22 (any_of HT_.out (by kernel_rfl)) ?_
    refine pur_ (i := 22) (N := some 39) q25_23 (any_of HT_.out (by kernel_rfl)) ?_
    refine done_ (done_of HT_.out (by kernel_rfl)) ?_
    try go_wp2
    go_ret
    exact ⟨we_, wb_ HB.out⟩
   subst c9
   have H1 : (bindleref08_SameTree.l0 k1 l0 l1 (wrap64 (x5_1 + 1))) = some r := by rw [if_pos rfl] at H; exact H
   clear H
   have H := H1
   clear H1
   have H' := A0_ H
   clear H
   try go_wp2
   have n0_ := A0_ (b1_ HB.out)
   clear HB
   have HB := n0_
   clear n0_
   have p247 : 0 ≤ (x5_1 : Int) := wd_
   have q247 : x5_1 < (l0.length : Int) := wd_
   obtain ⟨ad247, A247_8, c247_8, e247, hx247_0, hx247_1, hx247_2, hx247_3, hx247_4, hx247_5, hx247_6, hx247_7, hx247_8, hl247_8, hi247_8⟩ := at_T38 HR0.out x5_1 p247 q247
   have hw247_8 := hx247_8
   have hw247_7 := hx247_7
   have hw247_6 := hx247_6
   have hw247_5 := hx247_5
   have hw247_4 := hx247_4
   have hw247_3 := hx247_3
   have hw247_2 := hx247_2
   have hw247_1 := hx247_1
   have hw247_0 := hx247_0
   cases e247
   replace hx247_0 := (HB.out.cell (World.block_lt_of_cell? w _ hx247_0)).trans hx247_0
   replace hx247_1 := (HB.out.cell (World.block_lt_of_cell? w _ hx247_1)).trans hx247_1
   replace hx247_2 := (HB.out.cell (World.block_lt_of_cell? w _ hx247_2)).trans hx247_2
   replace hx247_3 := (HB.out.cell (World.block_lt_of_cell? w _ hx247_3)).trans hx247_3
   replace hx247_4 := (HB.out.cell (World.block_lt_of_cell? w _ hx247_4)).trans hx247_4
   replace hx247_5 := (HB.out.cell (World.block_lt_of_cell? w _ hx247_5)).trans hx247_5
   replace hx247_6 := (HB.out.cell (World.block_lt_of_cell? w _ hx247_6)).trans hx247_6
   replace hx247_7 := (HB.out.cell (World.block_lt_of_cell? w _ hx247_7)).trans hx247_7
   replace hx247_8 := (HB.out.cell (World.block_lt_of_cell? w _ hx247_8)).trans hx247_8
   have HR247_8 := A0_ hi247_8
   have HC247_8 := A0_ hl247_8
   clear hi247_8 hl247_8
   replace p247 := eq_true p247
   replace q247 := eq_true q247
   have p248 : 0 ≤ (x5_1 : Int) := wd_
   have q248 : x5_1 < (l1.length : Int) := wd_
   obtain ⟨ad248, A248_8, c248_8, e248, hx248_0, hx248_1, hx248_2, hx248_3, hx248_4, hx248_5, hx248_6, hx248_7, hx248_8, hl248_8, hi248_8⟩ := at_T38 HR1.out x5_1 p248 q248
   have hw248_8 := hx248_8
   have hw248_7 := hx248_7
   have hw248_6 := hx248_6
   have hw248_5 := hx248_5
   have hw248_4 := hx248_4
   have hw248_3 := hx248_3
   have hw248_2 := hx248_2
   have hw248_1 := hx248_1
   have hw248_0 := hx248_0
   cases e248
   replace hx248_0 := (HB.out.cell (World.block_lt_of_cell? w _ hx248_0)).trans hx248_0
   replace hx248_1 := (HB.out.cell (World.block_lt_of_cell? w _ hx248_1)).trans hx248_1
   replace hx248_2 := (HB.out.cell (World.block_lt_of_cell? w _ hx248_2)).trans hx248_2
   replace hx248_3 := (HB.out.cell (World.block_lt_of_cell? w _ hx248_3)).trans hx248_3
   replace hx248_4 := (HB.out.cell (World.block_lt_of_cell? w _ hx248_4)).trans hx248_4
   replace hx248_5 := (HB.out.cell (World.block_lt_of_cell? w _ hx248_5)).trans hx248_5
   replace hx248_6 := (HB.out.cell (World.block_lt_of_cell? w _ hx248_6)).trans hx248_6
   replace hx248_7 := (HB.out.cell (World.block_lt_of_cell? w _ hx248_7)).trans hx248_7
   replace hx248_8 := (HB.out.cell (World.block_lt_of_cell? w _ hx248_8)).trans hx248_8
   have HR248_8 := A0_ hi248_8
   have HC248_8 := A0_ hl248_8
   clear hi248_8 hl248_8
   replace p248 := eq_true p248
   replace q248 := eq_true q248
   have p249 : 0 ≤ (x5_1 : Int) := wd_
   have q249 : x5_1 < (l0.length : Int) := wd_
   obtain ⟨ad249, A249_8, c249_8, e249, hx249_0, hx249_1, hx249_2, hx249_3, hx249_4, hx249_5, hx249_6, hx249_7, hx249_8, hl249_8, hi249_8⟩ := at_T38 HR0.out x5_1 p249 q249
   have hw249_8 := hx249_8
   have hw249_7 := hx249_7
   have hw249_6 := hx249_6
   have hw249_5 := hx249_5
   have hw249_4 := hx249_4
   have hw249_3 := hx249_3
   have hw249_2 := hx249_2
   have hw249_1 := hx249_1
   have hw249_0 := hx249_0
   obtain rfl : ad247 = ad249 := (by injection e249)
   replace hx249_0 := (HB.out.cell (World.block_lt_of_cell? w _ hx249_0)).trans hx249_0
   replace hx249_1 := (HB.out.cell (World.block_lt_of_cell? w _ hx249_1)).trans hx249_1
   replace hx249_2 := (HB.out.cell (World.block_lt_of_cell? w _ hx249_2)).trans hx249_2
   replace hx249_3 := (HB.out.cell (World.block_lt_of_cell? w _ hx249_3)).trans hx249_3
   replace hx249_4 := (HB.out.cell (World.block_lt_of_cell? w _ hx249_4)).trans hx249_4
   replace hx249_5 := (HB.out.cell (World.block_lt_of_cell? w _ hx249_5)).trans hx249_5
   replace hx249_6 := (HB.out.cell (World.block_lt_of_cell? w _ hx249_6)).trans hx249_6
   replace hx249_7 := (HB.out.cell (World.block_lt_of_cell? w _ hx249_7)).trans hx249_7
   replace hx249_8 := (HB.out.cell (World.block_lt_of_cell? w _ hx249_8)).trans hx249_8
   have HR249_8 := A0_ hi249_8
   have HC249_8 := A0_ hl249_8
   clear hi249_8 hl249_8
   replace p249 := eq_true p249
   replace q249 := eq_true q249
   have ea_ := Option.some.inj (hx247_8.symm.trans hx249_8)
   injection ea_ with ea_ en_ ec_
   subst ea_
   subst ec_
   clear en_
   have p250 : 0 ≤ (x5_1 : Int) := wd_
   have q250 : x5_1 < (l1.length : Int) := wd_
   obtain ⟨ad250, A250_8, c250_8, e250, hx250_0, hx250_1, hx250_2, hx250_3, hx250_4, hx250_5, hx250_6, hx250_7, hx250_8, hl250_8, hi250_8⟩ := at_T38 HR1.out x5_1 p250 q250
   have hw250_8 := hx250_8
   have hw250_7 := hx250_7
   have hw250_6 := hx250_6
   have hw250_5 := hx250_5
   have hw250_4 := hx250_4
   have hw250_3 := hx250_3
   have hw250_2 := hx250_2
   have hw250_1 := hx250_1
   have hw250_0 := hx250_0
   obtain rfl : ad248 = ad250 := (by injection e250)
   replace hx250_0 := (HB.out.cell (World.block_lt_of_cell? w _ hx250_0)).trans hx250_0
   replace hx250_1 := (HB.out.cell (World.block_lt_of_cell? w _ hx250_1)).trans hx250_1
   replace hx250_2 := (HB.out.cell (World.block_lt_of_cell? w _ hx250_2)).trans hx250_2
   replace hx250_3 := (HB.out.cell (World.block_lt_of_cell? w _ hx250_3)).trans hx250_3
   replace hx250_4 := (HB.out.cell (World.block_lt_of_cell? w _ hx250_4)).trans hx250_4
   replace hx250_5 := (HB.out.cell (World.block_lt_of_cell? w _ hx250_5)).trans hx250_5
   replace hx250_6 := (HB.out.cell (World.block_lt_of_cell? w _ hx250_6)).trans hx250_6
   replace hx250_7 := (HB.out.cell (World.block_lt_of_cell? w _ hx250_7)).trans hx250_7
   replace hx250_8 := (HB.out.cell (World.block_lt_of_cell? w _ hx250_8)).trans hx250_8
   have HR250_8 := A0_ hi250_8
   have HC250_8 := A0_ hl250_8
   clear hi250_8 hl250_8
   replace p250 := eq_true p250
   replace q250 := eq_true q250
   have ea_ := Option.some.inj (hx248_8.symm.trans hx250_8)
   injection ea_ with ea_ en_ ec_
   subst ea_
   subst ec_
   clear en_
   refine start_ (n := 23) (S := fun w' => w'.cell? (ad247.add ((x5_1).toNat * 9)) = some (.string ((rd_T38 l0 x5_1).f0)) ∧ w'.cell? ⟨(ad247.add ((x5_1).toNat * 9)).block, (ad247.add ((x5_1).toNat * 9)).off + 1, none⟩ = some (.string ((rd_T38 l0 x5_1).f1)) ∧ w'.cell? ⟨(ad247.add ((x5_1).toNat * 9)).block, (ad247.add ((x5_1).toNat * 9)).off + 2, none⟩ = some (.string ((rd_T38 l0 x5_1).f2)) ∧ w'.cell? ⟨(ad247.add ((x5_1).toNat * 9)).block, (ad247.add ((x5_1).toNat * 9)).off + 3, none⟩ = some (.int .u8 ((rd_T38 l0 x5_1).f3)) ∧ w'.cell? ⟨(ad247.add ((x5_1).toNat * 9)).block, (ad247.add ((x5_1).toNat * 9)).off + 4, none⟩ = some (.int .i64 ((rd_T38 l0 x5_1).f4.f0)) ∧ w'.cell? ⟨(ad247.add ((x5_1).toNat * 9)).block, (ad247.add ((x5_1).toNat * 9)).off + 5, none⟩ = some (.int .i64 ((rd_T38 l0 x5_1).f4.f1)) ∧ w'.cell? ⟨(ad247.add ((x5_1).toNat * 9)).block, (ad247.add ((x5_1).toNat * 9)).off + 6, none⟩ = some (.int .i64 ((rd_T38 l0 x5_1).f4.f2)) ∧ w'.cell? ⟨(ad247.add ((x5_1).toNat * 9)).block, (ad247.add ((x5_1).toNat * 9)).off + 7, none⟩ = some (.int .i64 ((rd_T38 l0 x5_1).f4.f3)) ∧ w'.cell? ⟨(ad247.add ((x5_1).toNat * 9)).block, (ad247.add ((x5_1).toNat * 9)).off + 8, none⟩ = some (.slice A247_8 ((rd_T38 l0 x5_1).f5).length c247_8) ∧ w'.cell? (ad248.add ((x5_1).toNat * 9)) = some (.string ((rd_T38 l1 x5_1).f0)) ∧ w'.cell? ⟨(ad248.add ((x5_1).toNat * 9)).block, (ad248.add ((x5_1).toNat * 9)).off + 1, none⟩ = some (.string ((rd_T38 l1 x5_1).f1)) ∧ w'.cell? ⟨(ad248.add ((x5_1).toNat * 9)).block, (ad248.add ((x5_1).toNat * 9)).off + 2, none⟩ = some (.string ((rd_T38 l1 x5_1).f2)) ∧ w'.cell? ⟨(ad248.add ((x5_1).toNat * 9)).block, (ad248.add ((x5_1).toNat * 9)).off + 3, none⟩ = some (.int .u8 ((rd_T38 l1 x5_1).f3)) ∧ w'.cell? ⟨(ad248.add ((x5_1).toNat * 9)).block, (ad248.add ((x5_1).toNat * 9)).off + 4, none⟩ = some (.int .i64 ((rd_T38 l1 x5_1).f4.f0)) ∧ w'.cell? ⟨(ad248.add ((x5_1).toNat * 9)).block, (ad248.add ((x5_1).toNat * 9)).off + 5, none⟩ = some (.int .i64 ((rd_T38 l1 x5_1).f4.f1)) ∧ w'.cell? ⟨(ad248.add ((x5_1).toNat * 9)).block, (ad248.add ((x5_1).toNat * 9)).off + 6, none⟩ = some (.int .i64 ((rd_T38 l1 x5_1).f4.f2)) ∧ w'.cell? ⟨(ad248.add ((x5_1).toNat * 9)).block, (ad248.add ((x5_1).toNat * 9)).off + 7, none⟩ = some (.int .i64 ((rd_T38 l1 x5_1).f4.f3)) ∧ w'.cell? ⟨(ad248.add ((x5_1).toNat * 9)).block, (ad248.add ((x5_1).toNat * 9)).off + 8, none⟩ = some (.slice A248_8 ((rd_T38 l1 x5_1).f5).length c248_8) ∧ w'.cell? (ad247.add ((x5_1).toNat * 9)) = some (.string ((rd_T38 l0 x5_1).f0)) ∧ w'.cell? ⟨(ad247.add ((x5_1).toNat * 9)).block, (ad247.add ((x5_1).toNat * 9)).off + 1, none⟩ = some (.string ((rd_T38 l0 x5_1).f1)) ∧ w'.cell? ⟨(ad247.add ((x5_1).toNat * 9)).block, (ad247.add ((x5_1).toNat * 9)).off + 2, none⟩ = some (.string ((rd_T38 l0 x5_1).f2)) ∧ w'.cell? ⟨(ad247.add ((x5_1).toNat * 9)).block, (ad247.add ((x5_1).toNat * 9)).off + 3, none⟩ = some (.int .u8 ((rd_T38 l0 x5_1).f3)) ∧ w'.cell? ⟨(ad247.add ((x5_1).toNat * 9)).block, (ad247.add ((x5_1).toNat * 9)).off + 4, none⟩ = some (.int .i64 ((rd_T38 l0 x5_1).f4.f0)) ∧ w'.cell? ⟨(ad247.add ((x5_1).toNat * 9)).block, (ad247.add ((x5_1).toNat * 9)).off + 5, none⟩ = some (.int .i64 ((rd_T38 l0 x5_1).f4.f1)) ∧ w'.cell? ⟨(ad247.add ((x5_1).toNat * 9)).block, (ad247.add ((x5_1).toNat * 9)).off + 6, none⟩ = some (.int .i64 ((rd_T38 l0 x5_1).f4.f2)) ∧ w'.cell? ⟨(ad247.add ((x5_1).toNat * 9)).block, (ad247.add ((x5_1).toNat * 9)).off + 7, none⟩ = some (.int .i64 ((rd_T38 l0 x5_1).f4.f3)) ∧ w'.cell? ⟨(ad247.add ((x5_1).toNat * 9)).block, (ad247.add ((x5_1).toNat * 9)).off + 8, none⟩ = some (.slice A247_8 ((rd_T38 l0 x5_1).f5).length c247_8) ∧ w'.cell? (ad248.add ((x5_1).toNat * 9)) = some (.string ((rd_T38 l1 x5_1).f0)) ∧ w'.cell? ⟨(ad248.add ((x5_1).toNat * 9)).block, (ad248.add ((x5_1).toNat * 9)).off + 1, none⟩ = some (.string ((rd_T38 l1 x5_1).f1)) ∧ w'.cell? ⟨(ad248.add ((x5_1).toNat * 9)).block, (ad248.add ((x5_1).toNat * 9)).off + 2, none⟩ = some (.string ((rd_T38 l1 x5_1).f2)) ∧ w'.cell? ⟨(ad248.add ((x5_1).toNat * 9)).block, (ad248.add ((x5_1).toNat * 9)).off + 3, none⟩ = some (.int .u8 ((rd_T38 l1 x5_1).f3)) ∧ w'.cell? ⟨(ad248.add ((x5_1).toNat * 9)).block, (ad248.add ((x5_1).toNat * 9)).off + 4, none⟩ = some (.int .i64 ((rd_T38 l1 x5_1).f4.f0)) ∧ w'.cell? ⟨(ad248.add ((x5_1).toNat * 9)).block, (ad248.add ((x5_1).toNat * 9)).off + 5, none⟩ = some (.int .i64 ((rd_T38 l1 x5_1).f4.f1)) ∧ w'.cell? ⟨(ad248.add ((x5_1).toNat * 9)).block, (ad248.add ((x5_1).toNat * 9)).off + 6, none⟩ = some (.int .i64 ((rd_T38 l1 x5_1).f4.f2)) ∧ w'.cell? ⟨(ad248.add ((x5_1).toNat * 9)).block, (ad248.add ((x5_1).toNat * 9)).off + 7, none⟩ = some (.int .i64 ((rd_T38 l1 x5_1).f4.f3)) ∧ w'.cell? ⟨(ad248.add ((x5_1).toNat * 9)).block, (ad248.add ((x5_1).toNat * 9)).off + 8, none⟩ = some (.slice A248_8 ((rd_T38 l1 x5_1).f5).length c248_8)) (ds := []) q25_0 (by kernel_rfl) rfl rfl ⟨((HB.out.cell (World.block_lt_of_cell? w _ hw247_0)).trans hw247_0), ((HB.out.cell (World.block_lt_of_cell? w _ hw247_1)).trans hw247_1), ((HB.out.cell (World.block_lt_of_cell? w _ hw247_2)).trans hw247_2), ((HB.out.cell (World.block_lt_of_cell? w _ hw247_3)).trans hw247_3), ((HB.out.cell (World.block_lt_of_cell? w _ hw247_4)).trans hw247_4), ((HB.out.cell (World.block_lt_of_cell? w _ hw247_5)).trans hw247_5), ((HB.out.cell (World.block_lt_of_cell? w _ hw247_6)).trans hw247_6), ((HB.out.cell (World.block_lt_of_cell? w _ hw247_7)).trans hw247_7), ((HB.out.cell (World.block_lt_of_cell? w _ hw247_8)).trans hw247_8), ((HB.out.cell (World.block_lt_of_cell? w _ hw248_0)).trans hw248_0), ((HB.out.cell (World.block_lt_of_cell? w _ hw248_1)).trans hw248_1), ((HB.out.cell (World.block_lt_of_cell? w _ hw248_2)).trans hw248_2), ((HB.out.cell (World.block_lt_of_cell? w _ hw248_3)).trans hw248_3), ((HB.out.cell (World.block_lt_of_cell? w _ hw248_4)).trans hw248_4), ((HB.out.cell (World.block_lt_of_cell? w _ hw248_5)).trans hw248_5), ((HB.out.cell (World.block_lt_of_cell? w _ hw248_6)).trans hw248_6), ((HB.out.cell (World.block_lt_of_cell? w _ hw248_7)).trans hw248_7), ((HB.out.cell (World.block_lt_of_cell? w _ hw248_8)).trans hw248_8), ((HB.out.cell (World.block_lt_of_cell? w _ hw249_0)).trans hw249_0), ((HB.out.cell (World.block_lt_of_cell? w _ hw249_1)).trans hw249_1), ((HB.out.cell (World.block_lt_of_cell? w _ hw249_2)).trans hw249_2), ((HB.out.cell (World.block_lt_of_cell? w _ hw249_3)).trans hw249_3), ((HB.out.cell (World.block_lt_of_cell? w _ hw249_4)).trans hw249_4), ((HB.out.cell (World.block_lt_of_cell? w _ hw249_5)).trans hw249_5), ((HB.out.cell (World.block_lt_of_cell? w _ hw249_6)).trans hw249_6), ((HB.out.cell (World.block_lt_of_cell? w _ hw249_7)).trans hw249_7), ((HB.out.cell (World.block_lt_of_cell? w _ hw249_8)).trans hw249_8), ((HB.out.cell (World.block_lt_of_cell? w _ hw250_0)).trans hw250_0), ((HB.out.cell (World.block_lt_of_cell? w _ hw250_1)).trans hw250_1), ((HB.out.cell (World.block_lt_of_cell? w _ hw250_2)).trans hw250_2), ((HB.out.cell (World.block_lt_of_cell? w _ hw250_3)).trans hw250_3), ((HB.out.cell (World.block_lt_of_cell? w _ hw250_4)).trans hw250_4), ((HB.out.cell (World.block_lt_of_cell? w _ hw250_5)).trans hw250_5), ((HB.out.cell (World.block_lt_of_cell? w _ hw250_6)).trans hw250_6), ((HB.out.cell (World.block_lt_of_cell? w _ hw250_7)).trans hw250_7), ((HB.out.cell (World.block_lt_of_cell? w _ hw250_8)).trans hw250_8)⟩ (fun hHeld => ?_); refine with_tabW bindleref08_SameTree.tab6 bindleref08_SameTree.bits6 (fun HT_ HW_ => ?_)
   generalize wr.drew = w10 at HB HR247_8 HR248_8 HR249_8 HR250_8 hx247_0 hx247_1 hx247_2 hx247_3 hx247_4 hx247_5 hx247_6 hx247_7 hx247_8 hx248_0 hx248_1 hx248_2 hx248_3 hx248_4 hx248_5 hx248_6 hx248_7 hx248_8 hx249_0 hx249_1 hx249_2 hx249_3 hx249_4 hx249_5 hx249_6 hx249_7 hx249_8 hx250_0 hx250_1 hx250_2 hx250_3 hx250_4 hx250_5 hx250_6 hx250_7 hx250_8 hHeld ⊢
   refine pur_ (i := 0) (N := some 17) q25_1 (any_of HT_.out (by kernel_rfl)) ?_
   refine pur_ (i := 1) (N := some 18) q25_2 (any_of HT_.out (by kernel_rfl)) ?_
   refine pur_ (i := 2) (N := some 19) q25_3 (any_of HT_.out (by kernel_rfl)) ?_
   refine pur_ (i := 3) (N := some 20) q25_4 (any_of HT_.out (by kernel_rfl)) ?_
   refine pur_ (i := 5) (N := some 22) q25_5 (any_of HT_.out (by kernel_rfl)) ?_
   refine pur_ (i := 6) (N := some 23) q25_6 (any_of HT_.out (by kernel_rfl)) ?_
   refine pur_ (i := 7) (N := some 24) q25_7 (any_of HT_.out (by kernel_rfl)) ?_
   refine pur_ (i := 8) (N := some 25) q25_8 (any_of HT_.out (by kernel_rfl)) ?_
   refine take_ (i := 4) (N := some 21) (v := ?_) (a' := ?_) q25_9 rfl rfl (take_ofW HT_.out HW_.out (by kernel_rfl)) (fun _ _ _ h => h) (Or.inl ⟨by rfl, ?_⟩) hHeld ?_ ?_
   rotate_left
   ·rintro w' ⟨s0, s1, s2, s3, s4, s5, s6, s7, s8, s9, s10, s11, s12, s13, s14, s15, s16, s17, s18, s19, s20, s21, s22, s23, s24, s25, s26, s27, s28, s29, s30, s31, s32, s33, s34, s35⟩
    go_simp
    with_reducible rfl
   rotate_left
   ·simp only [Act.put, List.setIfInBounds_toArray, List.set_cons_zero, List.set_cons_succ, i64_w, i32_w]
    rfl
   refine take_ (i := 9) (N := some 26) (v := ?_) (a' := ?_) q25_10 rfl rfl (take_ofW HT_.out HW_.out (by kernel_rfl)) (fun _ _ _ h => h) (Or.inl ⟨by rfl, ?_⟩) hHeld ?_ ?_
   rotate_left
   ·rintro w' ⟨s0, s1, s2, s3, s4, s5, s6, s7, s8, s9, s10, s11, s12, s13, s14, s15, s16, s17, s18, s19, s20, s21, s22, s23, s24, s25, s26, s27, s28, s29, s30, s31, s32, s33, s34, s35⟩
    go_simp
    with_reducible rfl
   rotate_left
   ·simp only [Act.put, List.setIfInBounds_toArray, List.set_cons_zero, List.set_cons_succ, i64_w, i32_w]
    rfl
   refine pur_ (i := 10) (N := some 27) q25_11 (any_of HT_.out (by kernel_rfl)) ?_
   refine pur_ (i := 11) (N := some 28) q25_12 (any_of HT_.out (by kernel_rfl)) ?_
   refine pur_ (i := 12) (N := some 29) q25_13 (any_of HT_.out (by kernel_rfl)) ?_
   refine pur_ (i := 13) (N := some 30) q25_14 (any_of HT_.out (by kernel_rfl)) ?_
   refine pur_ (i := 14) (N := some 31) q25_15 (any_of HT_.out (by kernel_rfl)) ?_
   refine pur_ (i := 16) (N := some 33) q25_24 (any_of HT_.out (by kernel_rfl)) ?_
   refine pur_ (i := 17) (N := some 34) q25_25 (any_of HT_.out (by kernel_rfl)) ?_
   refine pur_ (i := 18) (N := some 35) q25_26 (any_of HT_.out (by kernel_rfl)) ?_
   refine take_ (i := 15) (N := some 32) (v := ?_) (a' := ?_) q25_19 rfl rfl (take_ofW HT_.out HW_.out (by kernel_rfl)) (fun _ _ _ h => h) (Or.inl ⟨by rfl, ?_⟩) hHeld ?_ ?_
   rotate_left
   ·rintro w' ⟨s0, s1, s2, s3, s4, s5, s6, s7, s8, s9, s10, s11, s12, s13, s14, s15, s16, s17, s18, s19, s20, s21, s22, s23, s24, s25, s26, s27, s28, s29, s30, s31, s32, s33, s34, s35⟩
    go_simp
    with_reducible rfl
   rotate_left
   ·simp only [Act.put, List.setIfInBounds_toArray, List.set_cons_zero, List.set_cons_succ, i64_w, i32_w]
    rfl
   refine take_ (i := 19) (N := some 36) (v := ?_) (a' := ?_) q25_20 rfl rfl (take_ofW HT_.out HW_.out (by kernel_rfl)) (fun _ _ _ h => h) (Or.inl ⟨by rfl, ?_⟩) hHeld ?_ ?_
   rotate_left
   ·rintro w' ⟨s0, s1, s2, s3, s4, s5, s6, s7, s8, s9, s10, s11, s12, s13, s14, s15, s16, s17, s18, s19, s20, s21, s22, s23, s24, s25, s26, s27, s28, s29, s30, s31, s32, s33, s34, s35⟩
    go_simp
    with_reducible rfl
   rotate_left
   ·simp only [Act.put, List.setIfInBounds_toArray, List.set_cons_zero, List.set_cons_succ, i64_w, i32_w]
    rfl
   refine one_ (i := 20) (N := some 37) q25_21 rfl rfl (one_of HT_.out (by kernel_rfl)) (by decide) (fun K hK => ?_)
   refine goes_ Tryd.func20 (by kernel_rfl) rfl #[.agg #[.string ((rd_T38 l0 x5_1).f0), .string ((rd_T38 l0 x5_1).f1), .string ((rd_T38 l0 x5_1).f2), .int .u8 ((rd_T38 l0 x5_1).f3), .int .i64 ((rd_T38 l0 x5_1).f4.f0), .int .i64 ((rd_T38 l0 x5_1).f4.f1), .int .i64 ((rd_T38 l0 x5_1).f4.f2), .int .i64 ((rd_T38 l0 x5_1).f4.f3), .slice A247_8 ((rd_T38 l0 x5_1).f5).length c247_8], .agg #[.string ((rd_T38 l1 x5_1).f0), .string ((rd_T38 l1 x5_1).f1), .string ((rd_T38 l1 x5_1).f2), .int .u8 ((rd_T38 l1 x5_1).f3), .int .i64 ((rd_T38 l1 x5_1).f4.f0), .int .i64 ((rd_T38 l1 x5_1).f4.f1), .int .i64 ((rd_T38 l1 x5_1).f4.f2), .int .i64 ((rd_T38 l1 x5_1).f4.f3), .slice A248_8 ((rd_T38 l1 x5_1).f5).length c248_8]] (by rfl) rfl rfl wm_ ?_
   with_reducible refine (bindleref08_Equal.calls ((rd_T38 l0 x5_1).f0) ((rd_T38 l0 x5_1).f1) ((rd_T38 l0 x5_1).f2) ((rd_T38 l0 x5_1).f3) ((rd_T38 l0 x5_1).f4.f0) ((rd_T38 l0 x5_1).f4.f1) ((rd_T38 l0 x5_1).f4.f2) ((rd_T38 l0 x5_1).f4.f3) _ _ ((rd_T38 l0 x5_1).f5) ((rd_T38 l1 x5_1).f0) ((rd_T38 l1 x5_1).f1) ((rd_T38 l1 x5_1).f2) ((rd_T38 l1 x5_1).f3) ((rd_T38 l1 x5_1).f4.f0) ((rd_T38 l1 x5_1).f4.f1) ((rd_T38 l1 x5_1).f4.f2) ((rd_T38 l1 x5_1).f4.f3) _ _ ((rd_T38 l1 x5_1).f5) true _ ?side1 ?side2 ?side3 ?side4 A8.out).mono ?_
   (case side1 => exact wc_ (Kd.C_below HR249_8.out HB.out))
   (case side2 => exact HC249_8.out)
   (case side3 => exact wc_ (Kd.C_below HR250_8.out HB.out))
   (case side4 => exact HC250_8.out)
   rintro e w11 ⟨rfl, hb⟩
   refine ⟨_, rfl, ?_⟩
   have n0_ := A0_ (below_step (wb_ HB.out) hb)
   clear HB
   have HB := n0_
   clear n0_
   (try clear hb)
   (try clear hb2)
   (try clear hk)
   (try clear hi)
   refine hK.out _ _ ⟨((HB.out.cell (World.block_lt_of_cell? w _ hw247_0)).trans hw247_0), ((HB.out.cell (World.block_lt_of_cell? w _ hw247_1)).trans hw247_1), ((HB.out.cell (World.block_lt_of_cell? w _ hw247_2)).trans hw247_2), ((HB.out.cell (World.block_lt_of_cell? w _ hw247_3)).trans hw247_3), ((HB.out.cell (World.block_lt_of_cell? w _ hw247_4)).trans hw247_4), ((HB.out.cell (World.block_lt_of_cell? w _ hw247_5)).trans hw247_5), ((HB.out.cell (World.block_lt_of_cell? w _ hw247_6)).trans hw247_6), ((HB.out.cell (World.block_lt_of_cell? w _ hw247_7)).trans hw247_7), ((HB.out.cell (World.block_lt_of_cell? w _ hw247_8)).trans hw247_8), ((HB.out.cell (World.block_lt_of_cell? w _ hw248_0)).trans hw248_0), ((HB.out.cell (World.block_lt_of_cell? w _ hw248_1)).trans hw248_1), ((HB.out.cell (World.block_lt_of_cell? w _ hw248_2)).trans hw248_2), ((HB.out.cell (World.block_lt_of_cell? w _ hw248_3)).trans hw248_3), ((HB.out.cell (World.block_lt_of_cell? w _ hw248_4)).trans hw248_4), ((HB.out.cell (World.block_lt_of_cell? w _ hw248_5)).trans hw248_5), ((HB.out.cell (World.block_lt_of_cell? w _ hw248_6)).trans hw248_6), ((HB.out.cell (World.block_lt_of_cell? w _ hw248_7)).trans hw248_7), ((HB.out.cell (World.block_lt_of_cell? w _ hw248_8)).trans hw248_8), ((HB.out.cell (World.block_lt_of_cell? w _ hw249_0)).trans hw249_0), ((HB.out.cell (World.block_lt_of_cell? w _ hw249_1)).trans hw249_1), ((HB.out.cell (World.block_lt_of_cell? w _ hw249_2)).trans hw249_2), ((HB.out.cell (World.block_lt_of_cell? w _ hw249_3)).trans hw249_3), ((HB.out.cell (World.block_lt_of_cell? w _ hw249_4)).trans hw249_4), ((HB.out.cell (World.block_lt_of_cell? w _ hw249_5)).trans hw249_5), ((HB.out.cell (World.block_lt_of_cell? w _ hw249_6)).trans hw249_6), ((HB.out.cell (World.block_lt_of_cell? w _ hw249_7)).trans hw249_7), ((HB.out.cell (World.block_lt_of_cell? w _ hw249_8)).trans hw249_8), ((HB.out.cell (World.block_lt_of_cell? w _ hw250_0)).trans hw250_0), ((HB.out.cell (World.block_lt_of_cell? w _ hw250_1)).trans hw250_1), ((HB.out.cell (World.block_lt_of_cell? w _ hw250_2)).trans hw250_2), ((HB.out.cell (World.block_lt_of_cell? w _ hw250_3)).trans hw250_3), ((HB.out.cell (World.block_lt_of_cell? w _ hw250_4)).trans hw250_4), ((HB.out.cell (World.block_lt_of_cell? w _ hw250_5)).trans hw250_5), ((HB.out.cell (World.block_lt_of_cell? w _ hw250_6)).trans hw250_6), ((HB.out.cell (World.block_lt_of_cell? w _ hw250_7)).trans hw250_7), ((HB.out.cell (World.block_lt_of_cell? w _ hw250_8)).trans hw250_8)⟩ (fun hHeld => ?_)
   clear hK K
   refine norm_ (a' := ?_) ?_ ?_
   rotate_left
   ·show Act.put _ (some 37) _ = _
    simp only [Act.put, List.setIfInBounds_toArray, List.set_cons_zero, List.set_cons_succ, i64_w, i32_w]
    rfl
   refine pur_ (i := 21) (N := some 38) q25_22 (any_of HT_.out (by kernel_rfl)) ?_
   refine pur_ (i := 22) (N := some 39) q25_23 (any_of HT_.out (by kernel_rfl)) ?_
   refine done_ (done_of HT_.out (by kernel_rfl)) ?_
   try go_wp2
   go_roundg k1
   case measure => have := HK1.out; omega
   case rel => exact ⟨(wrap64 (x5_1 + 1)), wr_, H', ⟨by have := HK1.out; omega⟩, ⟨wb_ HB.out⟩⟩
end Go.Proofs.YtfmphccoeinhcaaDoor.Print

namespace Go.Proofs.YtfmphccoeinhcaaDoor
open Go.RowKit Go.Proofs.YtfmphccoeinhcaaDoor.Print Go.Proofs.YtfmphccoeinhcaaDoorW.PrintWords
set_option linter.unusedVariables false
theorem requal_f (a b : Node) : bindleref08_Equal.f a.f0 a.f1 a.f2 a.f3 a.f4.f0 a.f4.f1 a.f4.f2 a.f4.f3 a.f5 b.f0 b.f1 b.f2 b.f3 b.f4.f0 b.f4.f1 b.f4.f2 b.f4.f3 b.f5 = some (equalB a b) := by
 unfold bindleref08_Equal.f
 exact equal_chain a b rfl
theorem rdN_nat' (l : List Node) (j : Nat) (h : j < l.length) : rd_T38 l (j : Int) = l[j] := by rw [rdN_at l j (by omega) (by omega)]; simp
theorem sameB_size : ∀ (l r : List Node), sameB l r = true → l.length = r.length
 | [], [], _ => rfl
 | [], _ :: _, h => by cases h
 | _ :: _, [], h => by cases h
 | a :: l, b :: r, h => by
  rw [sameB, Bool.and_eq_true] at h
  rw [List.length_cons, List.length_cons, sameB_size l r h.2]
theorem sameTree_l (l r : List Node) (hl : l.length = r.length) (hlen : l.length ≤ 4611686018427387904) : ∀ (d i : Nat), i + d = l.length → Ev (fun k => bindleref08_SameTree.l0 k l r (i : Int)) (sameB (l.drop i) (r.drop i)) := by
 intro d
 induction d with
 | zero =>
  intro i hi
  rw [List.drop_of_length_le (by omega), List.drop_of_length_le (by omega)]
  exact Ev.step (f := fun _ => some true) (fun k => by rw [bindleref08_SameTree.l0, if_neg (by omega)]) (Ev.now _)
 | succ d ih =>
  intro i hi
  have hil : i < l.length := by omega
  have hir : i < r.length := by omega
  rw [List.drop_eq_getElem_cons hil, List.drop_eq_getElem_cons hir, sameB]
  by_cases he : l[i].f2.toList = r[i].f2.toList
  ·rw [decide_eq_true he, Bool.true_and]
   cases hb : equalB l[i] r[i] with
   | true =>
    rw [Bool.true_and]
    refine Ev.step (fun k => ?_) (ih (i + 1) (by omega))
    rw [bindleref08_SameTree.l0, if_pos (by omega), if_pos (by omega), if_pos (by omega), rdN_nat' l i hil, rdN_nat' r i hir, if_pos he, requal_f, hb, Option.bind_some, if_pos rfl]
    rw [show wrap64 ((i : Int) + 1) = ((i + 1 : Nat) : Int) by unfold wrap64; omega]
   | false =>
    rw [Bool.false_and]
    refine Ev.step (f := fun _ => some false) (fun k => ?_) (Ev.now _)
    rw [bindleref08_SameTree.l0, if_pos (by omega), if_pos (by omega), if_pos (by omega), rdN_nat' l i hil, rdN_nat' r i hir, if_pos he, requal_f, hb, Option.bind_some, if_neg (by simp)]
  ·rw [decide_eq_false he, Bool.false_and, Bool.false_and]
   refine Ev.step (f := fun _ => some false) (fun k => ?_) (Ev.now _)
   rw [bindleref08_SameTree.l0, if_pos (by omega), if_pos (by omega), if_pos (by omega), rdN_nat' l i hil, rdN_nat' r i hir, if_neg he]
theorem sameTree_eq (l r : List Node) (hlen : l.length ≤ 4611686018427387904) : Ev (fun k => bindleref08_SameTree.f k l r) (sameB l r) := by
 by_cases hl : l.length = r.length
 ·refine Ev.congr (fun k => ?_) (sameTree_l l r hl hlen l.length 0 (by omega))
  unfold bindleref08_SameTree.f
  rw [if_pos (by omega)]
  rfl
 ·have hf : sameB l r = false := by
   rw [Bool.eq_false_iff]
   exact fun h => hl (sameB_size l r h)
  rw [hf]
  refine Ev.congr (f := fun _ => some false) (fun k => ?_) (Ev.now _)
  unfold bindleref08_SameTree.f
  rw [if_neg (by omega)]
end Go.Proofs.YtfmphccoeinhcaaDoor

namespace Go.Proofs.YtfmphccoeinhcaaDoor.Print
open Go.RowKit Go.Proofs.YtfmphccoeinhcaaDoorW.PrintWords Go.Proofs.YtfmphccoeinhcaaDoorW.PrintLast Go.Proofs.YtfmphccoeinhcaaDoorW.PrintMore
attribute [local go_sem] max2_int min2_int max_two min_two max_three min_three max_four min_four   -- for this text's walks alone
set_option linter.unusedVariables false
set_option linter.unusedSimpArgs false
def bindlelaw20_pair.f  : Option ((List (S38))) := some (([(⟨(⟨#[97]⟩ : ByteArray), (⟨#[]⟩ : ByteArray), (⟨#[97]⟩ : ByteArray), 48, (⟨0, 0, 0, 0⟩ : S24), ([] : List Int)⟩ : S38), (⟨(⟨#[98]⟩ : ByteArray), (⟨#[]⟩ : ByteArray), (⟨#[97]⟩ : ByteArray), 48, (⟨0, 0, 0, 0⟩ : S24), ([] : List Int)⟩ : S38)] : List (S38)))
set_option maxHeartbeats 8000000 in
set_option maxRecDepth 100000 in
theorem bindlelaw20_pair.calls  (r : List (S38)) (w : World) (h : bindlelaw20_pair.f  = some r) :
  Calls Tryd.prog 53 #[] w fun e w' => ∃ v0_ : Value, e = .returned (v0_) ∧ Kd.S k38 38 w' w.heap.size (fun _ => True) v0_ r ∧ Below w.heap.size w w' := by
 have hu38 := Tryd.underlying38
 have HB := A0_ (Below.refl w.heap.size w)
 have H : (some (([(⟨(⟨#[97]⟩ : ByteArray), (⟨#[]⟩ : ByteArray), (⟨#[97]⟩ : ByteArray), 48, (⟨0, 0, 0, 0⟩ : S24), ([] : List Int)⟩ : S38), (⟨(⟨#[98]⟩ : ByteArray), (⟨#[]⟩ : ByteArray), (⟨#[97]⟩ : ByteArray), 48, (⟨0, 0, 0, 0⟩ : S24), ([] : List Int)⟩ : S38)] : List (S38)))) = some r := h
 clear h
 obtain ⟨y704, hy704⟩ : ∃ y_ : List (S38), y_ = (([(⟨(⟨#[97]⟩ : ByteArray), (⟨#[]⟩ : ByteArray), (⟨#[97]⟩ : ByteArray), 48, (⟨0, 0, 0, 0⟩ : S24), ([] : List Int)⟩ : S38), (⟨(⟨#[98]⟩ : ByteArray), (⟨#[]⟩ : ByteArray), (⟨#[97]⟩ : ByteArray), 48, (⟨0, 0, 0, 0⟩ : S24), ([] : List Int)⟩ : S38)] : List (S38))) := ⟨_, rfl⟩
 replace H : (some y704) = some r := by first | (rw [hy704]; with_reducible exact H) | (have H2_ := (Option.bind_some _ _).symm.trans H; rw [hy704]; with_reducible exact H2_) | (have H2_ := (Option.bind_some _ _).symm.trans H; with_reducible exact H2_) | with_reducible exact H | (rw [hy704]; exact H) | exact H
 have Ny704 := A0_ hy704
 clear hy704
 obtain rfl := Option.some.inj H
 go_enter Tryd.func53, Tryd.ntmps53
 go_wp2_with (first | ((with_reducible refine gate_dst (N := 3) rfl ?_); refine Kd.S_lit k38 _ 38 ?hg (N := 3) ?hd (xs := ([(⟨(⟨#[97]⟩ : ByteArray), (⟨#[]⟩ : ByteArray), (⟨#[97]⟩ : ByteArray), 48, (⟨0, 0, 0, 0⟩ : S24), ([] : List Int)⟩ : S38), (⟨(⟨#[98]⟩ : ByteArray), (⟨#[]⟩ : ByteArray), (⟨#[97]⟩ : ByteArray), 48, (⟨0, 0, 0, 0⟩ : S24), ([] : List Int)⟩ : S38)] : List (S38))) (inner := [.string (⟨#[97]⟩ : ByteArray), .string (⟨#[]⟩ : ByteArray), .string (⟨#[97]⟩ : ByteArray), .int .u8 48, .int .i64 0, .int .i64 0, .int .i64 0, .int .i64 0, .slice none 0 0, .string (⟨#[98]⟩ : ByteArray), .string (⟨#[]⟩ : ByteArray), .string (⟨#[97]⟩ : ByteArray), .int .u8 48, .int .i64 0, .int .i64 0, .int .i64 0, .int .i64 0, .slice none 0 0]) (ok := fun _ => True) (okp := fun _ => True) ?hr ?hp (fun _ hk => hk) trivial (Below.refl _ _) (Nat.le_refl _) (by simp) ?_; (case hd => rfl); (case hg => rfl); (case hr => first | (go_simp; done) | (go_simp; rfl)); (case hp => exact (Reps.c9 (show Kd.M k38 _ _ _ (⟨(⟨#[97]⟩ : ByteArray), (⟨#[]⟩ : ByteArray), (⟨#[97]⟩ : ByteArray), 48, (⟨0, 0, 0, 0⟩ : S24), ([] : List Int)⟩ : S38) [.string (⟨#[97]⟩ : ByteArray), .string (⟨#[]⟩ : ByteArray), .string (⟨#[97]⟩ : ByteArray), .int .u8 48, .int .i64 0, .int .i64 0, .int .i64 0, .int .i64 0, .slice none 0 0] from (k38_mkM _ _ _ (⟨(⟨#[97]⟩ : ByteArray), (⟨#[]⟩ : ByteArray), (⟨#[97]⟩ : ByteArray), 48, (⟨0, 0, 0, 0⟩ : S24), ([] : List Int)⟩ : S38) (Kd.R_nil _ _ _ _ _))) (Reps.c9 (show Kd.M k38 _ _ _ (⟨(⟨#[98]⟩ : ByteArray), (⟨#[]⟩ : ByteArray), (⟨#[97]⟩ : ByteArray), 48, (⟨0, 0, 0, 0⟩ : S24), ([] : List Int)⟩ : S38) [.string (⟨#[98]⟩ : ByteArray), .string (⟨#[]⟩ : ByteArray), .string (⟨#[97]⟩ : ByteArray), .int .u8 48, .int .i64 0, .int .i64 0, .int .i64 0, .int .i64 0, .slice none 0 0] from (k38_mkM _ _ _ (⟨(⟨#[98]⟩ : ByteArray), (⟨#[]⟩ : ByteArray), (⟨#[97]⟩ : ByteArray), 48, (⟨0, 0, 0, 0⟩ : S24), ([] : List Int)⟩ : S38) (Kd.R_nil _ _ _ _ _))) (Reps.none _ _)))); intro v705 w1 ho2 hb hg_ hnew_; clear hg_ hnew_; (first | rw [← Ny704.out] at ho2 | (simp only [Int.reduceToNat] at ho2; rw [← Ny704.out] at ho2)); have n0_ := A0_ (Kd.S_lower ho2 (below_size (wb_ HB.out))); have n1_ := A0_ (below_step (wb_ HB.out) hb); clear HB; have HO706 := n0_; have HB := n1_; clear n0_ n1_; clear hb ho2))
 go_ret
 exact ⟨_, we_, wS_ HO706.out, wb_ HB.out⟩
end Go.Proofs.YtfmphccoeinhcaaDoor.Print
