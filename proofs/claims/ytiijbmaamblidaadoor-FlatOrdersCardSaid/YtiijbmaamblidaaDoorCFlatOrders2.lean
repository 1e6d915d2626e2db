/-
  Part of the proof that FlatOrders answers true: texts put together (wip/bundle.py).
-/
import Derived.Test.YtiijbmaamblidaaDoorCFlatOrders1
import Derived.WalkKit
import Derived.LoopTactic
import Derived.WalkSpells
import Derived.Outline
import Derived.Deep.RegionHeld3
import Derived.Shelf.SlGeneric
import Derived.Shelf.SlIter.Nil
import Derived.Shelf.SortM.Plain
import Derived.Shelf.SortM.SortNone
import Derived.Ground.GgzProg
import Derived.Ground.SlgmProg
import Derived.Test.YtiijbmaamblidaaDoorProg
import Derived.Laws.MakeOwn
import Derived.Sort.OwnSorted
import Derived.Shelf.GgSortFunc.Insertion
import Derived.Shelf.SlSortCmp.NoneTotal
import Derived.Shelf.SlicesG.Cmp
import Derived.Ground.SlsfProg
import Derived.Ground.SlgcProg
import Derived.Sort.KeysCollected
import Derived.Maps.RangeWalk
namespace Go.Proofs.YtiijbmaamblidaaDoor.Print
open Go.RowKit Go.Proofs.YtiijbmaamblidaaDoorW.PrintWords Go.Proofs.YtiijbmaamblidaaDoorW.PrintLast Go.Proofs.YtiijbmaamblidaaDoorW.PrintMore
attribute [local go_sem] max2_int min2_int max_two min_two max_three min_three max_four min_four   -- for this text's walks alone
set_option linter.unusedVariables false
set_option linter.unusedSimpArgs false
mutual
def member_Good.j0 : Nat → Bool → ByteArray → ByteArray → Int → Int → Int → Int → Int → List Int → Option (Bool)
 | 0, _, _, _, _, _, _, _, _, _ => none
 | k + 1, x29, x306000, x306001, x306002, x306003, x306004, x306005, x306006, x306007 => if x29 = true then (some false) else (if x306002 = 48 then (member_Good.j1 k x306002 (x306002 == 48) x306000 x306001 x306002 x306003 x306004 x306005 x306006 x306007) else (member_Good.j1 k x306002 (x306002 == 53) x306000 x306001 x306002 x306003 x306004 x306005 x306006 x306007))
def member_Good.j1 : Nat → Int → Bool → ByteArray → ByteArray → Int → Int → Int → Int → Int → List Int → Option (Bool)
 | 0, _, _, _, _, _, _, _, _, _, _ => none
 | k + 1, x31, x32, x306000, x306001, x306002, x306003, x306004, x306005, x306006, x306007 => if x32 = true then (some (x306001.toList == ([] : List UInt8))) else (if x31 = 49 then ((member_clean.f x306001).bind fun t308 => (some t308)) else (if x31 = 50 then ((path_Target.f x306001).bind fun t309 => (some (t309 == 0))) else (some false)))
end
def member_Good.f (k : Nat) (a0_0 : ByteArray) (a0_1 : ByteArray) (a0_2 : Int) (a0_3 : Int) (a0_4 : Int) (a0_5 : Int) (a0_6 : Int) (l0_7 : List Int) : Option (Bool) := (member_clean.f a0_0).bind fun t306 => (if t306 = true then ((member_meta.f a0_3 a0_4 a0_5 a0_6).bind fun t307 => (if t307 = true then (if (l0_7.length : Int) > 1048576 then (member_Good.j0 k true a0_0 a0_1 a0_2 a0_3 a0_4 a0_5 a0_6 l0_7) else (if a0_2 = 48 then (member_Good.j0 k false a0_0 a0_1 a0_2 a0_3 a0_4 a0_5 a0_6 l0_7) else (member_Good.j0 k (decide ((l0_7.length : Int) > 0)) a0_0 a0_1 a0_2 a0_3 a0_4 a0_5 a0_6 l0_7))) else (member_Good.j0 k true a0_0 a0_1 a0_2 a0_3 a0_4 a0_5 a0_6 l0_7))) else (member_Good.j0 k true a0_0 a0_1 a0_2 a0_3 a0_4 a0_5 a0_6 l0_7))
set_option maxHeartbeats 8000000 in
set_option maxRecDepth 100000 in
theorem member_Good.calls (k : Nat) (a0_0 : ByteArray) (a0_1 : ByteArray) (a0_2 : Int) (a0_3 : Int) (a0_4 : Int) (a0_5 : Int) (a0_6 : Int) (A0_7 : Option Addr) (c0_7 : Nat) (l0_7 : List Int) (r : Bool) (w : World) (hT : Aside0 (Tabs w)) (hr0_7 : Kd.C (Kd.int .u8) w A0_7 l0_7.length l0_7) (hc0_7 : l0_7.length ≤ c0_7) (h : member_Good.f k a0_0 a0_1 a0_2 a0_3 a0_4 a0_5 a0_6 l0_7 = some r) :
  Calls Tryd.prog 25 #[.agg #[.string a0_0, .string a0_1, .int .u8 a0_2, .int .i64 a0_3, .int .i64 a0_4, .int .i64 a0_5, .int .i64 a0_6, .slice A0_7 l0_7.length c0_7]] w fun e w' => e = .returned (.bool r) ∧ Below w.heap.size w w' := by
 have hu27 := Tryd.underlying27
 have hu24 := Tryd.underlying24
 have HR0_7 := A0_ hr0_7
 have HC0_7 := A0_ hc0_7
 clear hr0_7 hc0_7
 have HB := A0_ (Below.refl w.heap.size w)
 have H : ((member_clean.f a0_0).bind fun t306 => (if t306 = true then ((member_meta.f a0_3 a0_4 a0_5 a0_6).bind fun t307 => (if t307 = true then (if (l0_7.length : Int) > 1048576 then (member_Good.j0 k true a0_0 a0_1 a0_2 a0_3 a0_4 a0_5 a0_6 l0_7) else (if a0_2 = 48 then (member_Good.j0 k false a0_0 a0_1 a0_2 a0_3 a0_4 a0_5 a0_6 l0_7) else (member_Good.j0 k (decide ((l0_7.length : Int) > 0)) a0_0 a0_1 a0_2 a0_3 a0_4 a0_5 a0_6 l0_7))) else (member_Good.j0 k true a0_0 a0_1 a0_2 a0_3 a0_4 a0_5 a0_6 l0_7))) else (member_Good.j0 k true a0_0 a0_1 a0_2 a0_3 a0_4 a0_5 a0_6 l0_7))) = some r := h
 clear h
 have HC2 := A0_ H
 clear H
 go_enter Tryd.func25, Tryd.ntmps25
 go_upto_region 1 with (first | ((with_reducible refine gate_dst (N := 1) rfl ?_); (try (refine gate_guard (by rfl) ?_; dsimp only)); refine box_event ?hg (N := 1) ?hd (cs := #[.string a0_0, .string a0_1, .int .u8 a0_2, .int .i64 a0_3, .int .i64 a0_4, .int .i64 a0_5, .int .i64 a0_6, .slice A0_7 l0_7.length c0_7]) (t := 27) ?hr ?_; (case hd => rfl); (case hg => rfl); (case hr => first | (go_simp; done) | (go_simp; rfl)); intro gb305 hg w3 hbox hb; have n0_ := A0_ (below_step (wb_ HB.out) hb); have n1_ := A0_ (hbox); have n2_ := A0_ ((by rw [hg]; exact (below_size (wb_ HB.out)) : w.heap.size ≤ gb305)); have n3_ := A0_ ((by rw [hg]; exact (below_size (wb_ HB.out)) : w.heap.size ≤ gb305)); clear HB; have HB := n0_; have BK305 := n1_; have GW305 := n2_; have GE305 := n3_; clear n0_ n1_ n2_ n3_; clear hb hbox hg))
 (try simp only [Act.put, List.setIfInBounds_toArray, List.set_cons_zero, List.set_cons_succ])
 go_cut [29] (fun v29 wc => ∃ (kq : Nat) (x29_1 : Bool), v29 = .bool x29_1 ∧ Aside0 (member_Good.j0 kq x29_1 a0_0 a0_1 a0_2 a0_3 a0_4 a0_5 a0_6 l0_7 = some r) ∧ Aside0 (kq ≤ k) ∧ Aside0 (wc.heap[gb305]? = some (.cells #[.string a0_0, .string a0_1, .int .u8 a0_2, .int .i64 a0_3, .int .i64 a0_4, .int .i64 a0_5, .int .i64 a0_6, (.slice A0_7 l0_7.length c0_7)] 27 (0, 0))) ∧ Aside0 (Below w.heap.size w wc))
 case first =>
  have H := HC2.out
  clear HC2
  replace H := Option.bind_eq_some_iff.mp H
  obtain ⟨t306, A40, H⟩ := H
  replace H : (if t306 = true then ((member_meta.f a0_3 a0_4 a0_5 a0_6).bind fun t307 => (if t307 = true then (if (l0_7.length : Int) > 1048576 then (member_Good.j0 k true a0_0 a0_1 a0_2 a0_3 a0_4 a0_5 a0_6 l0_7) else (if a0_2 = 48 then (member_Good.j0 k false a0_0 a0_1 a0_2 a0_3 a0_4 a0_5 a0_6 l0_7) else (member_Good.j0 k (decide ((l0_7.length : Int) > 0)) a0_0 a0_1 a0_2 a0_3 a0_4 a0_5 a0_6 l0_7))) else (member_Good.j0 k true a0_0 a0_1 a0_2 a0_3 a0_4 a0_5 a0_6 l0_7))) else (member_Good.j0 k true a0_0 a0_1 a0_2 a0_3 a0_4 a0_5 a0_6 l0_7)) = some r := H
  have A4 := A0_ A40
  clear A40
  by_cases c5 : t306 = true
  rotate_left
  ·replace c5 := Bool.eq_false_iff.mpr c5
   subst c5
   have H1 : (member_Good.j0 k true a0_0 a0_1 a0_2 a0_3 a0_4 a0_5 a0_6 l0_7) = some r := by rw [if_neg (show ¬ (false = true) by decide)] at H; exact H
   clear H
   have H := H1
   clear H1
   have H' := A0_ H
   clear H
   have hcz29_0 : w3.cell? ⟨gb305, 0, none⟩ = some (.string a0_0) := (bc_ BK305.out 0).trans rfl
   have hcz29_1 : w3.cell? ⟨gb305, 1, none⟩ = some (.string a0_1) := (bc_ BK305.out 1).trans rfl
   have hcz29_2 : w3.cell? ⟨gb305, 2, none⟩ = some (.int .u8 a0_2) := (bc_ BK305.out 2).trans rfl
   have hcz29_3 : w3.cell? ⟨gb305, 3, none⟩ = some (.int .i64 a0_3) := (bc_ BK305.out 3).trans rfl
   have hcz29_4 : w3.cell? ⟨gb305, 4, none⟩ = some (.int .i64 a0_4) := (bc_ BK305.out 4).trans rfl
   have hcz29_5 : w3.cell? ⟨gb305, 5, none⟩ = some (.int .i64 a0_5) := (bc_ BK305.out 5).trans rfl
   have hcz29_6 : w3.cell? ⟨gb305, 6, none⟩ = some (.int .i64 a0_6) := (bc_ BK305.out 6).trans rfl
   have hcz29_7 : w3.cell? ⟨gb305, 7, none⟩ = some (.slice A0_7 l0_7.length c0_7) := (bc_ BK305.out 7).trans rfl
   have hfz29_0 := bf_ BK305.out 0
   have hfz29_1 := bf_ BK305.out 1
   have hfz29_2 := bf_ BK305.out 2
   have hfz29_3 := bf_ BK305.out 3
   have hfz29_4 := bf_ BK305.out 4
   have hfz29_5 := bf_ BK305.out 5
   have hfz29_6 := bf_ BK305.out 6
   have hfz29_7 := bf_ BK305.out 7
   go_wp2_with (first | ((with_reducible refine gate_callee (f := 37) rfl ?_); refine goesL_ (some 5) rfl rfl Tryd.func37 (by kernel_rfl) rfl #[.string a0_0] rfl wm_ ?_; (with_reducible refine (member_clean.calls a0_0 false _ ?side1 A4.out).mono ?_); (case side1 => exact A0_ (Tabs.below hT.out (wb1_ HB.out GE305.out))); rintro e w30 ⟨rfl, hb⟩; refine ⟨_, rfl, ?_⟩; have n0_ := A0_ (blk_below (g := gb305) (o := .cells #[.string a0_0, .string a0_1, .int .u8 a0_2, .int .i64 a0_3, .int .i64 a0_4, .int .i64 a0_5, .int .i64 a0_6, .slice A0_7 l0_7.length c0_7] 27 (0, 0)) (wB_ BK305.out) hb); have n1_ := A0_ (below_step (wb1_ HB.out GE305.out) hb); clear BK305; clear HB; have BK305 := n0_; have HB := n1_; clear n0_ n1_; (try clear hb); (try clear hb2); (try clear hk); (try clear hi)))
   go_meet
   case rel => exact ⟨_, (true), wr_, H', ⟨by first | omega | exact Nat.le_refl _⟩, ⟨wB_ BK305.out⟩, ⟨wb1_ HB.out GE305.out⟩⟩
  subst c5
  have H1 : ((member_meta.f a0_3 a0_4 a0_5 a0_6).bind fun t307 => (if t307 = true then (if (l0_7.length : Int) > 1048576 then (member_Good.j0 k true a0_0 a0_1 a0_2 a0_3 a0_4 a0_5 a0_6 l0_7) else (if a0_2 = 48 then (member_Good.j0 k false a0_0 a0_1 a0_2 a0_3 a0_4 a0_5 a0_6 l0_7) else (member_Good.j0 k (decide ((l0_7.length : Int) > 0)) a0_0 a0_1 a0_2 a0_3 a0_4 a0_5 a0_6 l0_7))) else (member_Good.j0 k true a0_0 a0_1 a0_2 a0_3 a0_4 a0_5 a0_6 l0_7))) = some r := by rw [if_pos rfl] at H; exact H
  clear H
  have H := H1
  clear H1
  replace H := Option.bind_eq_some_iff.mp H
  obtain ⟨t307, A60, H⟩ := H
  replace H : (if t307 = true then (if (l0_7.length : Int) > 1048576 then (member_Good.j0 k true a0_0 a0_1 a0_2 a0_3 a0_4 a0_5 a0_6 l0_7) else (if a0_2 = 48 then (member_Good.j0 k false a0_0 a0_1 a0_2 a0_3 a0_4 a0_5 a0_6 l0_7) else (member_Good.j0 k (decide ((l0_7.length : Int) > 0)) a0_0 a0_1 a0_2 a0_3 a0_4 a0_5 a0_6 l0_7))) else (member_Good.j0 k true a0_0 a0_1 a0_2 a0_3 a0_4 a0_5 a0_6 l0_7)) = some r := H
  have A6 := A0_ A60
  clear A60
  by_cases c7 : t307 = true
  rotate_left
  ·replace c7 := Bool.eq_false_iff.mpr c7
   subst c7
   have H1 : (member_Good.j0 k true a0_0 a0_1 a0_2 a0_3 a0_4 a0_5 a0_6 l0_7) = some r := by rw [if_neg (show ¬ (false = true) by decide)] at H; exact H
   clear H
   have H := H1
   clear H1
   have H' := A0_ H
   clear H
   have hcz25_0 : w3.cell? ⟨gb305, 0, none⟩ = some (.string a0_0) := (bc_ BK305.out 0).trans rfl
   have hcz25_1 : w3.cell? ⟨gb305, 1, none⟩ = some (.string a0_1) := (bc_ BK305.out 1).trans rfl
   have hcz25_2 : w3.cell? ⟨gb305, 2, none⟩ = some (.int .u8 a0_2) := (bc_ BK305.out 2).trans rfl
   have hcz25_3 : w3.cell? ⟨gb305, 3, none⟩ = some (.int .i64 a0_3) := (bc_ BK305.out 3).trans rfl
   have hcz25_4 : w3.cell? ⟨gb305, 4, none⟩ = some (.int .i64 a0_4) := (bc_ BK305.out 4).trans rfl
   have hcz25_5 : w3.cell? ⟨gb305, 5, none⟩ = some (.int .i64 a0_5) := (bc_ BK305.out 5).trans rfl
   have hcz25_6 : w3.cell? ⟨gb305, 6, none⟩ = some (.int .i64 a0_6) := (bc_ BK305.out 6).trans rfl
   have hcz25_7 : w3.cell? ⟨gb305, 7, none⟩ = some (.slice A0_7 l0_7.length c0_7) := (bc_ BK305.out 7).trans rfl
   have hfz25_0 := bf_ BK305.out 0
   have hfz25_1 := bf_ BK305.out 1
   have hfz25_2 := bf_ BK305.out 2
   have hfz25_3 := bf_ BK305.out 3
   have hfz25_4 := bf_ BK305.out 4
   have hfz25_5 := bf_ BK305.out 5
   have hfz25_6 := bf_ BK305.out 6
   have hfz25_7 := bf_ BK305.out 7
   go_wp2_with (first | ((with_reducible refine gate_callee (f := 37) rfl ?_); refine goesL_ (some 5) rfl rfl Tryd.func37 (by kernel_rfl) rfl #[.string a0_0] rfl wm_ ?_; (with_reducible refine (member_clean.calls a0_0 true _ ?side1 A4.out).mono ?_); (case side1 => exact A0_ (Tabs.below hT.out (wb1_ HB.out GE305.out))); rintro e w26 ⟨rfl, hb⟩; refine ⟨_, rfl, ?_⟩; have n0_ := A0_ (blk_below (g := gb305) (o := .cells #[.string a0_0, .string a0_1, .int .u8 a0_2, .int .i64 a0_3, .int .i64 a0_4, .int .i64 a0_5, .int .i64 a0_6, .slice A0_7 l0_7.length c0_7] 27 (0, 0)) (wB_ BK305.out) hb); have n1_ := A0_ (below_step (wb1_ HB.out GE305.out) hb); clear BK305; clear HB; have BK305 := n0_; have HB := n1_; clear n0_ n1_; (try clear hb); (try clear hb2); (try clear hk); (try clear hi); have hcz27_0 : w26.cell? ⟨gb305, 0, none⟩ = some (.string a0_0) := (bc_ BK305.out 0).trans rfl; have hcz27_1 : w26.cell? ⟨gb305, 1, none⟩ = some (.string a0_1) := (bc_ BK305.out 1).trans rfl; have hcz27_2 : w26.cell? ⟨gb305, 2, none⟩ = some (.int .u8 a0_2) := (bc_ BK305.out 2).trans rfl; have hcz27_3 : w26.cell? ⟨gb305, 3, none⟩ = some (.int .i64 a0_3) := (bc_ BK305.out 3).trans rfl; have hcz27_4 : w26.cell? ⟨gb305, 4, none⟩ = some (.int .i64 a0_4) := (bc_ BK305.out 4).trans rfl; have hcz27_5 : w26.cell? ⟨gb305, 5, none⟩ = some (.int .i64 a0_5) := (bc_ BK305.out 5).trans rfl; have hcz27_6 : w26.cell? ⟨gb305, 6, none⟩ = some (.int .i64 a0_6) := (bc_ BK305.out 6).trans rfl; have hcz27_7 : w26.cell? ⟨gb305, 7, none⟩ = some (.slice A0_7 l0_7.length c0_7) := (bc_ BK305.out 7).trans rfl; have hfz27_0 := bf_ BK305.out 0; have hfz27_1 := bf_ BK305.out 1; have hfz27_2 := bf_ BK305.out 2; have hfz27_3 := bf_ BK305.out 3; have hfz27_4 := bf_ BK305.out 4; have hfz27_5 := bf_ BK305.out 5; have hfz27_6 := bf_ BK305.out 6; have hfz27_7 := bf_ BK305.out 7) | (go_at_call 38; (with_reducible refine (member_meta.calls a0_3 a0_4 a0_5 a0_6 false _ A6.out).mono ?_); rintro e w28 ⟨rfl, hb⟩; have n0_ := A0_ (blk_below (g := gb305) (o := .cells #[.string a0_0, .string a0_1, .int .u8 a0_2, .int .i64 a0_3, .int .i64 a0_4, .int .i64 a0_5, .int .i64 a0_6, .slice A0_7 l0_7.length c0_7] 27 (0, 0)) (wB_ BK305.out) hb); have n1_ := A0_ (below_step (wb1_ HB.out GE305.out) hb); clear BK305; clear HB; have BK305 := n0_; have HB := n1_; clear n0_ n1_; (try clear hb); (try clear hb2); (try clear hk); (try clear hi)))
   go_meet
   case rel => exact ⟨_, (true), wr_, H', ⟨by first | omega | exact Nat.le_refl _⟩, ⟨wB_ BK305.out⟩, ⟨wb1_ HB.out GE305.out⟩⟩
  subst c7
  have H1 : (if (l0_7.length : Int) > 1048576 then (member_Good.j0 k true a0_0 a0_1 a0_2 a0_3 a0_4 a0_5 a0_6 l0_7) else (if a0_2 = 48 then (member_Good.j0 k false a0_0 a0_1 a0_2 a0_3 a0_4 a0_5 a0_6 l0_7) else (member_Good.j0 k (decide ((l0_7.length : Int) > 0)) a0_0 a0_1 a0_2 a0_3 a0_4 a0_5 a0_6 l0_7))) = some r := by rw [if_pos rfl] at H; exact H
  clear H
  have H := H1
  clear H1
  by_cases c8 : (l0_7.length : Int) > 1048576
  ·rw [if_pos c8] at H
   have c8b0 : decide (1048576 < (l0_7.length : Int)) = true := decide_eq_true c8
   have c8b1 : decide (1048576 < l0_7.length) = true := decide_eq_true (by omega)
   clear c8
   (first | rw [c8b0] | (simp only [i64_w, i32_w]; rw [c8b0]) | skip)
   have H' := A0_ H
   clear H
   have hcz9_0 : w3.cell? ⟨gb305, 0, none⟩ = some (.string a0_0) := (bc_ BK305.out 0).trans rfl
   have hcz9_1 : w3.cell? ⟨gb305, 1, none⟩ = some (.string a0_1) := (bc_ BK305.out 1).trans rfl
   have hcz9_2 : w3.cell? ⟨gb305, 2, none⟩ = some (.int .u8 a0_2) := (bc_ BK305.out 2).trans rfl
   have hcz9_3 : w3.cell? ⟨gb305, 3, none⟩ = some (.int .i64 a0_3) := (bc_ BK305.out 3).trans rfl
   have hcz9_4 : w3.cell? ⟨gb305, 4, none⟩ = some (.int .i64 a0_4) := (bc_ BK305.out 4).trans rfl
   have hcz9_5 : w3.cell? ⟨gb305, 5, none⟩ = some (.int .i64 a0_5) := (bc_ BK305.out 5).trans rfl
   have hcz9_6 : w3.cell? ⟨gb305, 6, none⟩ = some (.int .i64 a0_6) := (bc_ BK305.out 6).trans rfl
   have hcz9_7 : w3.cell? ⟨gb305, 7, none⟩ = some (.slice A0_7 l0_7.length c0_7) := (bc_ BK305.out 7).trans rfl
   have hfz9_0 := bf_ BK305.out 0
   have hfz9_1 := bf_ BK305.out 1
   have hfz9_2 := bf_ BK305.out 2
   have hfz9_3 := bf_ BK305.out 3
   have hfz9_4 := bf_ BK305.out 4
   have hfz9_5 := bf_ BK305.out 5
   have hfz9_6 := bf_ BK305.out 6
   have hfz9_7 := bf_ BK305.out 7
   go_wp2_with (first | ((with_reducible refine gate_callee (f := 37) rfl ?_); refine goesL_ (some 5) rfl rfl Tryd.func37 (by kernel_rfl) rfl #[.string a0_0] rfl wm_ ?_; (with_reducible refine (member_clean.calls a0_0 true _ ?side1 A4.out).mono ?_); (case side1 => exact A0_ (Tabs.below hT.out (wb1_ HB.out GE305.out))); rintro e w10 ⟨rfl, hb⟩; refine ⟨_, rfl, ?_⟩; have n0_ := A0_ (blk_below (g := gb305) (o := .cells #[.string a0_0, .string a0_1, .int .u8 a0_2, .int .i64 a0_3, .int .i64 a0_4, .int .i64 a0_5, .int .i64 a0_6, .slice A0_7 l0_7.length c0_7] 27 (0, 0)) (wB_ BK305.out) hb); have n1_ := A0_ (below_step (wb1_ HB.out GE305.out) hb); clear BK305; clear HB; have BK305 := n0_; have HB := n1_; clear n0_ n1_; (try clear hb); (try clear hb2); (try clear hk); (try clear hi); have hcz11_0 : w10.cell? ⟨gb305, 0, none⟩ = some (.string a0_0) := (bc_ BK305.out 0).trans rfl; have hcz11_1 : w10.cell? ⟨gb305, 1, none⟩ = some (.string a0_1) := (bc_ BK305.out 1).trans rfl; have hcz11_2 : w10.cell? ⟨gb305, 2, none⟩ = some (.int .u8 a0_2) := (bc_ BK305.out 2).trans rfl; have hcz11_3 : w10.cell? ⟨gb305, 3, none⟩ = some (.int .i64 a0_3) := (bc_ BK305.out 3).trans rfl; have hcz11_4 : w10.cell? ⟨gb305, 4, none⟩ = some (.int .i64 a0_4) := (bc_ BK305.out 4).trans rfl; have hcz11_5 : w10.cell? ⟨gb305, 5, none⟩ = some (.int .i64 a0_5) := (bc_ BK305.out 5).trans rfl; have hcz11_6 : w10.cell? ⟨gb305, 6, none⟩ = some (.int .i64 a0_6) := (bc_ BK305.out 6).trans rfl; have hcz11_7 : w10.cell? ⟨gb305, 7, none⟩ = some (.slice A0_7 l0_7.length c0_7) := (bc_ BK305.out 7).trans rfl; have hfz11_0 := bf_ BK305.out 0; have hfz11_1 := bf_ BK305.out 1; have hfz11_2 := bf_ BK305.out 2; have hfz11_3 := bf_ BK305.out 3; have hfz11_4 := bf_ BK305.out 4; have hfz11_5 := bf_ BK305.out 5; have hfz11_6 := bf_ BK305.out 6; have hfz11_7 := bf_ BK305.out 7) | (go_at_call 38; (with_reducible refine (member_meta.calls a0_3 a0_4 a0_5 a0_6 true _ A6.out).mono ?_); rintro e w12 ⟨rfl, hb⟩; have n0_ := A0_ (blk_below (g := gb305) (o := .cells #[.string a0_0, .string a0_1, .int .u8 a0_2, .int .i64 a0_3, .int .i64 a0_4, .int .i64 a0_5, .int .i64 a0_6, .slice A0_7 l0_7.length c0_7] 27 (0, 0)) (wB_ BK305.out) hb); have n1_ := A0_ (below_step (wb1_ HB.out GE305.out) hb); clear BK305; clear HB; have BK305 := n0_; have HB := n1_; clear n0_ n1_; (try clear hb); (try clear hb2); (try clear hk); (try clear hi); have hcz13_0 : w12.cell? ⟨gb305, 0, none⟩ = some (.string a0_0) := (bc_ BK305.out 0).trans rfl; have hcz13_1 : w12.cell? ⟨gb305, 1, none⟩ = some (.string a0_1) := (bc_ BK305.out 1).trans rfl; have hcz13_2 : w12.cell? ⟨gb305, 2, none⟩ = some (.int .u8 a0_2) := (bc_ BK305.out 2).trans rfl; have hcz13_3 : w12.cell? ⟨gb305, 3, none⟩ = some (.int .i64 a0_3) := (bc_ BK305.out 3).trans rfl; have hcz13_4 : w12.cell? ⟨gb305, 4, none⟩ = some (.int .i64 a0_4) := (bc_ BK305.out 4).trans rfl; have hcz13_5 : w12.cell? ⟨gb305, 5, none⟩ = some (.int .i64 a0_5) := (bc_ BK305.out 5).trans rfl; have hcz13_6 : w12.cell? ⟨gb305, 6, none⟩ = some (.int .i64 a0_6) := (bc_ BK305.out 6).trans rfl; have hcz13_7 : w12.cell? ⟨gb305, 7, none⟩ = some (.slice A0_7 l0_7.length c0_7) := (bc_ BK305.out 7).trans rfl; have hfz13_0 := bf_ BK305.out 0; have hfz13_1 := bf_ BK305.out 1; have hfz13_2 := bf_ BK305.out 2; have hfz13_3 := bf_ BK305.out 3; have hfz13_4 := bf_ BK305.out 4; have hfz13_5 := bf_ BK305.out 5; have hfz13_6 := bf_ BK305.out 6; have hfz13_7 := bf_ BK305.out 7))
   go_meet
   case rel => exact ⟨_, (true), wr_, H', ⟨by first | omega | exact Nat.le_refl _⟩, ⟨wB_ BK305.out⟩, ⟨wb1_ HB.out GE305.out⟩⟩
  rw [if_neg c8] at H
  have c8b0 : decide (1048576 < (l0_7.length : Int)) = false := decide_eq_false c8
  have c8b1 : decide (1048576 < l0_7.length) = false := decide_eq_false (by omega)
  clear c8
  (first | rw [c8b0] | (simp only [i64_w, i32_w]; rw [c8b0]) | skip)
  by_cases c14 : a0_2 = 48
  ·rw [if_pos c14] at H
   have c14b0 : (a0_2 == 48) = true := beq_iff_eq.mpr c14
   have c14b1 : (a0_2 != 48) = false := bne_eq_false_iff_eq.mpr c14
   clear c14
   have H' := A0_ H
   clear H
   have hcz15_0 : w3.cell? ⟨gb305, 0, none⟩ = some (.string a0_0) := (bc_ BK305.out 0).trans rfl
   have hcz15_1 : w3.cell? ⟨gb305, 1, none⟩ = some (.string a0_1) := (bc_ BK305.out 1).trans rfl
   have hcz15_2 : w3.cell? ⟨gb305, 2, none⟩ = some (.int .u8 a0_2) := (bc_ BK305.out 2).trans rfl
   have hcz15_3 : w3.cell? ⟨gb305, 3, none⟩ = some (.int .i64 a0_3) := (bc_ BK305.out 3).trans rfl
   have hcz15_4 : w3.cell? ⟨gb305, 4, none⟩ = some (.int .i64 a0_4) := (bc_ BK305.out 4).trans rfl
   have hcz15_5 : w3.cell? ⟨gb305, 5, none⟩ = some (.int .i64 a0_5) := (bc_ BK305.out 5).trans rfl
   have hcz15_6 : w3.cell? ⟨gb305, 6, none⟩ = some (.int .i64 a0_6) := (bc_ BK305.out 6).trans rfl
   have hcz15_7 : w3.cell? ⟨gb305, 7, none⟩ = some (.slice A0_7 l0_7.length c0_7) := (bc_ BK305.out 7).trans rfl
   have hfz15_0 := bf_ BK305.out 0
   have hfz15_1 := bf_ BK305.out 1
   have hfz15_2 := bf_ BK305.out 2
   have hfz15_3 := bf_ BK305.out 3
   have hfz15_4 := bf_ BK305.out 4
   have hfz15_5 := bf_ BK305.out 5
   have hfz15_6 := bf_ BK305.out 6
   have hfz15_7 := bf_ BK305.out 7
   go_wp2_with (first | ((with_reducible refine gate_callee (f := 37) rfl ?_); refine goesL_ (some 5) rfl rfl Tryd.func37 (by kernel_rfl) rfl #[.string a0_0] rfl wm_ ?_; (with_reducible refine (member_clean.calls a0_0 true _ ?side1 A4.out).mono ?_); (case side1 => exact A0_ (Tabs.below hT.out (wb1_ HB.out GE305.out))); rintro e w16 ⟨rfl, hb⟩; refine ⟨_, rfl, ?_⟩; have n0_ := A0_ (blk_below (g := gb305) (o := .cells #[.string a0_0, .string a0_1, .int .u8 a0_2, .int .i64 a0_3, .int .i64 a0_4, .int .i64 a0_5, .int .i64 a0_6, .slice A0_7 l0_7.length c0_7] 27 (0, 0)) (wB_ BK305.out) hb); have n1_ := A0_ (below_step (wb1_ HB.out GE305.out) hb); clear BK305; clear HB; have BK305 := n0_; have HB := n1_; clear n0_ n1_; (try clear hb); (try clear hb2); (try clear hk); (try clear hi); have hcz17_0 : w16.cell? ⟨gb305, 0, none⟩ = some (.string a0_0) := (bc_ BK305.out 0).trans rfl; have hcz17_1 : w16.cell? ⟨gb305, 1, none⟩ = some (.string a0_1) := (bc_ BK305.out 1).trans rfl; have hcz17_2 : w16.cell? ⟨gb305, 2, none⟩ = some (.int .u8 a0_2) := (bc_ BK305.out 2).trans rfl; have hcz17_3 : w16.cell? ⟨gb305, 3, none⟩ = some (.int .i64 a0_3) := (bc_ BK305.out 3).trans rfl; have hcz17_4 : w16.cell? ⟨gb305, 4, none⟩ = some (.int .i64 a0_4) := (bc_ BK305.out 4).trans rfl; have hcz17_5 : w16.cell? ⟨gb305, 5, none⟩ = some (.int .i64 a0_5) := (bc_ BK305.out 5).trans rfl; have hcz17_6 : w16.cell? ⟨gb305, 6, none⟩ = some (.int .i64 a0_6) := (bc_ BK305.out 6).trans rfl; have hcz17_7 : w16.cell? ⟨gb305, 7, none⟩ = some (.slice A0_7 l0_7.length c0_7) := (bc_ BK305.out 7).trans rfl; have hfz17_0 := bf_ BK305.out 0; have hfz17_1 := bf_ BK305.out 1; have hfz17_2 := bf_ BK305.out 2; have hfz17_3 := bf_ BK305.out 3; have hfz17_4 := bf_ BK305.out 4; have hfz17_5 := bf_ BK305.out 5; have hfz17_6 := bf_ BK305.out 6; have hfz17_7 := bf_ BK305.out 7) | (go_at_call 38; (with_reducible refine (member_meta.calls a0_3 a0_4 a0_5 a0_6 true _ A6.out).mono ?_); rintro e w18 ⟨rfl, hb⟩; have n0_ := A0_ (blk_below (g := gb305) (o := .cells #[.string a0_0, .string a0_1, .int .u8 a0_2, .int .i64 a0_3, .int .i64 a0_4, .int .i64 a0_5, .int .i64 a0_6, .slice A0_7 l0_7.length c0_7] 27 (0, 0)) (wB_ BK305.out) hb); have n1_ := A0_ (below_step (wb1_ HB.out GE305.out) hb); clear BK305; clear HB; have BK305 := n0_; have HB := n1_; clear n0_ n1_; (try clear hb); (try clear hb2); (try clear hk); (try clear hi); have hcz19_0 : w18.cell? ⟨gb305, 0, none⟩ = some (.string a0_0) := (bc_ BK305.out 0).trans rfl; have hcz19_1 : w18.cell? ⟨gb305, 1, none⟩ = some (.string a0_1) := (bc_ BK305.out 1).trans rfl; have hcz19_2 : w18.cell? ⟨gb305, 2, none⟩ = some (.int .u8 a0_2) := (bc_ BK305.out 2).trans rfl; have hcz19_3 : w18.cell? ⟨gb305, 3, none⟩ = some (.int .i64 a0_3) := (bc_ BK305.out 3).trans rfl; have hcz19_4 : w18.cell? ⟨gb305, 4, none⟩ = some (.int .i64 a0_4) := (bc_ BK305.out 4).trans rfl; have hcz19_5 : w18.cell? ⟨gb305, 5, none⟩ = some (.int .i64 a0_5) := (bc_ BK305.out 5).trans rfl; have hcz19_6 : w18.cell? ⟨gb305, 6, none⟩ = some (.int .i64 a0_6) := (bc_ BK305.out 6).trans rfl; have hcz19_7 : w18.cell? ⟨gb305, 7, none⟩ = some (.slice A0_7 l0_7.length c0_7) := (bc_ BK305.out 7).trans rfl; have hfz19_0 := bf_ BK305.out 0; have hfz19_1 := bf_ BK305.out 1; have hfz19_2 := bf_ BK305.out 2; have hfz19_3 := bf_ BK305.out 3; have hfz19_4 := bf_ BK305.out 4; have hfz19_5 := bf_ BK305.out 5; have hfz19_6 := bf_ BK305.out 6; have hfz19_7 := bf_ BK305.out 7))
   go_meet
   case rel => exact ⟨_, (false), wr_, H', ⟨by first | omega | exact Nat.le_refl _⟩, ⟨wB_ BK305.out⟩, ⟨wb1_ HB.out GE305.out⟩⟩
  rw [if_neg c14] at H
  have c14b0 : (a0_2 == 48) = false := beq_eq_false_iff_ne.mpr c14
  have c14b1 : (a0_2 != 48) = true := bne_iff_ne.mpr c14
  have H' := A0_ H
  clear H
  have hcz20_0 : w3.cell? ⟨gb305, 0, none⟩ = some (.string a0_0) := (bc_ BK305.out 0).trans rfl
  have hcz20_1 : w3.cell? ⟨gb305, 1, none⟩ = some (.string a0_1) := (bc_ BK305.out 1).trans rfl
  have hcz20_2 : w3.cell? ⟨gb305, 2, none⟩ = some (.int .u8 a0_2) := (bc_ BK305.out 2).trans rfl
  have hcz20_3 : w3.cell? ⟨gb305, 3, none⟩ = some (.int .i64 a0_3) := (bc_ BK305.out 3).trans rfl
  have hcz20_4 : w3.cell? ⟨gb305, 4, none⟩ = some (.int .i64 a0_4) := (bc_ BK305.out 4).trans rfl
  have hcz20_5 : w3.cell? ⟨gb305, 5, none⟩ = some (.int .i64 a0_5) := (bc_ BK305.out 5).trans rfl
  have hcz20_6 : w3.cell? ⟨gb305, 6, none⟩ = some (.int .i64 a0_6) := (bc_ BK305.out 6).trans rfl
  have hcz20_7 : w3.cell? ⟨gb305, 7, none⟩ = some (.slice A0_7 l0_7.length c0_7) := (bc_ BK305.out 7).trans rfl
  have hfz20_0 := bf_ BK305.out 0
  have hfz20_1 := bf_ BK305.out 1
  have hfz20_2 := bf_ BK305.out 2
  have hfz20_3 := bf_ BK305.out 3
  have hfz20_4 := bf_ BK305.out 4
  have hfz20_5 := bf_ BK305.out 5
  have hfz20_6 := bf_ BK305.out 6
  have hfz20_7 := bf_ BK305.out 7
  go_wp2_with (first | ((with_reducible refine gate_callee (f := 37) rfl ?_); refine goesL_ (some 5) rfl rfl Tryd.func37 (by kernel_rfl) rfl #[.string a0_0] rfl wm_ ?_; (with_reducible refine (member_clean.calls a0_0 true _ ?side1 A4.out).mono ?_); (case side1 => exact A0_ (Tabs.below hT.out (wb1_ HB.out GE305.out))); rintro e w21 ⟨rfl, hb⟩; refine ⟨_, rfl, ?_⟩; have n0_ := A0_ (blk_below (g := gb305) (o := .cells #[.string a0_0, .string a0_1, .int .u8 a0_2, .int .i64 a0_3, .int .i64 a0_4, .int .i64 a0_5, .int .i64 a0_6, .slice A0_7 l0_7.length c0_7] 27 (0, 0)) (wB_ BK305.out) hb); have n1_ := A0_ (below_step (wb1_ HB.out GE305.out) hb); clear BK305; clear HB; have BK305 := n0_; have HB := n1_; clear n0_ n1_; (try clear hb); (try clear hb2); (try clear hk); (try clear hi); have hcz22_0 : w21.cell? ⟨gb305, 0, none⟩ = some (.string a0_0) := (bc_ BK305.out 0).trans rfl; have hcz22_1 : w21.cell? ⟨gb305, 1, none⟩ = some (.string a0_1) := (bc_ BK305.out 1).trans rfl; have hcz22_2 : w21.cell? ⟨gb305, 2, none⟩ = some (.int .u8 a0_2) := (bc_ BK305.out 2).trans rfl; have hcz22_3 : w21.cell? ⟨gb305, 3, none⟩ = some (.int .i64 a0_3) := (bc_ BK305.out 3).trans rfl; have hcz22_4 : w21.cell? ⟨gb305, 4, none⟩ = some (.int .i64 a0_4) := (bc_ BK305.out 4).trans rfl; have hcz22_5 : w21.cell? ⟨gb305, 5, none⟩ = some (.int .i64 a0_5) := (bc_ BK305.out 5).trans rfl; have hcz22_6 : w21.cell? ⟨gb305, 6, none⟩ = some (.int .i64 a0_6) := (bc_ BK305.out 6).trans rfl; have hcz22_7 : w21.cell? ⟨gb305, 7, none⟩ = some (.slice A0_7 l0_7.length c0_7) := (bc_ BK305.out 7).trans rfl; have hfz22_0 := bf_ BK305.out 0; have hfz22_1 := bf_ BK305.out 1; have hfz22_2 := bf_ BK305.out 2; have hfz22_3 := bf_ BK305.out 3; have hfz22_4 := bf_ BK305.out 4; have hfz22_5 := bf_ BK305.out 5; have hfz22_6 := bf_ BK305.out 6; have hfz22_7 := bf_ BK305.out 7) | (go_at_call 38; (with_reducible refine (member_meta.calls a0_3 a0_4 a0_5 a0_6 true _ A6.out).mono ?_); rintro e w23 ⟨rfl, hb⟩; have n0_ := A0_ (blk_below (g := gb305) (o := .cells #[.string a0_0, .string a0_1, .int .u8 a0_2, .int .i64 a0_3, .int .i64 a0_4, .int .i64 a0_5, .int .i64 a0_6, .slice A0_7 l0_7.length c0_7] 27 (0, 0)) (wB_ BK305.out) hb); have n1_ := A0_ (below_step (wb1_ HB.out GE305.out) hb); clear BK305; clear HB; have BK305 := n0_; have HB := n1_; clear n0_ n1_; (try clear hb); (try clear hb2); (try clear hk); (try clear hi); have hcz24_0 : w23.cell? ⟨gb305, 0, none⟩ = some (.string a0_0) := (bc_ BK305.out 0).trans rfl; have hcz24_1 : w23.cell? ⟨gb305, 1, none⟩ = some (.string a0_1) := (bc_ BK305.out 1).trans rfl; have hcz24_2 : w23.cell? ⟨gb305, 2, none⟩ = some (.int .u8 a0_2) := (bc_ BK305.out 2).trans rfl; have hcz24_3 : w23.cell? ⟨gb305, 3, none⟩ = some (.int .i64 a0_3) := (bc_ BK305.out 3).trans rfl; have hcz24_4 : w23.cell? ⟨gb305, 4, none⟩ = some (.int .i64 a0_4) := (bc_ BK305.out 4).trans rfl; have hcz24_5 : w23.cell? ⟨gb305, 5, none⟩ = some (.int .i64 a0_5) := (bc_ BK305.out 5).trans rfl; have hcz24_6 : w23.cell? ⟨gb305, 6, none⟩ = some (.int .i64 a0_6) := (bc_ BK305.out 6).trans rfl; have hcz24_7 : w23.cell? ⟨gb305, 7, none⟩ = some (.slice A0_7 l0_7.length c0_7) := (bc_ BK305.out 7).trans rfl; have hfz24_0 := bf_ BK305.out 0; have hfz24_1 := bf_ BK305.out 1; have hfz24_2 := bf_ BK305.out 2; have hfz24_3 := bf_ BK305.out 3; have hfz24_4 := bf_ BK305.out 4; have hfz24_5 := bf_ BK305.out 5; have hfz24_6 := bf_ BK305.out 6; have hfz24_7 := bf_ BK305.out 7))
  go_meet
  case rel => exact ⟨_, (decide ((l0_7.length : Int) > 0)), wr_, H', ⟨by first | omega | exact Nat.le_refl _⟩, ⟨wB_ BK305.out⟩, ⟨wb1_ HB.out GE305.out⟩⟩
 case rest =>
  clear HC2
  try clear c1
  try clear c2
  try clear p2
  try clear c3
  try clear c5
  try clear c7
  try clear c8
  try clear c8b0
  try clear c8b1
  try clear c14
  try clear c14b0
  try clear c14b1
  try clear c25
  try clear hcz11_0
  try clear hcz11_1
  try clear hcz11_2
  try clear hcz11_3
  try clear hcz11_4
  try clear hcz11_5
  try clear hcz11_6
  try clear hcz11_7
  try clear hcz13_0
  try clear hcz13_1
  try clear hcz13_2
  try clear hcz13_3
  try clear hcz13_4
  try clear hcz13_5
  try clear hcz13_6
  try clear hcz13_7
  try clear hcz15_0
  try clear hcz15_1
  try clear hcz15_2
  try clear hcz15_3
  try clear hcz15_4
  try clear hcz15_5
  try clear hcz15_6
  try clear hcz15_7
  try clear hcz17_0
  try clear hcz17_1
  try clear hcz17_2
  try clear hcz17_3
  try clear hcz17_4
  try clear hcz17_5
  try clear hcz17_6
  try clear hcz17_7
  try clear hcz19_0
  try clear hcz19_1
  try clear hcz19_2
  try clear hcz19_3
  try clear hcz19_4
  try clear hcz19_5
  try clear hcz19_6
  try clear hcz19_7
  try clear hcz20_0
  try clear hcz20_1
  try clear hcz20_2
  try clear hcz20_3
  try clear hcz20_4
  try clear hcz20_5
  try clear hcz20_6
  try clear hcz20_7
  try clear hcz22_0
  try clear hcz22_1
  try clear hcz22_2
  try clear hcz22_3
  try clear hcz22_4
  try clear hcz22_5
  try clear hcz22_6
  try clear hcz22_7
  try clear hcz24_0
  try clear hcz24_1
  try clear hcz24_2
  try clear hcz24_3
  try clear hcz24_4
  try clear hcz24_5
  try clear hcz24_6
  try clear hcz24_7
  try clear hcz25_0
  try clear hcz25_1
  try clear hcz25_2
  try clear hcz25_3
  try clear hcz25_4
  try clear hcz25_5
  try clear hcz25_6
  try clear hcz25_7
  try clear hcz27_0
  try clear hcz27_1
  try clear hcz27_2
  try clear hcz27_3
  try clear hcz27_4
  try clear hcz27_5
  try clear hcz27_6
  try clear hcz27_7
  try clear hcz29_0
  try clear hcz29_1
  try clear hcz29_2
  try clear hcz29_3
  try clear hcz29_4
  try clear hcz29_5
  try clear hcz29_6
  try clear hcz29_7
  try clear hcz9_0
  try clear hcz9_1
  try clear hcz9_2
  try clear hcz9_3
  try clear hcz9_4
  try clear hcz9_5
  try clear hcz9_6
  try clear hcz9_7
  try clear hfz11_0
  try clear hfz11_1
  try clear hfz11_2
  try clear hfz11_3
  try clear hfz11_4
  try clear hfz11_5
  try clear hfz11_6
  try clear hfz11_7
  try clear hfz13_0
  try clear hfz13_1
  try clear hfz13_2
  try clear hfz13_3
  try clear hfz13_4
  try clear hfz13_5
  try clear hfz13_6
  try clear hfz13_7
  try clear hfz15_0
  try clear hfz15_1
  try clear hfz15_2
  try clear hfz15_3
  try clear hfz15_4
  try clear hfz15_5
  try clear hfz15_6
  try clear hfz15_7
  try clear hfz17_0
  try clear hfz17_1
  try clear hfz17_2
  try clear hfz17_3
  try clear hfz17_4
  try clear hfz17_5
  try clear hfz17_6
  try clear hfz17_7
  try clear hfz19_0
  try clear hfz19_1
  try clear hfz19_2
  try clear hfz19_3
  try clear hfz19_4
  try clear hfz19_5
  try clear hfz19_6
  try clear hfz19_7
  try clear hfz20_0
  try clear hfz20_1
  try clear hfz20_2
  try clear hfz20_3
  try clear hfz20_4
  try clear hfz20_5
  try clear hfz20_6
  try clear hfz20_7
  try clear hfz22_0
  try clear hfz22_1
  try clear hfz22_2
  try clear hfz22_3
  try clear hfz22_4
  try clear hfz22_5
  try clear hfz22_6
  try clear hfz22_7
  try clear hfz24_0
  try clear hfz24_1
  try clear hfz24_2
  try clear hfz24_3
  try clear hfz24_4
  try clear hfz24_5
  try clear hfz24_6
  try clear hfz24_7
  try clear hfz25_0
  try clear hfz25_1
  try clear hfz25_2
  try clear hfz25_3
  try clear hfz25_4
  try clear hfz25_5
  try clear hfz25_6
  try clear hfz25_7
  try clear hfz27_0
  try clear hfz27_1
  try clear hfz27_2
  try clear hfz27_3
  try clear hfz27_4
  try clear hfz27_5
  try clear hfz27_6
  try clear hfz27_7
  try clear hfz29_0
  try clear hfz29_1
  try clear hfz29_2
  try clear hfz29_3
  try clear hfz29_4
  try clear hfz29_5
  try clear hfz29_6
  try clear hfz29_7
  try clear hfz9_0
  try clear hfz9_1
  try clear hfz9_2
  try clear hfz9_3
  try clear hfz9_4
  try clear hfz9_5
  try clear hfz9_6
  try clear hfz9_7
  obtain ⟨kq, x29_1, rfl, HA, HJ1, BK305, HB⟩ := hcut
  cases kq with
  | zero => exact absurd HA.out (by simp [member_Good.j0])
  | succ kj1 =>
   have H := HA.out
   clear HA
   simp only [member_Good.j0] at H
   by_cases c31 : x29_1 = true
   ·subst c31
    have H1 : (some false) = some r := by rw [if_pos rfl] at H; exact H
    clear H
    have H := H1
    clear H1
    obtain rfl := Option.some.inj H
    go_wp2
    go_ret
    exact ⟨we_, wb1_ HB.out GE305.out⟩
   replace c31 := Bool.eq_false_iff.mpr c31
   subst c31
   have H1 : (if a0_2 = 48 then (member_Good.j1 kj1 a0_2 (a0_2 == 48) a0_0 a0_1 a0_2 a0_3 a0_4 a0_5 a0_6 l0_7) else (member_Good.j1 kj1 a0_2 (a0_2 == 53) a0_0 a0_1 a0_2 a0_3 a0_4 a0_5 a0_6 l0_7)) = some r := by rw [if_neg (show ¬ (false = true) by decide)] at H; exact H
   clear H
   have H := H1
   clear H1
   have HC32 := A0_ H
   clear H
   have hcz33_0 : wc.cell? ⟨gb305, 0, none⟩ = some (.string a0_0) := (bc_ BK305.out 0).trans rfl
   have hcz33_1 : wc.cell? ⟨gb305, 1, none⟩ = some (.string a0_1) := (bc_ BK305.out 1).trans rfl
   have hcz33_2 : wc.cell? ⟨gb305, 2, none⟩ = some (.int .u8 a0_2) := (bc_ BK305.out 2).trans rfl
   have hcz33_3 : wc.cell? ⟨gb305, 3, none⟩ = some (.int .i64 a0_3) := (bc_ BK305.out 3).trans rfl
   have hcz33_4 : wc.cell? ⟨gb305, 4, none⟩ = some (.int .i64 a0_4) := (bc_ BK305.out 4).trans rfl
   have hcz33_5 : wc.cell? ⟨gb305, 5, none⟩ = some (.int .i64 a0_5) := (bc_ BK305.out 5).trans rfl
   have hcz33_6 : wc.cell? ⟨gb305, 6, none⟩ = some (.int .i64 a0_6) := (bc_ BK305.out 6).trans rfl
   have hcz33_7 : wc.cell? ⟨gb305, 7, none⟩ = some (.slice A0_7 l0_7.length c0_7) := (bc_ BK305.out 7).trans rfl
   have hfz33_0 := bf_ BK305.out 0
   have hfz33_1 := bf_ BK305.out 1
   have hfz33_2 := bf_ BK305.out 2
   have hfz33_3 := bf_ BK305.out 3
   have hfz33_4 := bf_ BK305.out 4
   have hfz33_5 := bf_ BK305.out 5
   have hfz33_6 := bf_ BK305.out 6
   have hfz33_7 := bf_ BK305.out 7
   go_upto_if 32 with (fail)
   go_cut [32] (fun v32 wc => ∃ (kq : Nat) (x32_31 : Bool), v32 = .bool x32_31 ∧ Aside0 (member_Good.j1 kq a0_2 x32_31 a0_0 a0_1 a0_2 a0_3 a0_4 a0_5 a0_6 l0_7 = some r) ∧ Aside0 (kq ≤ kj1) ∧ Aside0 (wc.heap[gb305]? = some (.cells #[.string a0_0, .string a0_1, .int .u8 a0_2, .int .i64 a0_3, .int .i64 a0_4, .int .i64 a0_5, .int .i64 a0_6, (.slice A0_7 l0_7.length c0_7)] 27 (0, 0))) ∧ Aside0 (Below w.heap.size w wc))
   case first =>
    have H := HC32.out
    clear HC32
    by_cases c34 : a0_2 = 48
    rotate_left
    ·rw [if_neg c34] at H
     have c34b0 : (a0_2 == 48) = false := beq_eq_false_iff_ne.mpr c34
     have c34b1 : (a0_2 != 48) = true := bne_iff_ne.mpr c34
     (first | rw [c34b0] | (simp only [i64_w, i32_w]; rw [c34b0]) | skip)
     have H' := A0_ H
     clear H
     go_wp2
     go_meet
     case rel => exact ⟨_, ((a0_2 == 53)), wr_, H', ⟨by have := HJ1.out; first | omega | exact Nat.le_refl _⟩, ⟨wB_ BK305.out⟩, ⟨wb1_ HB.out GE305.out⟩⟩
    rw [if_pos c34] at H
    have c34b0 : (a0_2 == 48) = true := beq_iff_eq.mpr c34
    have c34b1 : (a0_2 != 48) = false := bne_eq_false_iff_eq.mpr c34
    clear c34
    (first | rw [c34b0] | (simp only [i64_w, i32_w]; rw [c34b0]) | skip)
    have H' := A0_ H
    clear H
    go_wp2
    go_meet
    case rel => exact ⟨_, ((a0_2 == 48)), wr_, H', ⟨by have := HJ1.out; first | omega | exact Nat.le_refl _⟩, ⟨wB_ BK305.out⟩, ⟨wb1_ HB.out GE305.out⟩⟩
   case rest =>
    clear HC32
    try clear c1
    try clear c2
    try clear p2
    try clear c3
    try clear c5
    try clear c7
    try clear c8
    try clear c8b0
    try clear c8b1
    try clear c14
    try clear c14b0
    try clear c14b1
    try clear c25
    try clear c31
    try clear c34
    try clear c34b0
    try clear c34b1
    try clear hcz11_0
    try clear hcz11_1
    try clear hcz11_2
    try clear hcz11_3
    try clear hcz11_4
    try clear hcz11_5
    try clear hcz11_6
    try clear hcz11_7
    try clear hcz13_0
    try clear hcz13_1
    try clear hcz13_2
    try clear hcz13_3
    try clear hcz13_4
    try clear hcz13_5
    try clear hcz13_6
    try clear hcz13_7
    try clear hcz15_0
    try clear hcz15_1
    try clear hcz15_2
    try clear hcz15_3
    try clear hcz15_4
    try clear hcz15_5
    try clear hcz15_6
    try clear hcz15_7
    try clear hcz17_0
    try clear hcz17_1
    try clear hcz17_2
    try clear hcz17_3
    try clear hcz17_4
    try clear hcz17_5
    try clear hcz17_6
    try clear hcz17_7
    try clear hcz19_0
    try clear hcz19_1
    try clear hcz19_2
    try clear hcz19_3
    try clear hcz19_4
    try clear hcz19_5
    try clear hcz19_6
    try clear hcz19_7
    try clear hcz20_0
    try clear hcz20_1
    try clear hcz20_2
    try clear hcz20_3
    try clear hcz20_4
    try clear hcz20_5
    try clear hcz20_6
    try clear hcz20_7
    try clear hcz22_0
    try clear hcz22_1
    try clear hcz22_2
    try clear hcz22_3
    try clear hcz22_4
    try clear hcz22_5
    try clear hcz22_6
    try clear hcz22_7
    try clear hcz24_0
    try clear hcz24_1
    try clear hcz24_2
    try clear hcz24_3
    try clear hcz24_4
    try clear hcz24_5
    try clear hcz24_6
    try clear hcz24_7
    try clear hcz25_0
    try clear hcz25_1
    try clear hcz25_2
    try clear hcz25_3
    try clear hcz25_4
    try clear hcz25_5
    try clear hcz25_6
    try clear hcz25_7
    try clear hcz27_0
    try clear hcz27_1
    try clear hcz27_2
    try clear hcz27_3
    try clear hcz27_4
    try clear hcz27_5
    try clear hcz27_6
    try clear hcz27_7
    try clear hcz29_0
    try clear hcz29_1
    try clear hcz29_2
    try clear hcz29_3
    try clear hcz29_4
    try clear hcz29_5
    try clear hcz29_6
    try clear hcz29_7
    try clear hcz33_0
    try clear hcz33_1
    try clear hcz33_2
    try clear hcz33_3
    try clear hcz33_4
    try clear hcz33_5
    try clear hcz33_6
    try clear hcz33_7
    try clear hcz9_0
    try clear hcz9_1
    try clear hcz9_2
    try clear hcz9_3
    try clear hcz9_4
    try clear hcz9_5
    try clear hcz9_6
    try clear hcz9_7
    try clear hfz11_0
    try clear hfz11_1
    try clear hfz11_2
    try clear hfz11_3
    try clear hfz11_4
    try clear hfz11_5
    try clear hfz11_6
    try clear hfz11_7
    try clear hfz13_0
    try clear hfz13_1
    try clear hfz13_2
    try clear hfz13_3
    try clear hfz13_4
    try clear hfz13_5
    try clear hfz13_6
    try clear hfz13_7
    try clear hfz15_0
    try clear hfz15_1
    try clear hfz15_2
    try clear hfz15_3
    try clear hfz15_4
    try clear hfz15_5
    try clear hfz15_6
    try clear hfz15_7
    try clear hfz17_0
    try clear hfz17_1
    try clear hfz17_2
    try clear hfz17_3
    try clear hfz17_4
    try clear hfz17_5
    try clear hfz17_6
    try clear hfz17_7
    try clear hfz19_0
    try clear hfz19_1
    try clear hfz19_2
    try clear hfz19_3
    try clear hfz19_4
    try clear hfz19_5
    try clear hfz19_6
    try clear hfz19_7
    try clear hfz20_0
    try clear hfz20_1
    try clear hfz20_2
    try clear hfz20_3
    try clear hfz20_4
    try clear hfz20_5
    try clear hfz20_6
    try clear hfz20_7
    try clear hfz22_0
    try clear hfz22_1
    try clear hfz22_2
    try clear hfz22_3
    try clear hfz22_4
    try clear hfz22_5
    try clear hfz22_6
    try clear hfz22_7
    try clear hfz24_0
    try clear hfz24_1
    try clear hfz24_2
    try clear hfz24_3
    try clear hfz24_4
    try clear hfz24_5
    try clear hfz24_6
    try clear hfz24_7
    try clear hfz25_0
    try clear hfz25_1
    try clear hfz25_2
    try clear hfz25_3
    try clear hfz25_4
    try clear hfz25_5
    try clear hfz25_6
    try clear hfz25_7
    try clear hfz27_0
    try clear hfz27_1
    try clear hfz27_2
    try clear hfz27_3
    try clear hfz27_4
    try clear hfz27_5
    try clear hfz27_6
    try clear hfz27_7
    try clear hfz29_0
    try clear hfz29_1
    try clear hfz29_2
    try clear hfz29_3
    try clear hfz29_4
    try clear hfz29_5
    try clear hfz29_6
    try clear hfz29_7
    try clear hfz33_0
    try clear hfz33_1
    try clear hfz33_2
    try clear hfz33_3
    try clear hfz33_4
    try clear hfz33_5
    try clear hfz33_6
    try clear hfz33_7
    try clear hfz9_0
    try clear hfz9_1
    try clear hfz9_2
    try clear hfz9_3
    try clear hfz9_4
    try clear hfz9_5
    try clear hfz9_6
    try clear hfz9_7
    try clear p2
    obtain ⟨kq, x32_31, rfl, HA, HJ31, BK305, HB⟩ := hcut
    cases kq with
    | zero => exact absurd HA.out (by simp [member_Good.j1])
    | succ kj31 =>
     have H := HA.out
     clear HA
     simp only [member_Good.j1] at H
     by_cases c35 : x32_31 = true
     ·subst c35
      have H1 : (some (a0_1.toList == ([] : List UInt8))) = some r := by rw [if_pos rfl] at H; exact H
      clear H
      have H := H1
      clear H1
      obtain rfl := Option.some.inj H
      have hcz36_0 : wc.cell? ⟨gb305, 0, none⟩ = some (.string a0_0) := (bc_ BK305.out 0).trans rfl
      have hcz36_1 : wc.cell? ⟨gb305, 1, none⟩ = some (.string a0_1) := (bc_ BK305.out 1).trans rfl
      have hcz36_2 : wc.cell? ⟨gb305, 2, none⟩ = some (.int .u8 a0_2) := (bc_ BK305.out 2).trans rfl
      have hcz36_3 : wc.cell? ⟨gb305, 3, none⟩ = some (.int .i64 a0_3) := (bc_ BK305.out 3).trans rfl
      have hcz36_4 : wc.cell? ⟨gb305, 4, none⟩ = some (.int .i64 a0_4) := (bc_ BK305.out 4).trans rfl
      have hcz36_5 : wc.cell? ⟨gb305, 5, none⟩ = some (.int .i64 a0_5) := (bc_ BK305.out 5).trans rfl
      have hcz36_6 : wc.cell? ⟨gb305, 6, none⟩ = some (.int .i64 a0_6) := (bc_ BK305.out 6).trans rfl
      have hcz36_7 : wc.cell? ⟨gb305, 7, none⟩ = some (.slice A0_7 l0_7.length c0_7) := (bc_ BK305.out 7).trans rfl
      have hfz36_0 := bf_ BK305.out 0
      have hfz36_1 := bf_ BK305.out 1
      have hfz36_2 := bf_ BK305.out 2
      have hfz36_3 := bf_ BK305.out 3
      have hfz36_4 := bf_ BK305.out 4
      have hfz36_5 := bf_ BK305.out 5
      have hfz36_6 := bf_ BK305.out 6
      have hfz36_7 := bf_ BK305.out 7
      go_wp2
      go_ret
      exact ⟨we_, wb1_ HB.out GE305.out⟩
     replace c35 := Bool.eq_false_iff.mpr c35
     subst c35
     have H1 : (if a0_2 = 49 then ((member_clean.f a0_1).bind fun t308 => (some t308)) else (if a0_2 = 50 then ((path_Target.f a0_1).bind fun t309 => (some (t309 == 0))) else (some false))) = some r := by rw [if_neg (show ¬ (false = true) by decide)] at H; exact H
     clear H
     have H := H1
     clear H1
     by_cases c37 : a0_2 = 49
     ·rw [if_pos c37] at H
      have c37b0 : (a0_2 == 49) = true := beq_iff_eq.mpr c37
      have c37b1 : (a0_2 != 49) = false := bne_eq_false_iff_eq.mpr c37
      clear c37
      replace H := Option.bind_eq_some_iff.mp H
      obtain ⟨t308, A380, H⟩ := H
      replace H : (some t308) = some r := H
      have A38 := A0_ A380
      clear A380
      obtain rfl := Option.some.inj H
      have hcz39_0 : wc.cell? ⟨gb305, 0, none⟩ = some (.string a0_0) := (bc_ BK305.out 0).trans rfl
      have hcz39_1 : wc.cell? ⟨gb305, 1, none⟩ = some (.string a0_1) := (bc_ BK305.out 1).trans rfl
      have hcz39_2 : wc.cell? ⟨gb305, 2, none⟩ = some (.int .u8 a0_2) := (bc_ BK305.out 2).trans rfl
      have hcz39_3 : wc.cell? ⟨gb305, 3, none⟩ = some (.int .i64 a0_3) := (bc_ BK305.out 3).trans rfl
      have hcz39_4 : wc.cell? ⟨gb305, 4, none⟩ = some (.int .i64 a0_4) := (bc_ BK305.out 4).trans rfl
      have hcz39_5 : wc.cell? ⟨gb305, 5, none⟩ = some (.int .i64 a0_5) := (bc_ BK305.out 5).trans rfl
      have hcz39_6 : wc.cell? ⟨gb305, 6, none⟩ = some (.int .i64 a0_6) := (bc_ BK305.out 6).trans rfl
      have hcz39_7 : wc.cell? ⟨gb305, 7, none⟩ = some (.slice A0_7 l0_7.length c0_7) := (bc_ BK305.out 7).trans rfl
      have hfz39_0 := bf_ BK305.out 0
      have hfz39_1 := bf_ BK305.out 1
      have hfz39_2 := bf_ BK305.out 2
      have hfz39_3 := bf_ BK305.out 3
      have hfz39_4 := bf_ BK305.out 4
      have hfz39_5 := bf_ BK305.out 5
      have hfz39_6 := bf_ BK305.out 6
      have hfz39_7 := bf_ BK305.out 7
      go_wp2_with (first | ((with_reducible refine gate_callee (f := 37) rfl ?_); refine goesL_ (some 42) rfl rfl Tryd.func37 (by kernel_rfl) rfl #[.string a0_1] rfl wm_ ?_; (with_reducible refine (member_clean.calls a0_1 t308 _ ?side1 A38.out).mono ?_); (case side1 => exact A0_ (Tabs.below hT.out (wb1_ HB.out GE305.out))); rintro e w40 ⟨rfl, hb⟩; refine ⟨_, rfl, ?_⟩; have n0_ := A0_ (blk_below (g := gb305) (o := .cells #[.string a0_0, .string a0_1, .int .u8 a0_2, .int .i64 a0_3, .int .i64 a0_4, .int .i64 a0_5, .int .i64 a0_6, .slice A0_7 l0_7.length c0_7] 27 (0, 0)) (wB_ BK305.out) hb); have n1_ := A0_ (below_step (wb1_ HB.out GE305.out) hb); clear BK305; clear HB; have BK305 := n0_; have HB := n1_; clear n0_ n1_; (try clear hb); (try clear hb2); (try clear hk); (try clear hi)))
      go_ret
      exact ⟨we_, wb1_ HB.out GE305.out⟩
     rw [if_neg c37] at H
     have c37b0 : (a0_2 == 49) = false := beq_eq_false_iff_ne.mpr c37
     have c37b1 : (a0_2 != 49) = true := bne_iff_ne.mpr c37
     by_cases c41 : a0_2 = 50
     rotate_left
     ·rw [if_neg c41] at H
      have c41b0 : (a0_2 == 50) = false := beq_eq_false_iff_ne.mpr c41
      have c41b1 : (a0_2 != 50) = true := bne_iff_ne.mpr c41
      obtain rfl := Option.some.inj H
      go_wp2
      go_ret
      exact ⟨we_, wb1_ HB.out GE305.out⟩
     rw [if_pos c41] at H
     have c41b0 : (a0_2 == 50) = true := beq_iff_eq.mpr c41
     have c41b1 : (a0_2 != 50) = false := bne_eq_false_iff_eq.mpr c41
     clear c41
     replace H := Option.bind_eq_some_iff.mp H
     obtain ⟨t309, A420, H⟩ := H
     replace H : (some (t309 == 0)) = some r := H
     have A42 := A0_ A420
     clear A420
     obtain rfl := Option.some.inj H
     have hcz43_0 : wc.cell? ⟨gb305, 0, none⟩ = some (.string a0_0) := (bc_ BK305.out 0).trans rfl
     have hcz43_1 : wc.cell? ⟨gb305, 1, none⟩ = some (.string a0_1) := (bc_ BK305.out 1).trans rfl
     have hcz43_2 : wc.cell? ⟨gb305, 2, none⟩ = some (.int .u8 a0_2) := (bc_ BK305.out 2).trans rfl
     have hcz43_3 : wc.cell? ⟨gb305, 3, none⟩ = some (.int .i64 a0_3) := (bc_ BK305.out 3).trans rfl
     have hcz43_4 : wc.cell? ⟨gb305, 4, none⟩ = some (.int .i64 a0_4) := (bc_ BK305.out 4).trans rfl
     have hcz43_5 : wc.cell? ⟨gb305, 5, none⟩ = some (.int .i64 a0_5) := (bc_ BK305.out 5).trans rfl
     have hcz43_6 : wc.cell? ⟨gb305, 6, none⟩ = some (.int .i64 a0_6) := (bc_ BK305.out 6).trans rfl
     have hcz43_7 : wc.cell? ⟨gb305, 7, none⟩ = some (.slice A0_7 l0_7.length c0_7) := (bc_ BK305.out 7).trans rfl
     have hfz43_0 := bf_ BK305.out 0
     have hfz43_1 := bf_ BK305.out 1
     have hfz43_2 := bf_ BK305.out 2
     have hfz43_3 := bf_ BK305.out 3
     have hfz43_4 := bf_ BK305.out 4
     have hfz43_5 := bf_ BK305.out 5
     have hfz43_6 := bf_ BK305.out 6
     have hfz43_7 := bf_ BK305.out 7
     go_wp2_with (first | ((with_reducible refine gate_callee (f := 39) rfl ?_); refine goesL_ (some 47) rfl rfl Tryd.func39 (by kernel_rfl) rfl #[.string a0_1] rfl wm_ ?_; (with_reducible refine (path_Target.calls a0_1 t309 _ ?side1 A42.out).mono ?_); (case side1 => exact A0_ (Tabs.below hT.out (wb1_ HB.out GE305.out))); rintro e w44 ⟨rfl, hb⟩; refine ⟨_, rfl, ?_⟩; have n0_ := A0_ (blk_below (g := gb305) (o := .cells #[.string a0_0, .string a0_1, .int .u8 a0_2, .int .i64 a0_3, .int .i64 a0_4, .int .i64 a0_5, .int .i64 a0_6, .slice A0_7 l0_7.length c0_7] 27 (0, 0)) (wB_ BK305.out) hb); have n1_ := A0_ (below_step (wb1_ HB.out GE305.out) hb); clear BK305; clear HB; have BK305 := n0_; have HB := n1_; clear n0_ n1_; (try clear hb); (try clear hb2); (try clear hk); (try clear hi)))
     go_ret
     exact ⟨we_, wb1_ HB.out GE305.out⟩
end Go.Proofs.YtiijbmaamblidaaDoor.Print

namespace Go.Proofs.YtiijbmaamblidaaDoor.Print
open Go.RowKit Go.Proofs.YtiijbmaamblidaaDoorW.PrintWords Go.Proofs.YtiijbmaamblidaaDoorW.PrintLast Go.Proofs.YtiijbmaamblidaaDoorW.PrintMore
attribute [local go_sem] max2_int min2_int max_two min_two max_three min_three max_four min_four   -- for this text's walks alone
set_option linter.unusedVariables false
set_option linter.unusedSimpArgs false
end Go.Proofs.YtiijbmaamblidaaDoor.Print

namespace Go.Proofs.YtiijbmaamblidaaDoor.Print
open Go.RowKit Go.Proofs.YtiijbmaamblidaaDoorW.PrintWords Go.Proofs.YtiijbmaamblidaaDoorW.PrintLast Go.Proofs.YtiijbmaamblidaaDoorW.PrintMore
attribute [local go_sem] max2_int min2_int max_two min_two max_three min_three max_four min_four   -- for this text's walks alone
set_option linter.unusedVariables false
set_option linter.unusedSimpArgs false
end Go.Proofs.YtiijbmaamblidaaDoor.Print

namespace Go.Proofs.YtiijbmaamblidaaDoor.Print
open Go.RowKit Go.Proofs.YtiijbmaamblidaaDoorW.PrintWords Go.Proofs.YtiijbmaamblidaaDoorW.PrintLast Go.Proofs.YtiijbmaamblidaaDoorW.PrintMore
attribute [local go_sem] max2_int min2_int max_two min_two max_three min_three max_four min_four   -- for this text's walks alone
set_option linter.unusedVariables false
set_option linter.unusedSimpArgs false
end Go.Proofs.YtiijbmaamblidaaDoor.Print

namespace Go.Proofs.YtiijbmaamblidaaDoor.Print
open Go.RowKit Go.Proofs.YtiijbmaamblidaaDoorW.PrintWords Go.Proofs.YtiijbmaamblidaaDoorW.PrintLast Go.Proofs.YtiijbmaamblidaaDoorW.PrintMore
attribute [local go_sem] max2_int min2_int max_two min_two max_three min_three max_four min_four   -- for this text's walks alone
set_option linter.unusedVariables false
set_option linter.unusedSimpArgs false
end Go.Proofs.YtiijbmaamblidaaDoor.Print

namespace Go.Proofs.YtiijbmaamblidaaDoor
open Go.RowKit Go.Proofs.YtiijbmaamblidaaDoor.Print Go.Proofs.YtiijbmaamblidaaDoorW.PrintWords
theorem beq_dec {α : Type} [BEq α] [LawfulBEq α] [DecidableEq α] (a b : α) : (a == b) = decide (a = b) := by
 rw [Bool.eq_iff_iff, beq_iff_eq, decide_eq_true_eq]
theorem mclean_f (s : ByteArray) (h2 : s.size ≤ 8000000000000) : member_clean.f s = some (cleanOk s) := by
 have e : path_Clean.f s = some (cleanF s) := by unfold path_Clean.f; rw [if_pos h2]
 unfold member_clean.f cleanOk
 rw [e, Option.bind_some, beq_dec]
 by_cases h0 : (cleanF s).2 = 0
 ·rw [if_pos h0, decide_eq_true h0, Bool.true_and]
  congr 1
  exact decide_eq_decide.2 ⟨fun h => h.symm, fun h => h.symm⟩
 ·rw [if_neg h0, decide_eq_false h0]; rfl
theorem mmeta_f (m : Met) : member_meta.f m.f0 m.f1 m.f2 m.f3 = some (metaOk m) := by
 unfold member_meta.f num_In.f metaOk
 have hd : ∀ (a b c : Int), (if a ≥ b then some (decide (a ≤ c)) else some false) = some (decide (b ≤ a ∧ a ≤ c)) := by
  intro a b c
  split
  ·congr 1; exact decide_eq_decide.2 (by omega)
  ·congr 1; symm; simp; omega
 simp only [hd, Option.bind_some]
 split
 ·split
  ·split
   ·congr 1
    simp only [decide_eq_true_eq] at *
    exact decide_eq_decide.2 (by omega)
   all_goals (congr 1; simp only [decide_eq_true_eq] at *; symm; simp; omega)
  all_goals (congr 1; simp only [decide_eq_true_eq] at *; symm; simp; omega)
 all_goals (congr 1; simp only [decide_eq_true_eq] at *; symm; simp; omega)
theorem mtarget_f (s : ByteArray) (h2 : s.size ≤ 8000000000000) : ∃ r, path_Target.f s = some r ∧ (r == 0) = targetOk s := by
 have e : path_right.f s = some (rightB s) := by unfold path_right.f; rw [if_pos h2]
 have hz : s.toList = [] ↔ s.size = 0 := by rw [Lib.toList_data, ← List.length_eq_zero_iff]; simp
 unfold path_Target.f targetOk
 rw [e, Option.bind_some]
 cases rightB s with
 | false => exact ⟨9, rfl, rfl⟩
 | true =>
  rw [if_pos rfl]
  by_cases h0 : s.toList = []
  ·rw [if_pos h0]
   refine ⟨6, rfl, ?_⟩
   have := hz.1 h0
   simp [this]
  ·rw [if_neg h0]
   have h1 : s.size ≠ 0 := fun e => h0 (hz.2 e)
   by_cases h3 : (s.size : Int) > 200
   ·rw [if_pos h3]
    refine ⟨6, rfl, ?_⟩
    simp
    omega
   ·rw [if_neg h3]
    refine ⟨0, rfl, ?_⟩
    simp
    omega
def kindB (m : Mem) : Bool := if m.f2 = 48 ∨ m.f2 = 53 then decide (m.f1.toList = []) else if m.f2 = 49 then cleanOk m.f1 else if m.f2 = 50 then targetOk m.f1 else false
theorem mj0_f (m : Mem) (b : Bool) (hz : MemZ m) : Ev (fun k => member_Good.j0 k b m.f0 m.f1 m.f2 m.f3.f0 m.f3.f1 m.f3.f2 m.f3.f3 m.f4) (!b && kindB m) := by
 obtain ⟨r, h1, h3⟩ := mtarget_f m.f1 hz.2.1
 have hj1 : Ev (fun k => member_Good.j1 k m.f2 (if m.f2 = 48 then (m.f2 == 48) else (m.f2 == 53)) m.f0 m.f1 m.f2 m.f3.f0 m.f3.f1 m.f3.f2 m.f3.f3 m.f4) (kindB m) := by
  refine Ev.step (f := fun _ => some (kindB m)) (fun k => ?_) (Ev.now _)
  rw [member_Good.j1]
  unfold kindB
  by_cases a : m.f2 = 48
  ·rw [if_pos a, if_pos (by rw [beq_iff_eq]; exact a), if_pos (.inl a), beq_dec]
  ·rw [if_neg a]
   by_cases b : m.f2 = 53
   ·rw [if_pos (by rw [beq_iff_eq]; exact b), if_pos (.inr b), beq_dec]
   ·rw [if_neg (by rw [beq_iff_eq]; exact b), if_neg (show ¬ (m.f2 = 48 ∨ m.f2 = 53) from fun h => h.elim a b)]
    by_cases c : m.f2 = 49
    ·rw [if_pos c, if_pos c, mclean_f _ hz.2.1]; rfl
    ·rw [if_neg c, if_neg c]
     by_cases d : m.f2 = 50
     ·rw [if_pos d, if_pos d, h1, Option.bind_some, h3]
     ·rw [if_neg d, if_neg d]
 cases b with
 | true => exact Ev.step (f := fun _ => some false) (fun k => by rw [member_Good.j0, if_pos rfl]) (Ev.now _)
 | false =>
  refine Ev.step (fun k => ?_) hj1
  rw [member_Good.j0, if_neg (by decide)]
  by_cases a : m.f2 = 48
  ·rw [if_pos a, if_pos a]
  ·rw [if_neg a, if_neg a]
theorem goodM_eq (m : Mem) : goodM m = (cleanOk m.f0 && metaOk m.f3 && !(decide (1048576 < m.f4.length) || (!decide (m.f2 = 48) && decide (0 < m.f4.length))) && kindB m) := by
 unfold goodM kindB
 congr 1
 rw [Bool.and_assoc, Bool.and_assoc, Bool.and_assoc]
 congr 2
 by_cases a : m.f2 = 48 <;> by_cases b : m.f4.length ≤ 1048576 <;> by_cases c : m.f4.length = 0 <;> simp [a, b, c] <;> omega
theorem member_Good_eq (m : Mem) (hz : MemZ m) : Ev (fun k => member_Good.f k m.f0 m.f1 m.f2 m.f3.f0 m.f3.f1 m.f3.f2 m.f3.f3 m.f4) (goodM m) := by
 rw [goodM_eq]
 cases hc : cleanOk m.f0 with
 | false => exact Ev.congr (fun k => by unfold member_Good.f; rw [mclean_f _ hz.1, Option.bind_some, hc, if_neg (by decide)]) (mj0_f m true hz)
 | true =>
  cases hm : metaOk m.f3 with
  | false => exact Ev.congr (fun k => by unfold member_Good.f; rw [mclean_f _ hz.1, Option.bind_some, hc, if_pos rfl, mmeta_f, Option.bind_some, hm, if_neg (by decide)]) (mj0_f m true hz)
  | true =>
   by_cases a : (m.f4.length : Int) > 1048576
   ·rw [decide_eq_true (show 1048576 < m.f4.length by omega)]
    exact Ev.congr (fun k => by unfold member_Good.f; rw [mclean_f _ hz.1, Option.bind_some, hc, if_pos rfl, mmeta_f, Option.bind_some, hm, if_pos rfl, if_pos a]) (mj0_f m true hz)
   ·by_cases b : m.f2 = 48
    ·rw [decide_eq_false (show ¬ 1048576 < m.f4.length by omega), decide_eq_true b]
     exact Ev.congr (fun k => by unfold member_Good.f; rw [mclean_f _ hz.1, Option.bind_some, hc, if_pos rfl, mmeta_f, Option.bind_some, hm, if_pos rfl, if_neg a, if_pos b]) (mj0_f m false hz)
    ·have e : decide ((m.f4.length : Int) > 0) = decide (0 < m.f4.length) := decide_eq_decide.2 (by omega)
     rw [decide_eq_false (show ¬ 1048576 < m.f4.length by omega), decide_eq_false b]
     simp only [Bool.true_and, Bool.false_or, Bool.not_false]
     refine Ev.congr (fun k => ?_) (mj0_f m (decide (0 < m.f4.length)) hz)
     unfold member_Good.f
     rw [mclean_f _ hz.1, Option.bind_some, hc, if_pos rfl, mmeta_f, Option.bind_some, hm, if_pos rfl, if_neg a, if_neg b, e]
end Go.Proofs.YtiijbmaamblidaaDoor

namespace Go.Proofs.YtiijbmaamblidaaDoor
open Go.RowKit Go.Maps Go.Proofs.YtiijbmaamblidaaDoor.Print Go.Proofs.YtiijbmaamblidaaDoorW.PrintWords Go.Proofs.YtiijbmaamblidaaDoorW.PrintLast Go.Proofs.YtiijbmaamblidaaDoorW.PrintMore
set_option linter.unusedVariables false
set_option linter.unusedSimpArgs false
theorem rdM_at (l : List Mem) (i : Int) (h0 : 0 ≤ i) (h1 : i < l.length) : rd_T27 l i = l[i.toNat]'(by omega) := by
 unfold rd_T27
 rw [List.getD_eq_getElem?_getD, List.getElem?_eq_getElem (by omega)]
 rfl
theorem bcell {W w1 : World} (hb : Below W.heap.size W w1) : (∀ b o, b < W.heap.size → w1.cell? ⟨b, o, none⟩ = W.cell? ⟨b, o, none⟩) ∧ (∀ b o, b < W.heap.size → w1.frozen? ⟨b, o, none⟩ = W.frozen? ⟨b, o, none⟩) :=
 ⟨fun b o h => hb.cell (p := ⟨b, o, none⟩) h, fun b o h => hb.frozen (p := ⟨b, o, none⟩) h⟩
end Go.Proofs.YtiijbmaamblidaaDoor

namespace Go.Proofs.YtiijbmaamblidaaDoor
open Go.RowKit Go.Maps Go.Proofs.YtiijbmaamblidaaDoor.Print Go.Proofs.YtiijbmaamblidaaDoorW.PrintWords Go.Proofs.YtiijbmaamblidaaDoorW.PrintLast Go.Proofs.YtiijbmaamblidaaDoorW.PrintMore
set_option linter.unusedVariables false
set_option linter.unusedSimpArgs false
set_option maxRecDepth 100000 in
set_option maxHeartbeats 1000000 in
theorem Clone_calls (A : Option Addr) (c : Nat) (xs : List Int) (W : World) (hC : Kd.C (Kd.int .u8) W A xs.length xs) (hl : xs.length ≤ 140737488351232) :
  Calls Tryd.prog 40 #[.slice A xs.length c] W fun e W' => ∃ v, e = .returned v ∧ Kd.R (Kd.int .u8) 5 W' W.heap.size (fun _ => True) v xs ∧ Below W.heap.size W W' := by
 rcases A with _ | ad
 ·have h0 : xs = [] := by
   rcases Nat.eq_zero_or_pos xs.length with h | h
   ·exact List.eq_nil_of_length_eq_zero h
   ·obtain ⟨ad, h1, _⟩ := hC.2.2 h
    cases h1
  subst h0
  have hcmp := fun (w : World) => Lib.run_eql_slice_nil (P := Tryd.prog) w 25 5 none 0 c 0 0 Tryd.underlying25
  go_enter Tryd.func40, Tryd.ntmps40
  go_wp2
  go_ret
  exact ⟨_, rfl, Kd.R_nil _ _ _ _ _, Below.refl _ _⟩
 ·have hcmp := fun (w : World) => Lib.run_eql_slice_nil (P := Tryd.prog) w 25 5 (some ad) xs.length c 0 0 Tryd.underlying25
  have hown := own_lit W W.heap.size 5 .u8 [] (Nat.le_refl _) (by decide)
  have HC := Aside0.mk hC
  have HO := Aside0.mk hown
  clear hC hown
  go_enter Tryd.func40, Tryd.ntmps40
  go_wp2_with (at_builtin; refine Kd.R_append_row (Value.int .u8) (0 : Int) (h1 := fun _ => rfl) (w0 := W) W.heap.size rfl _ _ 25 5 (.int .u8 0) 1 rfl Tryd.underlying25 infoU8 rfl (by decide) (.slice (some ⟨W.heap.size, 0, none⟩) 0 0) [] xs (some ad) xs.length c (fun _ => True) rfl rfl (fun _ _ => trivial) (Kd.R_of_own (enc := Value.int .u8) (h1 := fun _ => rfl) HO.out (fun _ _ => trivial)) (Kd.C_alloc HC.out _) ((Below.refl _ _).alloc (Nat.le_refl _) _) (by simp) (by simp; omega) ?_; intro v1 w1 hr1 hb1 hg1 hat1)
  go_ret
  exact ⟨_, rfl, hr1, hb1⟩
end Go.Proofs.YtiijbmaamblidaaDoor

namespace Go.Proofs.YtiijbmaamblidaaDoor
open Go.RowKit Go.Maps Go.Proofs.YtiijbmaamblidaaDoor.Print Go.Proofs.YtiijbmaamblidaaDoorW.PrintWords Go.Proofs.YtiijbmaamblidaaDoorW.PrintLast Go.Proofs.YtiijbmaamblidaaDoorW.PrintMore
set_option linter.unusedVariables false
set_option linter.unusedSimpArgs false
theorem Find1_calls (x : Node) (A : Option Addr) (n c : Nat) (p : ByteArray) (W : World) :
  Calls Tryd.prog 57 #[.agg #[.string x.f0, .string x.f1, .string x.f2, .int .u8 x.f3, .int .i64 x.f4.f0, .int .i64 x.f4.f1, .int .i64 x.f4.f2, .int .i64 x.f4.f3, .slice A n c], .string p] W fun e W' =>
   e = .returned (.int .i64 (Lib.compareBytes x.f0.data.toList p.data.toList)) ∧ Below W.heap.size W W' := by
 go_enter Tryd.func57, Tryd.ntmps57
 go_wp2_with (go_at_call 58; refine (Tryd.strings_Compare _ _ _).mono ?_; rintro e w' ⟨rfl, rfl⟩)
 go_ret
 exact ⟨rfl, (Below.refl _ _).alloc (Nat.le_refl _) _⟩
theorem rdN_at (l : List Node) (i : Int) (h0 : 0 ≤ i) (h1 : i < l.length) : rd_T38 l i = l[i.toNat]'(by omega) := by
 unfold rd_T38
 rw [List.getD_eq_getElem?_getD, List.getElem?_eq_getElem (by omega)]
 rfl
def FoundAt (l : List Node) (p : ByteArray) (n : Int) (b : Bool) : Prop :=
 0 ≤ n ∧ n ≤ l.length ∧ (b = true ↔ ∃ h : n.toNat < l.length, l[n.toNat].f0.toList = p.toList) ∧ (b = false → ∀ (i : Nat) (hi : i < l.length), l[i].f0.toList ≠ p.toList)
def SearchRel (l : List Node) (p : ByteArray) (W : World) (i j : Int) (wr : World) : Prop :=
 0 ≤ i ∧ i ≤ j ∧ j ≤ l.length ∧ (∀ (t : Nat) (ht : t < l.length), (t : Int) < i → lt l[t].f0 p = true) ∧ (∀ (t : Nat) (ht : t < l.length), j ≤ (t : Int) → lt l[t].f0 p = false) ∧ Below W.heap.size W wr
set_option maxRecDepth 100000 in
set_option maxHeartbeats 2000000 in
theorem Search_calls (A0 : Option Addr) (c0 : Nat) (l : List Node) (p : ByteArray) (W : World) (hC : Kd.C k38 W A0 l.length l) (hr : riseB l = true) (hz : NodesZ l) :
  Calls Tryd.prog 56 #[.slice A0 l.length c0, .string p, .func (.func 57) #[] #[]] W fun e W' => ∃ n b, e = .returned (.tuple #[.int .i64 n, .bool b]) ∧ FoundAt l p n b ∧ Below W.heap.size W W' := by
 have HC := Aside0.mk hC
 have HZ := Aside0.mk hz
 have HRI := Aside0.mk hr
 have hlen : (l.length : Int) ≤ 1000000000000 := by have := hz.1; omega
 clear hC hr hz
 generalize hpost : (fun (e : Ending) (W' : World) => ∃ n b, e = .returned (.tuple #[.int .i64 n, .bool b]) ∧ FoundAt l p n b ∧ Below W.heap.size W W') = Q
 have hQ := Aside0.mk hpost
 clear hpost
 go_enter Tryd.func56, Tryd.ntmps56
 go_wp2
 go_loopw [9, 10] (fun i j wr => ∃ n m : Int, i = .int .i64 n ∧ j = .int .i64 m ∧ Aside0 (SearchRel l p W n m wr)) (fun i j _ => (intOf j - intOf i).toNat)
 case atStart => exact ⟨0, _, rfl, rfl, ⟨⟨by omega, by omega, by omega, fun t ht h => by omega, fun t ht h => by omega, Below.refl _ _⟩⟩⟩
 case round =>
  obtain ⟨n, m, rfl, rfl, HR⟩ := hrel
  have h0 := HR.out.1
  have h1 := HR.out.2.1
  have h2 := HR.out.2.2.1
  have HB := Aside0.mk HR.out.2.2.2.2.2
  by_cases hlt : n < m
  ·have c1 : decide (n < m) = true := decide_eq_true hlt
   have hh0 : 0 ≤ (n + m) / 2 := by omega
   have hh1 : (n + m) / 2 < (l.length : Int) := by omega
   obtain ⟨ad, A7, c7, rfl, x0, x1, x2, x3, x4, x5, x6, x7, x8, hl7, hC7⟩ := at_T38 (Kd.C_below HC.out HB.out) ((n + m) / 2) hh0 hh1
   have hx := rdN_at l _ hh0 hh1
   generalize rd_T38 l ((n + m) / 2) = x at hx x0 x1 x2 x3 x4 x5 x6 x7 x8 hl7 hC7
   have HX := Aside0.mk hx
   clear hx hC7 hl7
   go_wp2_with (go_at_call 57; refine (Find1_calls x A7 x.f5.length c7 p _).mono ?_; rintro e w' ⟨rfl, hb⟩)
   ·have hn : Lib.compareBytes x.f0.data.toList p.data.toList < 0 := by assumption
    have hltx : lt x.f0 p = true := by rw [lt_data]; exact (cmp_neg _ _).1 hn
    have hfin : SearchRel l p W ((n + m) / 2 + 1) m w' := by
     refine ⟨by omega, by omega, h2, fun t ht h => ?_, HR.out.2.2.2.2.1, HB.out.trans (hb.mono HB.out.size)⟩
     rcases Nat.lt_or_ge t ((n + m) / 2).toNat with h3 | h3
     ·have := riseB_at HRI.out t ((n + m) / 2).toNat ht (by omega) h3
      rw [← HX.out] at this
      exact lt_trans this hltx
     ·have e : t = ((n + m) / 2).toNat := by omega
      subst e
      rw [← HX.out]; exact hltx
    clear hltx hn hb
    go_roundw
    case rel => exact ⟨_, _, rfl, rfl, ⟨hfin⟩⟩
    case measure => simp [intOf]; omega
   ·have hn : 0 ≤ Lib.compareBytes x.f0.data.toList p.data.toList := by assumption
    have hltx : lt x.f0 p = false := by
     rw [lt_data, Bool.eq_false_iff]
     intro h
     have := (cmp_neg _ _).2 h
     omega
    have hfin : SearchRel l p W n ((n + m) / 2) w' := by
     refine ⟨h0, by omega, by omega, HR.out.2.2.2.1, fun t ht h => ?_, HB.out.trans (hb.mono HB.out.size)⟩
     rcases Nat.lt_or_ge ((n + m) / 2).toNat t with h3 | h3
     ·have := riseB_at HRI.out ((n + m) / 2).toNat t (by omega) ht h3
      rw [← HX.out] at this
      cases h4 : lt l[t].f0 p with
      | false => rfl
      | true =>
       have := lt_trans this h4
       rw [hltx] at this
       cases this
     ·have e : t = ((n + m) / 2).toNat := by omega
      subst e
      rw [← HX.out]; exact hltx
    clear hltx hn hb
    go_roundw
    case rel => exact ⟨_, _, rfl, rfl, ⟨hfin⟩⟩
    case measure => simp [intOf]; omega
  ·have c1 : decide (n < m) = false := decide_eq_false hlt
   obtain rfl : n = m := by omega
   by_cases hnl : n < (l.length : Int)
   ·have c2 : decide (n < (l.length : Int)) = true := decide_eq_true hnl
    obtain ⟨ad, A7, c7, rfl, x0, x1, x2, x3, x4, x5, x6, x7, x8, hl7, hC7⟩ := at_T38 (Kd.C_below HC.out HB.out) n h0 hnl
    have hx := rdN_at l _ h0 hnl
    generalize rd_T38 l n = x at hx x0 x1 x2 x3 x4 x5 x6 x7 x8 hl7 hC7
    have HX := Aside0.mk hx
    clear hx hC7 hl7
    go_wp2_with (go_at_call 57; refine (Find1_calls x A7 x.f5.length c7 p _).mono ?_; rintro e w' ⟨rfl, hb⟩)
    rw [← hQ.out]
    refine ⟨n, _, rfl, ⟨h0, h2, ?_, ?_⟩, HB.out.trans (hb.mono HB.out.size)⟩
    ·rw [beq_iff_eq, cmp_zero, ← Lib.toList_data, ← Lib.toList_data]
     constructor
     ·intro h; exact ⟨by omega, by rw [← HX.out]; exact h⟩
     ·rintro ⟨_, h⟩; rw [← HX.out] at h; exact h
    ·intro h i hi he
     rw [beq_eq_false_iff_ne, ne_eq, cmp_zero, ← Lib.toList_data, ← Lib.toList_data] at h
     rcases Nat.lt_trichotomy i n.toNat with h3 | h3 | h3
     ·exact lt_ne (HR.out.2.2.2.1 i hi (by omega)) he
     ·subst h3; rw [← HX.out] at he; exact h he
     ·have h4 := riseB_at HRI.out n.toNat i (by omega) hi h3
      have h5 := HR.out.2.2.2.2.1 n.toNat (by omega) (by omega)
      have h6 : lt l[n.toNat].f0 p = lt l[n.toNat].f0 l[i].f0 := by unfold lt; rw [he]
      rw [h6, h4] at h5
      cases h5
   ·have c2 : decide (n < (l.length : Int)) = false := decide_eq_false hnl
    go_wp2
    rw [← hQ.out]
    refine ⟨n, false, rfl, ⟨h0, h2, ⟨fun h => (by cases h), fun ⟨h, _⟩ => absurd h (by omega)⟩, fun _ i hi he => ?_⟩, HB.out⟩
    exact lt_ne (HR.out.2.2.2.1 i hi (by omega)) he
theorem below_put {B : Nat} {a w : World} (h : Below B a w) (g j : Nat) (hg : B ≤ g) (u : Value) : Below B a (w.setCell ⟨g, j, none⟩ u) := h.setCell (p := ⟨g, j, none⟩) hg u
theorem row_put {α : Type} {d : Kd α} {e base B : Nat} {w : World} {v : Value} {xs : List α} (h : d.R e w base (fun k => B ≤ k) v xs) (g j : Nat) (hg : g < B) (u : Value) : d.R e (w.setCell ⟨g, j, none⟩ u) base (fun k => B ≤ k) v xs :=
 Kd.R_far h (p := ⟨g, j, none⟩) (fun k hk e => by have : k = g := e; omega) u
def nodeCells (x : Node) (v : Value) : Array Value := #[.string x.f0, .string x.f1, .string x.f2, .int .u8 x.f3, .int .i64 x.f4.f0, .int .i64 x.f4.f1, .int .i64 x.f4.f2, .int .i64 x.f4.f3, v]
set_option maxRecDepth 100000 in
set_option maxHeartbeats 2000000 in
theorem Find_calls (A0 : Option Addr) (c0 : Nat) (l : List Node) (p : ByteArray) (W : World) (hC : Kd.C k38 W A0 l.length l) (hr : riseB l = true) (hz : NodesZ l) :
  Calls Tryd.prog 43 #[.slice A0 l.length c0, .string p] W fun e W' => ∃ x b v, (match findF l p with | some y => x = y ∧ b = true | none => x = z38 ∧ b = false) ∧ e = .returned (.tuple #[.agg (nodeCells x v), .bool b]) ∧ Kd.R (Kd.int .u8) 5 W' W.heap.size (fun _ => True) v x.f5 ∧ Below W.heap.size W W' := by
 have cS := fun W2 (h : Kd.C k38 W2 A0 l.length l) => Search_calls A0 c0 l p W2 h hr hz
 have HC := Aside0.mk hC
 have HZ := Aside0.mk hz
 have HS := Aside0.mk cS
 have HRI := Aside0.mk hr
 have hlen : (l.length : Int) ≤ 1000000000000 := by have := hz.1; omega
 clear hC hz cS hr
 generalize hpost : (fun (e : Ending) (W' : World) => ∃ x b v, (match findF l p with | some y => x = y ∧ b = true | none => x = z38 ∧ b = false) ∧ e = .returned (.tuple #[.agg (nodeCells x v), .bool b]) ∧ Kd.R (Kd.int .u8) 5 W' W.heap.size (fun _ => True) v x.f5 ∧ Below W.heap.size W W') = Q
 have hQ := Aside0.mk hpost
 clear hpost
 go_enter Tryd.func43, Tryd.ntmps43
 go_wp2_with (first
  | (go_at_call 56; refine (HS.out _ (Kd.C_alloc HC.out _)).mono ?_; rintro e w1 ⟨n, b, rfl, hF, hb1⟩; have HF := Aside0.mk hF; clear hF; obtain ⟨hc1, hf1⟩ := bcell hb1; have hz1 : W.heap.size < w1.heap.size := Nat.lt_of_lt_of_le (by simp) hb1.size; have HB1 := Aside0.mk hb1; clear hb1; cases b; all_goals (first | (obtain ⟨hnl, he⟩ := HF.out.2.2.1.1 rfl; have h0 := HF.out.1; have h1 : n < (l.length : Int) := (by omega); have HE := Aside0.mk he; clear he; obtain ⟨ad, A7, c7, rfl, x0, x1, x2, x3, x4, x5, x6, x7, x8, hl7, hC7⟩ := at_T38 (Kd.C_below HC.out (((Below.refl _ _).alloc (Nat.le_refl _) _).trans (HB1.out.mono (by simp)))) n h0 h1; have hx := rdN_at l _ h0 h1; generalize rd_T38 l n = x at hx x0 x1 x2 x3 x4 x5 x6 x7 x8 hl7 hC7; have HX := Aside0.mk hx; have HC7 := Aside0.mk hC7; clear hx hC7) | skip))
  | (go_at_call 40; refine (Clone_calls A7 c7 x.f5 _ (Kd.C_alloc HC7.out _) (by rw [HX.out]; exact (HZ.out.2 _ (List.getElem_mem _)).2.2.2)).mono ?_; rintro e w2 ⟨v, rfl, hR2, hb2⟩; obtain ⟨Av, cv, rfl, hlv, hCv⟩ := Kd.R_reads hR2; clear hlv hCv; obtain ⟨hc2, hf2⟩ := bcell hb2; have HR2 := Aside0.mk hR2; have HB2 := Aside0.mk hb2; clear hR2 hb2))
 ·have hB1 := ((Below.refl W.heap.size W).alloc (Nat.le_refl _) _).trans (HB1.out.mono (by simp))
  refine bodyPost_ret (v := .tuple #[.agg (nodeCells z38 (.slice none 0 0)), .bool false]) (by simp [results, Tryd.results43, go_sem, hc1, hz1, nodeCells, z38, z24]) rfl ?_
  have hfn := findF_none p (HF.out.2.2.2 rfl)
  rw [← hQ.out]
  refine ⟨z38, false, .slice none 0 0, by rw [hfn]; exact ⟨rfl, rfl⟩, rfl, Kd.R_nil _ _ _ _ _, ?_⟩
  repeat (with_reducible refine below_put ?_ _ _ (Nat.le_refl _) _)
  exact hB1
 ·have hB1 := ((Below.refl W.heap.size W).alloc (Nat.le_refl _) _).trans (HB1.out.mono (by simp))
  have hB2 := (hB1.alloc (by have := hB1.size; omega) _).trans (HB2.out.mono (by have := hB1.size; simp; omega))
  have hw2 := fun j => (hc2 W.heap.size j (by simp; omega)).trans ((((Below.refl w1.heap.size w1).alloc (Nat.le_refl _) _).cell (p := ⟨W.heap.size, j, none⟩) hz1).trans (hc1 W.heap.size j (by simp)))
  have hne1 : ¬ w1.heap.size = W.heap.size := by omega
  have hne2 : ¬ W.heap.size = w1.heap.size := by omega
  clear hc1 hf1 hc2 hf2
  refine bodyPost_ret (v := .tuple #[.agg (nodeCells x (.slice Av x.f5.length cv)), .bool true]) (by simp [results, Tryd.results43, go_sem, hw2, hne1, hne2, nodeCells]) rfl ?_
  have hfn := findF_at HRI.out p n.toNat hnl HE.out
  rw [← hQ.out]
  refine ⟨x, true, .slice Av x.f5.length cv, by rw [hfn, ← HX.out]; exact ⟨rfl, rfl⟩, rfl, ?_, ?_⟩
  ·have hR : (Kd.int .u8).R 5 w2 (w1.heap.size + 1) (fun k => w1.heap.size + 1 ≤ k) (.slice Av x.f5.length cv) x.f5 := Kd.R_mono (Kd.R_bound (by have := HR2.out; simpa using this)) (fun k hk => hk.2.1)
   refine Kd.R_lower (base := w1.heap.size + 1) (Kd.R_mono (ok := fun k => w1.heap.size + 1 ≤ k) ?_ (fun _ _ => trivial)) (by omega)
   repeat (with_reducible refine row_put ?_ _ _ (by omega) _)
   exact hR
  ·repeat (with_reducible refine below_put ?_ _ _ (by omega) _)
   exact hB2
end Go.Proofs.YtiijbmaamblidaaDoor

namespace Go.Proofs.YtiijbmaamblidaaDoor
open Go.RowKit Go.Maps Go.Proofs.YtiijbmaamblidaaDoor.Print Go.Proofs.YtiijbmaamblidaaDoorW.PrintWords Go.Proofs.YtiijbmaamblidaaDoorW.PrintLast Go.Proofs.YtiijbmaamblidaaDoorW.PrintMore
set_option linter.unusedVariables false
set_option linter.unusedSimpArgs false
theorem zeroStr (w : World) : (zeroValue 9).run Tryd.prog w = .ok (.string ⟨#[]⟩) w := by kernel_rfl
theorem zeroBool (w : World) : (zeroValue 4).run Tryd.prog w = .ok (.bool false) w := by kernel_rfl
def firstV (f : List (List UInt8 × ByteArray)) : List UInt8 → Option Value := fun s => (lk f s).map Value.string
theorem firstV_put (f : List (List UInt8 × ByteArray)) (s : List UInt8) (v : ByteArray) (t : List UInt8) : putS (firstV f) s (.string v) t = firstV ((s, v) :: f) t := by
 unfold putS firstV
 rw [lk]
 by_cases h : t = s
 ·rw [if_pos h, if_pos h]; rfl
 ·rw [if_neg h, if_neg h]
theorem gcell {W w1 : World} {b : Nat} (hg : W.grownBy w1 (some b)) : (∀ g o, g < W.heap.size → g ≠ b → w1.cell? ⟨g, o, none⟩ = W.cell? ⟨g, o, none⟩) ∧ (∀ g o, g < W.heap.size → g ≠ b → w1.frozen? ⟨g, o, none⟩ = W.frozen? ⟨g, o, none⟩) := by
 constructor
 ·intro g o h hne
  have := hg.block g h (by simpa using fun e => hne e)
  unfold World.cell?
  dsimp only
  rw [this]
 ·intro g o h hne
  have := hg.block g h (by simpa using fun e => hne e)
  unfold World.frozen?
  dsimp only
  rw [this]
theorem map_put {P : Program} {K : TypeId} {w : World} {b n : Nat} {f : List UInt8 → Option Value} (h : MapS P K w b n f) (g j : Nat) (hg : b < g) (u : Value) : MapS P K (w.setCell ⟨g, j, none⟩ u) b n f :=
 h.setCell (a := ⟨g, j, none⟩) (by show b ≠ g; omega) u
theorem int_kept {P : Program} {K : TypeId} {w w1 : World} {b n0 : Nat} {f : List UInt8 → Option Value} (hM : MapS P K w b n0 f) (hg : w.grownBy w1 (some b)) {k : IntKind} {A : Option Addr} {n : Nat} {xs : List Int} (h : Kd.C (Kd.int k) w A n xs) : Kd.C (Kd.int k) w1 A n xs := by
 obtain ⟨D, ⟨es, clock, hb, _⟩, _⟩ := hM
 refine ⟨h.1, h.2.1, fun hn => ?_⟩
 obtain ⟨ad, e, hc⟩ := h.2.2 hn
 refine ⟨ad, e, fun j p hj => ?_⟩
 obtain ⟨c, hs, hr, hcell⟩ := hc j p hj
 refine ⟨c, hs, hr, fun i u hu => ?_⟩
 have h1 := hcell i u hu
 have hlt : (ad.add (j * Kd.sz (Kd.int k) + i)).block < w.heap.size := by
  unfold World.cell? at h1
  rcases Nat.lt_or_ge (ad.add (j * Kd.sz (Kd.int k) + i)).block w.heap.size with h2 | h2
  ·exact h2
  ·rw [Array.getElem?_eq_none (by omega)] at h1; cases h1
 have hne : (ad.add (j * Kd.sz (Kd.int k) + i)).block ≠ b := by
  intro e2
  unfold World.cell? at h1
  rw [e2, hb] at h1
  cases h1
 rw [← h1]
 unfold World.cell?
 rw [hg.block _ hlt (by simpa using hne)]
theorem grown_add {W w w' : World} {row : Option Nat} (h : W.grownBy w row) (hb : Below W.heap.size w w') : W.grownBy w' row :=
 ⟨hb.os.trans h.os, hb.tape.trans h.tape, hb.output.trans h.output, Nat.le_trans h.size hb.size, fun k hk hr => (hb.block k hk).trans (h.block k hk hr)⟩
theorem grown_put {W w : World} {row : Option Nat} (h : W.grownBy w row) (g j : Nat) (hg : W.heap.size ≤ g) (u : Value) : W.grownBy (w.setCell ⟨g, j, none⟩ u) row := grown_add h (below_put (Below.refl _ _) g j hg u)
def memCells (m : Mem) (v : Value) : Array Value := #[.string m.f0, .string m.f1, .int .u8 m.f2, .int .i64 m.f3.f0, .int .i64 m.f3.f1, .int .i64 m.f3.f2, .int .i64 m.f3.f3, v]
set_option maxRecDepth 100000 in
set_option maxHeartbeats 2000000 in
theorem Member_calls (b k : Nat) (f : List (List UInt8 × ByteArray)) (x : Node) (A : Option Addr) (c : Nat) (W : World) (hM : MapS Tryd.prog 9 W b k (firstV f)) (hk : k < 1000000000000) (hC : Kd.C (Kd.int .u8) W A x.f5.length x.f5) (hz : NodeZ x) :
  Calls Tryd.prog 44 #[.map (some b), .agg (nodeCells x (.slice A x.f5.length c))] W fun e W' => ∃ v, e = .returned (.agg (memCells (memF f x).1 v)) ∧ Kd.R (Kd.int .u8) 5 W' W.heap.size (fun _ => True) v (memF f x).1.f4 ∧
   MapS Tryd.prog 9 W' b (k + 1) (firstV (memF f x).2) ∧ W.grownBy W' (some b) := by
 have hb : b < W.heap.size := hM.lt
 have hs2 : x.f2.size ≤ maxLen := by have := hz.2.2.1; unfold maxLen; omega
 have hlook := fun o1 o2 o3 => (((hM.alloc o1).alloc o2).alloc o3).look_ok Tryd.underlying9 Tryd.underlying78 (zeroStr _) hs2
 have HM := Aside0.mk hM
 have HC := Aside0.mk hC
 have HZ := Aside0.mk hz
 clear hM hC hz
 generalize hpost : (fun (e : Ending) (W' : World) => ∃ v, e = .returned (.agg (memCells (memF f x).1 v)) ∧ Kd.R (Kd.int .u8) 5 W' W.heap.size (fun _ => True) v (memF f x).1.f4 ∧
   MapS Tryd.prog 9 W' b (k + 1) (firstV (memF f x).2) ∧ W.grownBy W' (some b)) = Q
 have hQ := Aside0.mk hpost
 clear hpost
 unfold nodeCells
 by_cases h48 : x.f3 = 48
 ·have e48 : (x.f3 == 48) = true := beq_iff_eq.2 h48
  cases ht : (firstV f x.f2.data.toList) with
  | some v =>
   obtain ⟨q, rfl, hq⟩ : ∃ q, v = Value.string q ∧ lk f x.f2.data.toList = some q := by
    unfold firstV at ht
    cases hk : lk f x.f2.data.toList with
    | none => rw [hk] at ht; cases ht
    | some q => rw [hk] at ht; cases ht; exact ⟨q, rfl, rfl⟩
   simp only [ht, Option.getD_some, Option.isSome_some] at hlook
   have HQL := Aside0.mk hq
   have H48 := Aside0.mk h48
   clear ht hq h48
   go_enter Tryd.func44, Tryd.ntmps44
   go_wp2
   have hmf : memF f x = (⟨x.f0, q, 49, x.f4, []⟩, f) := by unfold memF; rw [if_pos H48.out]; simp only [HQL.out]
   refine bodyPost_ret (v := .agg (memCells (memF f x).1 (.slice none 0 0))) (by simp [results, Tryd.results44, go_sem, memCells, hmf]) rfl ?_
   rw [← hQ.out]
   refine ⟨.slice none 0 0, rfl, by rw [hmf]; exact Kd.R_nil _ _ _ _ _, ?_, grown_of_below ?_ _⟩
   ·rw [hmf]
    refine MapS.mono ?_ (Nat.le_succ k)
    repeat (first | with_reducible refine MapS.alloc ?_ _ | with_reducible refine map_put ?_ _ _ (by omega) _)
    exact HM.out
   ·repeat (first | with_reducible refine below_alloc ?_ _ | with_reducible refine below_put ?_ _ _ (by omega) _)
    exact Below.refl _ _
  | none =>
   have hq : lk f x.f2.data.toList = none := by
    unfold firstV at ht
    cases hk : lk f x.f2.data.toList with
    | none => rfl
    | some q => rw [hk] at ht; cases ht
   simp only [ht, Option.getD_none, Option.isSome_none] at hlook
   have HQL := Aside0.mk hq
   have H48 := Aside0.mk h48
   clear ht hq h48
   have hmf : memF f x = (⟨x.f0, x.f1, 48, x.f4, x.f5⟩, (x.f2.data.toList, x.f0) :: f) := by unfold memF; rw [if_pos H48.out]; simp only [HQL.out]
   have HMF := Aside0.mk hmf
   clear hmf
   have hMa := fun o1 o2 o3 => ((HM.out.alloc o1).alloc o2).alloc o3
   have HMA := Aside0.mk hMa
   clear hMa
   have hn0 : ¬ W.heap.size = b := by omega
   have hn1 : ¬ W.heap.size + 1 = b := by omega
   have hn2 : ¬ W.heap.size + 2 = b := by omega
   go_enter Tryd.func44, Tryd.ntmps44
   go_wp2_with (first
    | (at_mapUpdate; refine MapS.wpput (HMA.out _ _ _) rfl _ _ _ rfl Tryd.underlying9 Tryd.underlying78 (by unfold maxLen; omega) rfl rfl hs2 rfl ?_; intro w5 hM5 hturn5; obtain ⟨hc5, hf5⟩ := gcell hturn5.grown; have hz5 := hturn5.grown.size; simp only [World.size_alloc] at hz5; have hp0 : W.heap.size < w5.heap.size := (by omega); have hp1 : W.heap.size + 1 < w5.heap.size := (by omega); have hp2 : W.heap.size + 1 + 1 < w5.heap.size := (by omega); have HM5 := Aside0.mk hM5; have HG5 := Aside0.mk hturn5.grown; clear hM5 hturn5)
    | (go_at_call 40; refine (Clone_calls A c x.f5 _ (int_kept (HMA.out _ _ _) HG5.out (Kd.C_alloc (Kd.C_alloc (Kd.C_alloc HC.out _) _) _)) (HZ.out.2.2.2)).mono ?_; rintro e w6 ⟨v, rfl, hR6, hb6⟩; obtain ⟨Av, cv, rfl, hlv, hCv⟩ := Kd.R_reads hR6; clear hlv hCv; obtain ⟨hc6, hf6⟩ := bcell hb6; have HR6 := Aside0.mk hR6; have HB6 := Aside0.mk hb6; clear hR6 hb6))
   refine bodyPost_ret (v := .agg (memCells (memF f x).1 (.slice Av x.f5.length cv))) (by simp [results, Tryd.results44, go_sem, hc6, hc5, hn0, hn1, hn2, hp0, hp1, hp2, memCells, HMF.out, H48.out]) rfl ?_
   rw [← hQ.out]
   refine ⟨.slice Av x.f5.length cv, rfl, ?_, ?_, ?_⟩
   ·rw [HMF.out]
    refine Kd.R_lower (base := w5.heap.size) (Kd.R_mono (ok := fun k => w5.heap.size ≤ k) ?_ (fun _ _ => trivial)) (by omega)
    repeat (with_reducible refine row_put ?_ _ _ (by omega) _)
    exact Kd.R_mono (Kd.R_bound HR6.out) (fun k hk => hk.2.1)
   ·rw [HMF.out]
    refine MapS.ext ?_ (firstV_put f x.f2.data.toList x.f0)
    repeat (with_reducible refine map_put ?_ _ _ (by omega) _)
    exact HM5.out.below HB6.out
   ·repeat (with_reducible refine grown_put ?_ _ _ (by omega) _)
    refine grown_add ?_ (HB6.out.mono (by omega))
    refine World.grownBy.trans (grown_of_below ?_ _) HG5.out
    repeat (first | with_reducible refine below_alloc ?_ _ | with_reducible refine below_put ?_ _ _ (by omega) _)
    exact Below.refl _ _
 ·have e48 : (x.f3 == 48) = false := beq_eq_false_iff_ne.2 h48
  have hmf : memF f x = (⟨x.f0, x.f1, x.f3, x.f4, x.f5⟩, f) := by unfold memF; rw [if_neg h48]
  have HMF := Aside0.mk hmf
  clear hmf h48
  go_enter Tryd.func44, Tryd.ntmps44
  go_wp2_with (go_at_call 40; refine (Clone_calls A c x.f5 _ (Kd.C_alloc (Kd.C_alloc (Kd.C_alloc HC.out _) _) _) (HZ.out.2.2.2)).mono ?_; rintro e w6 ⟨v, rfl, hR6, hb6⟩; obtain ⟨Av, cv, rfl, hlv, hCv⟩ := Kd.R_reads hR6; clear hlv hCv; obtain ⟨hc6, hf6⟩ := bcell hb6; have HR6 := Aside0.mk hR6; have HB6 := Aside0.mk hb6; clear hR6 hb6)
  refine bodyPost_ret (v := .agg (memCells (memF f x).1 (.slice Av x.f5.length cv))) (by simp [results, Tryd.results44, go_sem, hc6, memCells, HMF.out]) rfl ?_
  rw [← hQ.out]
  refine ⟨.slice Av x.f5.length cv, rfl, ?_, ?_, ?_⟩
  ·rw [HMF.out]
   have hR6 := HR6.out
   simp only [World.size_alloc] at hR6
   refine Kd.R_lower (base := W.heap.size + 1 + 1 + 1) (Kd.R_mono (ok := fun k => W.heap.size + 1 + 1 + 1 ≤ k) ?_ (fun _ _ => trivial)) (by omega)
   repeat (with_reducible refine row_put ?_ _ _ (by omega) _)
   exact Kd.R_mono (Kd.R_bound hR6) (fun k hk => hk.2.1)
  ·rw [HMF.out]
   refine MapS.mono ?_ (Nat.le_succ k)
   repeat (with_reducible refine map_put ?_ _ _ (by omega) _)
   exact (((HM.out.alloc _).alloc _).alloc _).below HB6.out
  ·repeat (with_reducible refine grown_put ?_ _ _ (by omega) _)
   refine grown_add ?_ (HB6.out.mono (by simp only [World.size_alloc]; omega))
   refine grown_of_below ?_ _
   repeat (first | with_reducible refine below_alloc ?_ _ | with_reducible refine below_put ?_ _ _ (by omega) _)
   exact Below.refl _ _
end Go.Proofs.YtiijbmaamblidaaDoor

namespace Go.Proofs.YtiijbmaamblidaaDoor
open Go.RowKit Go.Maps Go.Proofs.YtiijbmaamblidaaDoor.Print Go.Proofs.YtiijbmaamblidaaDoorW.PrintWords Go.Proofs.YtiijbmaamblidaaDoorW.PrintLast Go.Proofs.YtiijbmaamblidaaDoorW.PrintMore
set_option linter.unusedVariables false
set_option linter.unusedSimpArgs false
def seenV (f : List ByteArray) : List UInt8 → Option Value := fun s => if f.any (fun q => decide (q.toList = s)) = true then some (.bool true) else none
theorem seenV_put (f : List ByteArray) (p : ByteArray) (t : List UInt8) : putS (seenV f) p.data.toList (.bool true) t = seenV (p :: f) t := by
 unfold putS seenV
 rw [List.any_cons, Lib.toList_data]
 by_cases h : t = p.data.toList
 ·rw [if_pos h, if_pos (by simp [h])]
 ·rw [if_neg h, decide_eq_false (fun e => h e.symm), Bool.false_or]
theorem findF_some {l : List Node} {p : ByteArray} {x : Node} (h : findF l p = some x) : x ∈ l ∧ x.f0.toList = p.toList := by
 unfold findF at h
 exact ⟨List.mem_of_find?_eq_some h, by simpa using List.find?_some h⟩
theorem foldlM_take {α β : Type} (g : β → α → Option β) (z : β) (l : List α) (i : Nat) (hi : i < l.length) {f : β} (h : (l.take i).foldlM g z = some f) : (l.take (i + 1)).foldlM g z = g f l[i] := by
 rw [List.take_add_one, List.getElem?_eq_getElem hi, List.foldlM_append, h]
 simp
theorem foldlM_none {α β : Type} (g : β → α → Option β) (z : β) (l : List α) (i : Nat) (h : (l.take i).foldlM g z = none) : l.foldlM g z = none := by
 rw [← List.take_append_drop i l, List.foldlM_append, h]
 rfl
theorem members_stop (l : List Node) (order : List ByteArray) (i : Nat) (hi : i < order.length) {s : MemSt} (h : (order.take i).foldlM (stepM l) ⟨[], [], []⟩ = some s) (hs : stepM l s order[i] = none) : membersF l order = ([], 1) := by
 unfold membersF
 split
 ·rfl
 ·rw [foldlM_none (stepM l) _ order (i + 1) (by rw [foldlM_take _ _ _ _ hi h, hs])]
theorem members_end (l : List Node) (order : List ByteArray) (hl : order.length = l.length) {s : MemSt} (h : (order.take order.length).foldlM (stepM l) ⟨[], [], []⟩ = some s) : membersF l order = (s.out, 0) := by
 rw [List.take_length] at h
 unfold membersF
 rw [if_neg (fun e => e hl), h]
theorem memb_keep {W wr w1 w2 w3 : World} {o : Obj} {v : Value} {xs : List Mem} (hN : Kd.N k27 27 wr W.heap.size (fun k => W.heap.size + 2 ≤ k) v xs) (hB : Below W.heap.size W wr) (hw : W.heap.size + 2 ≤ wr.heap.size) (hb1 : Below wr.heap.size wr w1) (hg2 : (w1.alloc o).grownBy w2 (some (W.heap.size + 1))) (hg3 : w2.grownBy w3 (some W.heap.size)) :
  Kd.N k27 27 w3 W.heap.size (fun k => W.heap.size + 2 ≤ k) v xs ∧ Below W.heap.size W w3 ∧ wr.heap.size ≤ w2.heap.size ∧ w2.heap.size ≤ w3.heap.size ∧ (∀ k, v.ownBlock = some k → W.heap.size + 2 ≤ k ∧ k < wr.heap.size) := by
 have h1 := hb1.size
 have h2 := hg2.size
 have h3 := hg3.size
 rw [World.size_alloc] at h2
 refine ⟨Kd.N_grown (Kd.N_grown (Kd.N_alloc (Kd.N_below hN hb1) _) hg2 (fun k hk e => by cases e; omega)) hg3 (fun k hk e => by cases e; omega), ?_, by omega, h3, fun k hk => ⟨hN.1 k hk, Kd.N_lt hN k hk⟩⟩
 have hB1 := (hB.trans (hb1.mono hB.size)).alloc (by omega) o
 have hB2 := hB1.grown hg2 hB1.size (fun j hj => by cases hj; omega)
 exact hB2.grown hg3 hB2.size (fun j hj => by cases hj; exact Nat.le_refl _)
def MembRel (l : List Node) (order : List ByteArray) (W : World) (i : Int) (v : Value) (wr : World) : Prop :=
 0 ≤ i ∧ i ≤ order.length ∧ (∃ s, (order.take i.toNat).foldlM (stepM l) ⟨[], [], []⟩ = some s ∧ s.out.length = i.toNat ∧ MapS Tryd.prog 9 wr W.heap.size i.toNat (firstV s.first) ∧
  MapS Tryd.prog 9 wr (W.heap.size + 1) i.toNat (seenV s.seen) ∧ Kd.N k27 27 wr W.heap.size (fun k => W.heap.size + 2 ≤ k) v s.out) ∧ Below W.heap.size W wr ∧ W.heap.size + 2 ≤ wr.heap.size
set_option maxRecDepth 100000 in
set_option maxHeartbeats 2000000 in
theorem Members_calls (A0 : Option Addr) (c0 : Nat) (l : List Node) (A1 : Option Addr) (c1 : Nat) (order : List ByteArray) (W : World) (hC : Kd.C k38 W A0 l.length l) (hD : Kd.C Kd.string W A1 order.length order) (hr : riseB l = true) (hz : NodesZ l) :
  Calls Tryd.prog 28 #[.slice A0 l.length c0, .slice A1 order.length c1] W fun e W' => ∃ v, e = .returned (.tuple #[v, .int .i64 (membersF l order).2]) ∧ Kd.V k27 27 W' W.heap.size (fun k => W.heap.size ≤ k) v (membersF l order).1 ∧ Below W.heap.size W W' := by
 have hmm := @run_makeMap Tryd.prog
 have cF := fun p W2 (h : Kd.C k38 W2 A0 l.length l) => Find_calls A0 c0 l p W2 h hr hz
 have HC := Aside0.mk hC
 have HD := Aside0.mk hD
 have HZ := Aside0.mk hz
 have HFN := Aside0.mk cF
 have hlen : (l.length : Int) ≤ 1000000000000 := by have := hz.1; omega
 clear hC hz cF hr hD
 generalize hpost : (fun (e : Ending) (W' : World) => ∃ v, e = .returned (.tuple #[v, .int .i64 (membersF l order).2]) ∧ Kd.V k27 27 W' W.heap.size (fun k => W.heap.size ≤ k) v (membersF l order).1 ∧ Below W.heap.size W W') = Q
 have hQ := Aside0.mk hpost
 clear hpost
 by_cases hne : order.length = l.length
 case neg =>
  have hb : ((order.length : Int) != (l.length : Int)) = true := by rw [bne_iff_ne]; omega
  have HNE := Aside0.mk hne
  clear hne
  go_enter Tryd.func28, Tryd.ntmps28
  go_wp2
  rw [← hQ.out]
  have he : membersF l order = ([], 1) := by unfold membersF; rw [if_pos HNE.out]
  exact ⟨.slice none 0 0, by rw [he]; rfl, by rw [he]; exact Kd.V_nil _ _ _ _ _, Below.refl _ _⟩
 case pos =>
  have hb : ((order.length : Int) != (l.length : Int)) = false := by rw [bne_eq_false_iff_eq]; omega
  have hlo : (order.length : Int) ≤ 1000000000000 := by omega
  have HE := Aside0.mk hne
  clear hne
  go_enter Tryd.func28, Tryd.ntmps28
  go_wp2
  go_loopw [22, 8] (fun i o wr => ∃ n : Int, i = .int .i64 n ∧ Aside0 (MembRel l order W n o wr)) (fun i _ _ => (order.length - (intOf i)).toNat)
  case atStart =>
   refine ⟨0, rfl, ⟨⟨by omega, by omega, ⟨⟨[], [], []⟩, rfl, rfl, ?_, ?_, Kd.N_nil _ _ _ _ _⟩, ?_, by simp⟩⟩⟩
   ·exact ((MapS.made _ _ _).ext (fun s => rfl)).alloc _
   ·have h := MapS.made Tryd.prog 9 (W.alloc (.map #[] 0))
    rw [World.size_alloc] at h
    exact h.ext (fun s => rfl)
   ·exact ((Below.refl _ _).alloc (Nat.le_refl _) _).alloc (by simp) _
  case round =>
   obtain ⟨n, rfl, HR⟩ := hrel
   have h0 := HR.out.1
   have h1 := HR.out.2.1
   obtain ⟨s, hs, hsl, hM1, hM2, hN⟩ := HR.out.2.2.1
   have hB := HR.out.2.2.2.1
   have hw2 := HR.out.2.2.2.2
   have HB := Aside0.mk hB
   have HS := Aside0.mk hs
   have HM1 := Aside0.mk hM1
   have HM2 := Aside0.mk hM2
   have HNN := Aside0.mk hN
   obtain ⟨Ao, co, rfl⟩ := Kd.N_slice hN
   have HSL := Aside0.mk hsl
   clear hs hM1 hM2 hN hsl
   by_cases hlt : n < (order.length : Int)
   ·have c1b : decide (n < (order.length : Int)) = true := decide_eq_true hlt
    obtain ⟨ad, rfl, x0⟩ := Kd.at_string (Kd.C_below HD.out hB) n h0 hlt
    have hx : rdOf ByteArray.empty order n = order[n.toNat]'(by omega) := by
     unfold rdOf
     rw [List.getD_eq_getElem?_getD, List.getElem?_eq_getElem (by omega)]
     rfl
    generalize rdOf ByteArray.empty order n = p at hx x0
    have HX := Aside0.mk hx
    have HCw := Aside0.mk (Kd.C_below HC.out hB)
    clear hx hB
    cases hfp : findF l p with
    | none =>
     have HFP := Aside0.mk hfp
     clear hfp
     go_wp2_with (go_at_call 43; refine (HFN.out p _ HCw.out).mono ?_; rintro e w1 ⟨x, b, v, hm, rfl, hR1, hb1⟩; rw [HFP.out] at hm; obtain ⟨rfl, rfl⟩ := hm; obtain ⟨Av, cv, rfl, hlv, hCv⟩ := Kd.R_reads hR1; clear hlv hCv hR1; have HB1 := Aside0.mk hb1; clear hb1; simp only [nodeCells])
     rw [← hQ.out]
     have he : membersF l order = ([], 1) := members_stop l order n.toNat (by omega) HS.out (by rw [← HX.out]; unfold stepM; rw [HFP.out])
     refine ⟨.slice none 0 0, by rw [he]; rfl, by rw [he]; exact Kd.V_nil _ _ _ _ _, ?_⟩
     have hB1 := HB.out.trans (HB1.out.mono HB.out.size)
     repeat (first | with_reducible refine below_put ?_ _ _ (by have := hB1.size; simp; omega) _ | with_reducible refine Below.alloc ?_ hB1.size _)
     exact hB1
    | some y =>
     obtain ⟨hyl, hyp⟩ := findF_some hfp
     have hyz := HZ.out.2 _ hyl
     have hps : p.size ≤ maxLen := by
      have h2 : p.size = y.f0.size := by
       have := congrArg List.length hyp
       rw [Lib.toList_data, Lib.toList_data] at this
       rw [Array.length_toList, Array.length_toList] at this
       exact this.symm
      have := hyz.1
      unfold maxLen; omega
     have HFP := Aside0.mk hfp
     have HYZ := Aside0.mk hyz
     clear hfp hyl hyp hyz
     cases hsn : seenV s.seen p.data.toList with
     | some u =>
      obtain rfl : u = .bool true := by
       unfold seenV at hsn
       split at hsn
       ·cases hsn; rfl
       ·cases hsn
      have hany : s.seen.any (fun q => decide (q.toList = p.toList)) = true := by
       unfold seenV at hsn
       rw [← Lib.toList_data] at hsn
       split at hsn
       ·assumption
       ·cases hsn
      have HAN := Aside0.mk hany
      have HSN := Aside0.mk hsn
      clear hany hsn
      go_wp2_with (go_at_call 43; refine (HFN.out p _ HCw.out).mono ?_; rintro e w1 ⟨x, b, v, hm, rfl, hR1, hb1⟩; rw [HFP.out] at hm; obtain ⟨rfl, rfl⟩ := hm; obtain ⟨Av, cv, rfl, hlv, hCv⟩ := Kd.R_reads hR1; clear hlv hCv hR1; have HB1 := Aside0.mk hb1; have hlook := fun o => ((HM2.out.below hb1).alloc o).look Tryd.underlying9 Tryd.underlying79 (zeroBool _) hps; simp only [HSN.out, Option.getD_some] at hlook; clear hb1; simp only [nodeCells])
      rw [← hQ.out]
      have he : membersF l order = ([], 1) := members_stop l order n.toNat (by omega) HS.out (by rw [← HX.out]; unfold stepM; rw [HFP.out]; dsimp only; rw [if_pos HAN.out])
      refine ⟨.slice none 0 0, by rw [he]; rfl, by rw [he]; exact Kd.V_nil _ _ _ _ _, ?_⟩
      have hB1 := HB.out.trans (HB1.out.mono HB.out.size)
      repeat (first | with_reducible refine below_put ?_ _ _ (by have := hB1.size; simp; omega) _ | with_reducible refine Below.alloc ?_ hB1.size _)
      exact hB1
     | none =>
      have hany : ¬ s.seen.any (fun q => decide (q.toList = p.toList)) = true := by
       unfold seenV at hsn
       rw [← Lib.toList_data] at hsn
       split at hsn
       ·cases hsn
       ·assumption
      have HAN := Aside0.mk hany
      have HSN := Aside0.mk hsn
      clear hany hsn
      have hne1 : ¬ W.heap.size = W.heap.size + 1 := by omega
      go_wp2_with (first
       | (go_at_call 43; refine (HFN.out p _ HCw.out).mono ?_; rintro e w1 ⟨x, b, v, hm, rfl, hR1, hb1⟩; rw [HFP.out] at hm; obtain ⟨rfl, rfl⟩ := hm; obtain ⟨Av, cv, rfl, hlv, hCv⟩ := Kd.R_reads hR1; clear hlv hR1; have hlook := fun o => ((HM2.out.below hb1).alloc o).look Tryd.underlying9 Tryd.underlying79 (zeroBool _) hps; simp only [HSN.out, Option.getD_none] at hlook; have hM2a := fun o => (HM2.out.below hb1).alloc o; have hM1a := fun o => (HM1.out.below hb1).alloc o; have HMA := Aside0.mk hM2a; have HMB := Aside0.mk hM1a; have HCV := Aside0.mk hCv; have HB1 := Aside0.mk hb1; have hz1 : W.heap.size + 2 ≤ w1.heap.size := (by have := hb1.size; omega); have hnb : ¬ w1.heap.size = W.heap.size + 1 := (by omega); clear hb1 hM2a hM1a hCv; simp only [nodeCells])
       | (at_mapUpdate; refine MapS.wpput (HMA.out _) rfl _ _ _ rfl Tryd.underlying9 Tryd.underlying79 (by unfold maxLen; omega) rfl rfl hps rfl ?_; intro w2 hM2 hturn; obtain ⟨hc2, hf2⟩ := gcell hturn.grown; have hz2 := hturn.grown.size; simp only [World.size_alloc] at hz2; have hM1c := (HMB.out _).kept hturn.grown (by simp); have hCc := int_kept (HMA.out _) hturn.grown (Kd.C_alloc HCV.out _); have HM1c := Aside0.mk hM1c; have HCc := Aside0.mk hCc; have HM2c := Aside0.mk hM2; have HG2 := Aside0.mk hturn.grown; clear hM2 hturn hM1c hCc)
       | (go_at_call 44; refine (Member_calls W.heap.size n.toNat s.first x Av cv _ HM1c.out (by omega) HCc.out HYZ.out).mono ?_; rintro e w3 ⟨v3, rfl, hR3, hM3, hg3⟩; obtain ⟨A3, c3, rfl, hl3, hC3⟩ := Kd.R_reads hR3; have HL3 := Aside0.mk hl3; clear hC3 hl3; have HR3 := Aside0.mk hR3; have HM3 := Aside0.mk hM3; have HG3 := Aside0.mk hg3; clear hR3 hM3 hg3; simp only [memCells])
       | (at_builtin; obtain ⟨hN3, hB3, hz12, hz23, hob⟩ := memb_keep HNN.out HB.out hw2 HB1.out HG2.out HG3.out; have hFK : Kd.FK k27 w3 (fun k => w2.heap.size ≤ k ∧ k < w3.heap.size) (memF s.first x).1 [.string (memF s.first x).1.f0, .string (memF s.first x).1.f1, .int .u8 (memF s.first x).1.f2, .int .i64 (memF s.first x).1.f3.f0, .int .i64 (memF s.first x).1.f3.f1, .int .i64 (memF s.first x).1.f3.f2, .int .i64 (memF s.first x).1.f3.f3, .slice A3 (memF s.first x).1.f4.length c3] := k27_mkF w3 _ _ HL3.out (Kd.R_F (Kd.R_mono (Kd.R_bound HR3.out) (fun k hk => ⟨hk.2.1, hk.2.2.1⟩))); refine Kd.N_append k27 (w0 := W) W.heap.size rfl _ _ 22 27 (.agg #[(.string ⟨#[]⟩), (.string ⟨#[]⟩), (.int .u8 0), (.int .i64 0), (.int .i64 0), (.int .i64 0), (.int .i64 0), (.slice none 0 0)]) 96 rfl Tryd.underlying22 infoMem rfl (by decide) (by decide) (.slice Ao s.out.length co) s.out (memF s.first x).1 [.string (memF s.first x).1.f0, .string (memF s.first x).1.f1, .int .u8 (memF s.first x).1.f2, .int .i64 (memF s.first x).1.f3.f0, .int .i64 (memF s.first x).1.f3.f1, .int .i64 (memF s.first x).1.f3.f2, .int .i64 (memF s.first x).1.f3.f3, .slice A3 (memF s.first x).1.f4.length c3] (fun k => W.heap.size + 2 ≤ k) (fun k => w2.heap.size ≤ k ∧ k < w3.heap.size) rfl rfl hFK (fun k hk => ⟨by have := hk.1; omega, fun e => by have := (hob k e.symm).2; have := hk.1; omega⟩) (fun k hk => by omega) hN3 hB3 (by omega) (by have := HSL.out; omega) ?_; intro v4 w4 hN4 hB4 hg4 hat4; have hne : ∀ k, k < W.heap.size + 2 → some k ≠ (Value.slice Ao s.out.length co).ownBlock := (fun k hk e => by have := (hob k e.symm).1; omega); have hM4 := HM3.out.kept hg4 (hne _ (by omega)); have hM4b := (HM2c.out.kept HG3.out (by simp)).kept hg4 (hne _ (by omega)); have HN4 := Aside0.mk hN4; have HB4 := Aside0.mk hB4; have HM4 := Aside0.mk hM4; have HM4b := Aside0.mk hM4b; have hz4 : W.heap.size + 2 ≤ w4.heap.size := (by have := hg4.size; omega); clear hN4 hB4 hM4 hM4b hg4 hat4 hN3 hB3 hFK hob hne))
      have hfin : MembRel l order W (n + 1) v4 w4 := by
       refine ⟨by omega, by omega, ⟨⟨p :: s.seen, (memF s.first x).2, s.out ++ [(memF s.first x).1]⟩, ?_, ?_, ?_, ?_, HN4.out⟩, HB4.out, hz4⟩
       ·rw [show (n + 1).toNat = n.toNat + 1 from by omega, foldlM_take _ _ _ n.toNat (by omega) HS.out, ← HX.out]
        unfold stepM
        rw [HFP.out]
        dsimp only
        rw [if_neg HAN.out]
       ·have := HSL.out
        simp only [List.length_append, List.length_cons, List.length_nil]
        omega
       ·rw [show (n + 1).toNat = n.toNat + 1 from by omega]
        exact HM4.out
       ·rw [show (n + 1).toNat = n.toNat + 1 from by omega]
        exact HM4b.out.ext (fun t => seenV_put s.seen p t)
      go_roundw
      case rel => exact ⟨n + 1, by go_num, ⟨hfin⟩⟩
      case measure => simp [intOf]; omega
   ·have c1b : decide (n < (order.length : Int)) = false := decide_eq_false hlt
    go_wp2
    rw [← hQ.out]
    have he : membersF l order = (s.out, 0) := members_end l order HE.out (by rw [show order.length = n.toNat from by omega]; exact HS.out)
    refine ⟨_, by rw [he], ?_, HB.out⟩
    rw [he]
    exact Kd.V_mono (Kd.N_V HNN.out) (fun k hk => by omega)
end Go.Proofs.YtiijbmaamblidaaDoor

namespace Go.Proofs.YtiijbmaamblidaaDoor.Print
open Go.RowKit Go.Proofs.YtiijbmaamblidaaDoor Go.Proofs.YtiijbmaamblidaaDoorW.PrintWords Go.Proofs.YtiijbmaamblidaaDoorW.PrintLast Go.Proofs.YtiijbmaamblidaaDoorW.PrintMore
set_option linter.unusedVariables false
def links_Members.f (l : List S38) (order : List ByteArray) : Option (List S27 × Int) :=
 if riseB l = true ∧ nodesZ l = true then some (membersF l order) else none
theorem links_Members.calls (A0 : Option Addr) (c0 : Nat) (l0 : List S38) (A1 : Option Addr) (c1 : Nat) (l1 : List ByteArray) (r1 : List S27) (r2 : Int) (w : World) (hr0 : Kd.C k38 w A0 l0.length l0) (hc0 : l0.length ≤ c0) (hr1 : Kd.C Kd.string w A1 l1.length l1) (hc1 : l1.length ≤ c1) (h : links_Members.f l0 l1 = some (r1, r2)) :
  Calls Tryd.prog 28 #[.slice A0 l0.length c0, .slice A1 l1.length c1] w fun e w' => ∃ v0_ : Value, e = .returned (.tuple #[v0_, .int .i64 r2]) ∧ Kd.V k27 27 w' w.heap.size (fun k_ => w.heap.size ≤ k_) v0_ r1 ∧ Below w.heap.size w w' := by
 unfold links_Members.f at h
 split at h
 ·rename_i hc
  simp only [Option.some.injEq] at h
  refine (Members_calls A0 c0 l0 A1 c1 l1 w hr0 hr1 hc.1 ((nodesZ_iff l0).1 hc.2)).mono ?_
  rintro e w' ⟨v, rfl, hV, hB⟩
  rw [h] at hV ⊢
  exact ⟨v, rfl, hV, hB⟩
 ·cases h
end Go.Proofs.YtiijbmaamblidaaDoor.Print

namespace Go.Proofs.YtiijbmaamblidaaDoor
open Go.RowKit Go.Proofs.YtiijbmaamblidaaDoor.Print Go.Proofs.YtiijbmaamblidaaDoorW.PrintWords
set_option linter.unusedVariables false
def flatF (l : List Mem) : List Mem × Int × Int := if (foldF l).2.1 = 0 then ((membersF (foldF l).1 (orderF l)).1, (membersF (foldF l).1 (orderF l)).2, 0) else ([], (foldF l).2.1, (foldF l).2.2)
structure FlatOk (l : List Mem) : Prop where
 good : goodTree (foldF l).1 = true
 nodes : NodesG (foldF l).1
 is : flatF l = ((membersF (foldF l).1 (orderF l)).1, 0, 0)
 zero : (membersF (foldF l).1 (orderF l)).2 = 0
 sound : soundF (flatF l).1 = true
 paths : (flatF l).1.map (fun m => m.f0) = orderF l
 back : ∃ u, foldF (flatF l).1 = (u, 0, 0) ∧ sameB (foldF l).1 u = true
 z : MemsZ (flatF l).1
 len : (flatF l).1.length ≤ l.length
structure SameD (a b : Mem) : Prop where
 f1 : a.f1 = b.f1
 f2 : a.f2 = b.f2
 f3 : a.f3 = b.f3
 f4 : (strOfNums a.f4).toList = (strOfNums b.f4).toList
theorem SameD.refl (a : Mem) : SameD a a := ⟨rfl, rfl, rfl, rfl⟩
abbrev ZS := List (ByteArray × Nat × Nat)
def z1 (z : ZS) : PS := z.map (fun t => (t.1, t.2.1))
def z2 (z : ZS) : PS := z.map (fun t => (t.1, t.2.2))
structure Side (l1 l2 : List Mem) (n1 n2 : Nat) (z : ZS) : Prop where
 lt : ∀ t ∈ z, t.2.1 < n1 ∧ t.2.2 < n2
 data : ∀ t ∈ z, SameD (l1.getD t.2.1 zM) (l2.getD t.2.2 zM)
 one : ∀ t ∈ z, ∀ u ∈ z, (l1.getD t.2.1 zM).f2 = 48 → (l1.getD u.2.1 zM).f2 = 48 → (t.2.1 = u.2.1 ↔ t.2.2 = u.2.2)
def withoutZ (z : ZS) (p : ByteArray) : ZS := z.filter (fun t => !decide (t.1.toList = p.toList))
theorem Side.put {l1 l2 : List Mem} {n1 n2 : Nat} {z : ZS} (h : Side l1 l2 n1 n2 z) (p : ByteArray) {c d : Nat} (hc : c < n1 + 1 ∧ d < n2 + 1) (hd : SameD (l1.getD c zM) (l2.getD d zM))
  (ho : ∀ u ∈ z, (l1.getD c zM).f2 = 48 → (l1.getD u.2.1 zM).f2 = 48 → (c = u.2.1 ↔ d = u.2.2)) : Side l1 l2 (n1 + 1) (n2 + 1) (withoutZ z p ++ [(p, c, d)]) := by
 have hm : ∀ t ∈ withoutZ z p ++ [(p, c, d)], t ∈ z ∨ t = (p, c, d) := fun t ht => by
  rcases List.mem_append.1 ht with ht | ht
  ·exact .inl (List.mem_filter.1 ht).1
  ·exact .inr (List.mem_singleton.1 ht)
 refine ⟨fun t ht => ?_, fun t ht => ?_, fun t ht u hu h1 h2 => ?_⟩
 ·rcases hm t ht with ht | rfl
  ·have := h.lt t ht; omega
  ·exact hc
 ·rcases hm t ht with ht | rfl
  ·exact h.data t ht
  ·exact hd
 ·rcases hm t ht with ht | rfl
  ·rcases hm u hu with hu | rfl
   ·exact h.one t ht u hu h1 h2
   ·have := ho t ht h2 h1
    exact ⟨fun e => (this.1 e.symm).symm, fun e => (this.2 e.symm).symm⟩
  ·rcases hm u hu with hu | rfl
   ·exact ho u hu h1 h2
   ·exact ⟨fun _ => rfl, fun _ => rfl⟩
end Go.Proofs.YtiijbmaamblidaaDoor

namespace Go.Proofs.YtiijbmaamblidaaDoor
open Go.RowKit Go.Maps Go.Proofs.YtiijbmaamblidaaDoor.Print Go.Proofs.YtiijbmaamblidaaDoorW.PrintWords Go.Proofs.YtiijbmaamblidaaDoorW.PrintLast Go.Proofs.YtiijbmaamblidaaDoorW.PrintMore
set_option linter.unusedVariables false
set_option linter.unusedSimpArgs false
theorem fcell {w : World} {p : Addr} {v : Value} (h : w.cell? p = some v) (o : Obj) : (w.alloc o).cell? p = some v := ((below_alloc (Below.refl _ _) o).cell (World.block_lt_of_cell? w _ h)).trans h
theorem fkeep {w w1 : World} {p : Addr} {v : Value} (hb : Below w.heap.size w w1) (h : w.cell? p = some v) : w1.cell? p = some v := (hb.cell (World.block_lt_of_cell? w _ h)).trans h
def thingCells (m : Mem) (v : Value) (ld : ByteArray) : Array Value := #[.int .u8 m.f2, .int .i64 m.f3.f0, .int .i64 m.f3.f1, .int .i64 m.f3.f2, .int .i64 m.f3.f3, .string m.f1, v, .string ld]
def ThingAt (w : World) (base b : Nat) (m : Mem) (ld : ByteArray) : Prop :=
 base ≤ b ∧ ∃ v, w.heap[b]? = some (.cells (thingCells m v ld) 71 (0, 0)) ∧ Kd.R (Kd.int .u8) 5 w base (fun _ => True) v m.f4
theorem blk_lt' {w : World} {b : Nat} {o : Obj} (h : w.heap[b]? = some o) : b < w.heap.size := (Array.getElem?_eq_some_iff.1 h).1
theorem ThingAt.lt {w : World} {base b : Nat} {m : Mem} {ld : ByteArray} (h : ThingAt w base b m ld) : b < w.heap.size := by
 obtain ⟨_, v, hb, _⟩ := h
 exact blk_lt' hb
theorem ThingAt.below {w w1 : World} {base b : Nat} {m : Mem} {ld : ByteArray} (h : ThingAt w base b m ld) (hb : Below w.heap.size w w1) : ThingAt w1 base b m ld := by
 obtain ⟨h0, v, h1, h2⟩ := h
 exact ⟨h0, v, (hb.block b (blk_lt' h1)).trans h1, Kd.R_below h2 hb⟩
theorem ThingAt.grown {w w1 : World} {base b g : Nat} {m : Mem} {ld : ByteArray} (h : ThingAt w base b m ld) (hg : w.grownBy w1 (some g)) (ho : ∀ cs q, w.heap[g]? = some (.cells cs q (0, 0)) → q ≠ 71 ∧ q ≠ 5) : ThingAt w1 base b m ld := by
 obtain ⟨h0, v, h1, h2⟩ := h
 refine ⟨h0, v, (hg.block b (blk_lt' h1) (fun e => by injection e with e; subst e; exact (ho _ _ h1).1 rfl)).trans h1, ?_⟩
 refine Kd.R_mono (Kd.R_grown (Kd.R_bound h2) hg (fun k hk e => ?_)) (fun _ _ => trivial)
 injection e with e
 subst e
 obtain ⟨_, _, _, q, hq, cs, hc⟩ := hk
 have hq2 : q = 5 := by
  rcases List.mem_cons.1 hq with h | h
  ·exact h
  ·cases h
 subst hq2
 exact (ho _ _ hc).2 rfl
theorem MapS.isMap {P : Program} {K : TypeId} {w : World} {b n : Nat} {f : List UInt8 → Option Value} (h : MapS P K w b n f) : ∀ cs q, w.heap[b]? = some (.cells cs q (0, 0)) → False := by
 obtain ⟨D, ⟨es, clock, hb, _⟩, _⟩ := h
 intro cs q h2
 rw [hb] at h2
 cases h2
def dirV (B : Nat → Nat) (s : PS) : List UInt8 → Option Value := fun k => (atD s k).map (fun c => Value.pointer (some ⟨B c, 0, none⟩))
def DirS (w : World) (base d i : Nat) (l : List Mem) (s : PS) (B : Nat → Nat) : Prop :=
 MapS Tryd.prog 9 w d i (dirV B s) ∧ (∀ c m, l[c]? = some m → c < i → ¬ m.f2 = 49 → ThingAt w base (B c) m emp) ∧
  (∀ c c' m m', c < c' → c' < i → l[c]? = some m → ¬ m.f2 = 49 → l[c']? = some m' → ¬ m'.f2 = 49 → B c ≠ B c')
theorem dirV_put (B : Nat → Nat) (s : PS) (p : ByteArray) (c : Nat) (t : List UInt8) : putS (dirV B s) p.data.toList (.pointer (some ⟨B c, 0, none⟩)) t = dirV B (putP s p c) t := by
 unfold putS dirV
 rw [atD_put]
 by_cases h : t = p.data.toList
 ·rw [if_pos h, if_pos h]; rfl
 ·rw [if_neg h, if_neg h]
theorem dirV_eq {B B' : Nat → Nat} {s : PS} (h : ∀ q ∈ s, B q.2 = B' q.2) (t : List UInt8) : dirV B s t = dirV B' s t := by
 unfold dirV
 cases ha : atD s t with
 | none => rfl
 | some c =>
  obtain ⟨q, hq, _, rfl⟩ := atD_mem ha
  simp [h q hq]
theorem DirS.start (w : World) (base : Nat) (l : List Mem) (B : Nat → Nat) : DirS (w.alloc (.map #[] 0)) base w.heap.size 0 l [] B :=
 ⟨(MapS.made _ _ _).ext (fun s => rfl), fun c m _ h => absurd h (Nat.not_lt_zero _), fun c c' m m' _ h => absurd h (Nat.not_lt_zero _)⟩
theorem DirS.below {w w1 : World} {base d i : Nat} {l : List Mem} {s : PS} {B : Nat → Nat} (h : DirS w base d i l s B) (hb : Below w.heap.size w w1) : DirS w1 base d i l s B :=
 ⟨h.1.below hb, fun c m hm hc h49 => (h.2.1 c m hm hc h49).below hb, h.2.2⟩
theorem DirS.name {w w1 : World} {base d i : Nat} {l : List Mem} {s : PS} {B : Nat → Nat} (h : DirS w base d i l s B) {m : Mem} (hm : l[i]? = some m) (h49 : m.f2 = 49) {p : ByteArray} {c : Nat} (hM : MapS Tryd.prog 9 w1 d (i + 1) (putS (dirV B s) p.data.toList (.pointer (some ⟨B c, 0, none⟩)))) (hg : w.grownBy w1 (some d)) :
  DirS w1 base d (i + 1) l (putP s p c) B := by
 refine ⟨hM.ext (dirV_put B s p c), fun c' m' hm' hc' hn => ?_, fun c1 c2 m1 m2 h1 h2 h3 h4 h5 h6 => ?_⟩
 ·have hlt : c' < i := by
   rcases Nat.lt_or_ge c' i with h1 | h1
   ·exact h1
   ·obtain rfl : c' = i := by omega
    rw [hm] at hm'
    cases hm'
    exact absurd h49 hn
  exact (h.2.1 c' m' hm' hlt hn).grown hg (fun cs q hc => (h.1.isMap cs q hc).elim)
 ·refine h.2.2 c1 c2 m1 m2 h1 ?_ h3 h4 h5 h6
  rcases Nat.lt_or_ge c2 i with h7 | h7
  ·exact h7
  ·obtain rfl : c2 = i := by omega
   rw [hm] at h5
   cases h5
   exact absurd h49 h6
theorem DirS.add {w w1 : World} {base d i : Nat} {l : List Mem} {s : PS} {B : Nat → Nat} (h : DirS w base d i l s B) (hI : FInv l i s) {m : Mem} (hm : l[i]? = some m) {b : Nat} (hb : ∀ c m', l[c]? = some m' → c < i → ¬ m'.f2 = 49 → B c < b) (hT : ThingAt w base b m emp)
  {p : ByteArray} (hM : MapS Tryd.prog 9 w1 d (i + 1) (putS (dirV B s) p.data.toList (.pointer (some ⟨b, 0, none⟩)))) (hg : w.grownBy w1 (some d)) :
  DirS w1 base d (i + 1) l (putP s p i) (fun c => if c = i then b else B c) := by
 have hB : ∀ q ∈ s, B q.2 = (fun c => if c = i then b else B c) q.2 := fun q hq => by
  have := (hI.cls q hq).1
  dsimp only
  rw [if_neg (by omega)]
 refine ⟨hM.ext (fun t => ?_), fun c m' hm' hc hn => ?_, fun c1 c2 m1 m2 h1 h2 h3 h4 h5 h6 => ?_⟩
 ·rw [← dirV_put]
  unfold putS
  rw [dirV_eq (B' := fun c => if c = i then b else B c) hB]
  simp
 ·by_cases e : c = i
  ·subst e
   rw [hm] at hm'
   cases hm'
   dsimp only
   rw [if_pos rfl]
   exact hT.grown hg (fun cs q hc => (h.1.isMap cs q hc).elim)
  ·dsimp only
   rw [if_neg e]
   exact (h.2.1 c m' hm' (by omega) hn).grown hg (fun cs q hc => (h.1.isMap cs q hc).elim)
 ·dsimp only
  rw [if_neg (show ¬ c1 = i by omega)]
  by_cases e : c2 = i
  ·rw [if_pos e]
   have := hb c1 m1 h3 (by omega) h4
   omega
  ·rw [if_neg e]
   exact h.2.2 c1 c2 m1 m2 h1 (by omega) h3 h4 h5 h6
theorem put_step {P : Program} {K e t : TypeId} {ops : Array Oper} {w : World} {b n : Nat} {f : List UInt8 → Option Value} {oi : Oper} {a : Act} {Kc : Act → World → Prop} {Q : Exit → Act → World → Prop} (h : MapS P K w b n f) (hw : Region.wanted oi (yielded ops a.tmps) = true) (hN : oi.dst = none) (m x v : Operand) (hop : oi.op = Op.mapUpdate t m x v)
  (hK : P.underlying K = some .string) (ht : P.underlying t = some (.map K e)) (hn : n < maxLen) (hm : a.eval m = .map (some b)) {s : ByteArray} (hx : a.eval x = .string s) (hs : s.size ≤ maxLen) {u : Value} (hv : a.eval v = u)
  (hk : ∀ w', MapS P K w' b (n + 1) (putS f s.data.toList u) → w.mapTurned w' b → Kc a w') : if Region.wanted oi (yielded ops a.tmps) = true then Oper.wp P oi a w Kc Q else Kc (a.put none undef) w := by
 obtain ⟨w', hrun, r1, r2⟩ := h.put hK ht hn hs u
 refine skip_ (w1 := w') hw hN ?_ (hk w' r1 r2)
 simp [execOp, hop, hm, hx, hv, hrun]
def LayPost (l : List Mem) (s : PS) (base d i : Nat) (W : World) (e : Ending) (W' : World) : Prop :=
 ((stepF l s i = none ∧ e = .returned (.bool false)) ∨ (∃ s' B', stepF l s i = some s' ∧ e = .returned (.bool true) ∧ DirS W' base d (i + 1) l s' B')) ∧ W.grownBy W' (some d)
theorem zeroThing (w : World) : (zeroValue 68).run Tryd.prog w = .ok (.pointer none) w := by kernel_rfl
theorem thing_cells {w : World} {b : Nat} {m : Mem} {v : Value} {ld : ByteArray} (h : w.heap[b]? = some (.cells (thingCells m v ld) 71 (0, 0))) :
  w.cell? ⟨b, 0, none⟩ = some (.int .u8 m.f2) ∧ w.cell? ⟨b, 1, none⟩ = some (.int .i64 m.f3.f0) ∧ w.cell? ⟨b, 2, none⟩ = some (.int .i64 m.f3.f1) ∧ w.cell? ⟨b, 3, none⟩ = some (.int .i64 m.f3.f2) ∧ w.cell? ⟨b, 4, none⟩ = some (.int .i64 m.f3.f3) ∧
   w.cell? ⟨b, 5, none⟩ = some (.string m.f1) ∧ w.cell? ⟨b, 6, none⟩ = some v ∧ w.cell? ⟨b, 7, none⟩ = some (.string ld) := by
 refine ⟨?_, ?_, ?_, ?_, ?_, ?_, ?_, ?_⟩ <;> · unfold World.cell?; dsimp only; rw [h]; rfl
set_option maxRecDepth 100000 in
set_option maxHeartbeats 4000000 in
theorem Lay_calls (base d i : Nat) (l : List Mem) (s : PS) (B : Nat → Nat) (x : Mem) (A : Option Addr) (c : Nat) (W : World) (hx : l[i]? = some x) (hlen : l.length ≤ 1000000000000) (hz : MemZ x) (hD : DirS W base d i l s B) (hI : FInv l i s) (hbase : base ≤ W.heap.size) (hC : Kd.C (Kd.int .u8) W A x.f4.length x.f4) :
  Calls Tryd.prog 26 #[.map (some d), .agg (memCells x (.slice A x.f4.length c))] W (LayPost l s base d i W) := by
 obtain ⟨hi, hxi⟩ := List.getElem?_eq_some_iff.1 hx
 have hst := stepF_eq l s i hi
 rw [hxi] at hst
 have hdlt : d < W.heap.size := hD.1.lt
 have hs0 : x.f0.size ≤ maxLen := by have := hz.1; unfold maxLen; omega
 have hs1 : x.f1.size ≤ maxLen := by have := hz.2.1; unfold maxLen; omega
 have hlook := fun o => (hD.1.alloc o).look_ok Tryd.underlying9 Tryd.underlying54 (zeroThing _) hs1
 have hBlt : ∀ c m, l[c]? = some m → c < i → ¬ m.f2 = 49 → B c < W.heap.size := fun c m h1 h2 h3 => (hD.2.1 c m h1 h2 h3).lt
 have HX := Aside0.mk hx
 have HZ := Aside0.mk hz
 have HD := Aside0.mk hD
 have HI := Aside0.mk hI
 have HC := Aside0.mk hC
 have HS := Aside0.mk hst
 have HBL := Aside0.mk hBlt
 have HLK := Aside0.mk hlook
 clear hx hxi hz hD hI hC hst hBlt hlook
 generalize hpost : LayPost l s base d i W = Q
 have hQ := Aside0.mk hpost
 clear hpost
 unfold memCells
 by_cases h49 : x.f2 = 49
 case neg =>
  have e49 : (x.f2 != 49) = true := bne_iff_ne.2 h49
  have H49 := Aside0.mk h49
  clear h49
  go_enter Tryd.func26, Tryd.ntmps26
  go_upto_region 2 with (fail)
  refine start_ (n := 15) (S := fun w' => w'.cell? ⟨W.heap.size, 0, none⟩ = some (.string x.f0) ∧ w'.cell? ⟨W.heap.size, 1, none⟩ = some (.string x.f1) ∧ w'.cell? ⟨W.heap.size, 2, none⟩ = some (.int .u8 x.f2) ∧ w'.cell? ⟨W.heap.size, 3, none⟩ = some (.int .i64 x.f3.f0) ∧ w'.cell? ⟨W.heap.size, 4, none⟩ = some (.int .i64 x.f3.f1) ∧ w'.cell? ⟨W.heap.size, 5, none⟩ = some (.int .i64 x.f3.f2) ∧ w'.cell? ⟨W.heap.size, 6, none⟩ = some (.int .i64 x.f3.f3) ∧ w'.cell? ⟨W.heap.size, 7, none⟩ = some (.slice A x.f4.length c)) (ds := [14]) #[false, false, false, false, false, false, false, false, false, false, false, false, false, false, false] (by kernel_rfl) rfl rfl ⟨by simp, by simp, by simp, by simp, by simp, by simp, by simp, by simp⟩ (fun hHeld => ?_)
  generalize hwq : (W.alloc (.cells #[.string x.f0, .string x.f1, .int .u8 x.f2, .int .i64 x.f3.f0, .int .i64 x.f3.f1, .int .i64 x.f3.f2, .int .i64 x.f3.f3, .slice A x.f4.length c] 27)).drew = wq at hHeld ⊢
  have hzq : W.heap.size + 1 = wq.heap.size := by rw [← hwq]; exact (World.size_alloc _ _).symm
  refine pure_ (i := 0) (N := some 10) (v := ?_) (a' := ?_) #[true, false, false, false, false, false, false, false, false, false, false, false, false, false, false] rfl rfl (by kernel_rfl) (fun _ _ _ h => h) (Or.inl ⟨by rfl, ?_⟩) ?_ ?_
  rotate_left
  ·intro w'
   go_simp
   with_reducible rfl
  rotate_left
  ·simp only [Act.put, List.setIfInBounds_toArray, List.set_cons_zero, List.set_cons_succ, i64_w, i32_w]
   rfl
  refine pure_ (i := 1) (N := some 11) (v := ?_) (a' := ?_) #[true, true, false, false, false, false, false, false, false, false, false, false, false, false, false] rfl rfl (by kernel_rfl) (fun _ _ _ h => h) (Or.inl ⟨by rfl, ?_⟩) ?_ ?_
  rotate_left
  ·intro w'
   go_simp
   with_reducible rfl
  rotate_left
  ·simp only [Act.put, List.setIfInBounds_toArray, List.set_cons_zero, List.set_cons_succ, i64_w, i32_w]
   rfl
  refine take_ (i := 2) (N := some 12) (v := ?_) (a' := ?_) #[true, true, true, false, false, false, false, false, false, false, false, false, false, false, false] rfl rfl (by kernel_rfl) (fun _ _ _ h => h) (Or.inl ⟨by rfl, ?_⟩) hHeld ?_ ?_
  rotate_left
  ·rintro w' ⟨s0, s1, s2, s3, s4, s5, s6, s7⟩
   go_simp
   with_reducible rfl
  rotate_left
  ·simp only [Act.put, List.setIfInBounds_toArray, List.set_cons_zero, List.set_cons_succ, i64_w, i32_w]
   rfl
  refine pure_ (i := 3) (N := some 13) (v := ?_) (a' := ?_) #[true, true, true, true, false, false, false, false, false, false, false, false, false, false, false] rfl rfl (by kernel_rfl) (fun _ _ _ h => h) (Or.inl ⟨by rfl, ?_⟩) ?_ ?_
  rotate_left
  ·intro w'
   go_simp
   with_reducible rfl
  rotate_left
  ·simp only [Act.put, List.setIfInBounds_toArray, List.set_cons_zero, List.set_cons_succ, i64_w, i32_w]
   rfl
  refine take_ (i := 4) (N := some 14) (v := ?_) (a' := ?_) #[true, true, true, true, true, false, false, false, false, false, false, false, false, false, false] rfl rfl (by kernel_rfl) (fun _ _ _ h => h) (Or.inl ⟨by rfl, ?_⟩) hHeld ?_ ?_
  rotate_left
  ·rintro w' ⟨s0, s1, s2, s3, s4, s5, s6, s7⟩
   go_simp
   with_reducible rfl
  rotate_left
  ·simp only [Act.put, List.setIfInBounds_toArray, List.set_cons_zero, List.set_cons_succ, i64_w, i32_w]
   rfl
  refine pure_ (i := 5) (N := some 15) (v := ?_) (a' := ?_) #[true, true, true, true, true, true, false, false, false, false, false, false, false, false, false] rfl rfl (by kernel_rfl) (fun _ _ _ h => h) (Or.inl ⟨by rfl, ?_⟩) ?_ ?_
  rotate_left
  ·intro w'
   go_simp
   with_reducible rfl
  rotate_left
  ·simp only [Act.put, List.setIfInBounds_toArray, List.set_cons_zero, List.set_cons_succ, i64_w, i32_w]
   rfl
  refine take_ (i := 6) (N := some 16) (v := ?_) (a' := ?_) #[true, true, true, true, true, true, true, false, false, false, false, false, false, false, false] rfl rfl (by kernel_rfl) (fun _ _ _ h => h) (Or.inl ⟨by rfl, ?_⟩) hHeld ?_ ?_
  rotate_left
  ·rintro w' ⟨s0, s1, s2, s3, s4, s5, s6, s7⟩
   go_simp
   with_reducible rfl
  rotate_left
  ·simp only [Act.put, List.setIfInBounds_toArray, List.set_cons_zero, List.set_cons_succ, i64_w, i32_w]
   rfl
  refine pure_ (i := 7) (N := some 17) (v := ?_) (a' := ?_) #[true, true, true, true, true, true, true, true, false, false, false, false, false, false, false] rfl rfl (by kernel_rfl) (fun _ _ _ h => h) (Or.inl ⟨by rfl, ?_⟩) ?_ ?_
  rotate_left
  ·intro w'
   go_simp
   with_reducible rfl
  rotate_left
  ·simp only [Act.put, List.setIfInBounds_toArray, List.set_cons_zero, List.set_cons_succ, i64_w, i32_w]
   rfl
  refine take_ (i := 8) (N := some 18) (v := ?_) (a' := ?_) #[true, true, true, true, true, true, true, true, true, false, false, false, false, false, false] rfl rfl (by kernel_rfl) (fun _ _ _ h => h) (Or.inl ⟨by rfl, ?_⟩) hHeld ?_ ?_
  rotate_left
  ·rintro w' ⟨s0, s1, s2, s3, s4, s5, s6, s7⟩
   go_simp
   with_reducible rfl
  rotate_left
  ·simp only [Act.put, List.setIfInBounds_toArray, List.set_cons_zero, List.set_cons_succ, i64_w, i32_w]
   rfl
  refine pure_ (i := 9) (N := some 19) (v := ?_) (a' := ?_) #[true, true, true, true, true, true, true, true, true, true, false, false, false, false, false] rfl rfl (by kernel_rfl) (fun _ _ _ h => h) (Or.inl ⟨by rfl, ?_⟩) ?_ ?_
  rotate_left
  ·intro w'
   go_simp
   with_reducible rfl
  rotate_left
  ·simp only [Act.put, List.setIfInBounds_toArray, List.set_cons_zero, List.set_cons_succ, i64_w, i32_w]
   rfl
  refine take_ (i := 10) (N := some 20) (v := ?_) (a' := ?_) #[true, true, true, true, true, true, true, true, true, true, true, false, false, false, false] rfl rfl (by kernel_rfl) (fun _ _ _ h => h) (Or.inl ⟨by rfl, ?_⟩) hHeld ?_ ?_
  rotate_left
  ·rintro w' ⟨s0, s1, s2, s3, s4, s5, s6, s7⟩
   go_simp
   with_reducible rfl
  rotate_left
  ·simp only [Act.put, List.setIfInBounds_toArray, List.set_cons_zero, List.set_cons_succ, i64_w, i32_w]
   rfl
  refine one_ (i := 11) (N := some 21) #[true, true, true, true, true, true, true, true, true, true, true, true, false, false, false] rfl rfl (by kernel_rfl) (by decide) (fun K hK => ?_)
  refine goes_ Tryd.func40 (by kernel_rfl) rfl #[.slice A x.f4.length c] (by rfl) rfl rfl (by first | rfl | (simp [Act.eval]; done)) ?_
  refine (Clone_calls A c x.f4 wq (by rw [← hwq]; exact Kd.C_drew (Kd.C_alloc HC.out _)) HZ.out.2.2).mono ?_
  rintro e w5 ⟨v, rfl, hR5, hb5⟩
  obtain ⟨Av, cv, rfl, hlv, hCv⟩ := Kd.R_reads hR5
  clear hlv hCv
  refine ⟨_, rfl, ?_⟩
  refine hK.out _ _ ⟨fkeep hb5 hHeld.1, fkeep hb5 hHeld.2.1, fkeep hb5 hHeld.2.2.1, fkeep hb5 hHeld.2.2.2.1, fkeep hb5 hHeld.2.2.2.2.1, fkeep hb5 hHeld.2.2.2.2.2.1, fkeep hb5 hHeld.2.2.2.2.2.2.1, fkeep hb5 hHeld.2.2.2.2.2.2.2⟩ (fun hHeld2 => ?_)
  clear hK K
  have HR5 := Aside0.mk hR5
  have HB5 := Aside0.mk hb5
  clear hR5
  refine norm_ (a' := ?_) ?_ ?_
  rotate_left
  ·show Act.put _ (some 21) _ = _
   simp only [Act.put, List.setIfInBounds_toArray, List.set_cons_zero, List.set_cons_succ, i64_w, i32_w]
   rfl
  refine pure_ (i := 12) (N := some 22) (v := ?_) (a' := ?_) #[true, true, true, true, true, true, true, true, true, true, true, true, true, false, false] rfl rfl (by kernel_rfl) (fun _ _ _ h => h) (Or.inl ⟨by rfl, ?_⟩) ?_ ?_
  rotate_left
  ·intro w'
   go_simp
   with_reducible rfl
  rotate_left
  ·simp only [Act.put, List.setIfInBounds_toArray, List.set_cons_zero, List.set_cons_succ, i64_w, i32_w]
   rfl
  refine one_ (i := 13) (N := some 23) #[true, true, true, true, true, true, true, true, true, true, true, true, true, true, false] rfl rfl (by kernel_rfl) (by decide) (fun K hK => ?_)
  refine value_ (w1 := ?_) (v := ?_) (by rfl) rfl ?_ ?_
  rotate_left 2
  ·go_simp
   constructor
   ·rfl
   ·rfl
  refine hK.out _ _ ⟨fcell hHeld2.1 _, fcell hHeld2.2.1 _, fcell hHeld2.2.2.1 _, fcell hHeld2.2.2.2.1 _, fcell hHeld2.2.2.2.2.1 _, fcell hHeld2.2.2.2.2.2.1 _, fcell hHeld2.2.2.2.2.2.2.1 _, fcell hHeld2.2.2.2.2.2.2.2 _⟩ (fun hHeld3 => ?_)
  clear hK K
  refine norm_ (a' := ?_) ?_ ?_
  rotate_left
  ·show Act.put _ (some 23) _ = _
   simp only [Act.put, List.setIfInBounds_toArray, List.set_cons_zero, List.set_cons_succ, i64_w, i32_w]
   rfl
  refine last_ (i := 14) (N := none) #[true, true, true, true, true, true, true, true, true, true, true, true, true, true, true] rfl rfl (by kernel_rfl) (by decide) (fun K hK => ?_)
  refine put_step (f := dirV B s) (b := d) (n := i) (s := x.f0) (((HD.out.below (show Below W.heap.size W wq from by rw [← hwq]; exact below_drew (below_alloc (Below.refl _ _) _))).below HB5.out).1.alloc _) (by rfl) rfl (.tmp 10) (.tmp 12) (.tmp 23) rfl Tryd.underlying9 Tryd.underlying54 (by unfold maxLen; omega) rfl rfl hs0 rfl ?_
  intro w6 hM6 hturn6
  refine hK.out _ _ ?_
  clear hK K
  have HM6 := Aside0.mk hM6
  have HG6 := Aside0.mk hturn6.grown
  clear hM6 hturn6 hHeld hHeld2 hHeld3 hb5
  refine done_ (by kernel_rfl) ?_
  go_wp2_with (fail)
  rw [← hQ.out]
  have hB1 : Below W.heap.size W w5 := ((show Below W.heap.size W wq from by rw [← hwq]; exact below_drew (below_alloc (Below.refl _ _) _))).trans (HB5.out.mono (by omega))
  refine ⟨.inr ⟨_, _, by rw [HS.out, if_neg H49.out], rfl, DirS.add ((HD.out.below hB1).below (below_alloc (Below.refl _ _) _)) HI.out HX.out (b := w5.heap.size) (fun c m h1 h2 h3 => by have := HBL.out c m h1 h2 h3; have := hB1.size; omega) ⟨by have := hB1.size; omega, _, blk_new _ _, Kd.R_lower (Kd.R_alloc HR5.out _) (by omega)⟩ HM6.out HG6.out⟩, ?_⟩
  exact World.grownBy.trans (grown_of_below (hB1.trans ((below_alloc (Below.refl _ _) _).mono hB1.size)) _) HG6.out
 case pos =>
  have e49 : (x.f2 != 49) = false := bne_eq_false_iff_eq.2 h49
  have hst2 := HS.out
  rw [if_pos h49] at hst2
  have H49 := Aside0.mk h49
  clear h49
  cases ha : atD s x.f1.data.toList with
  | none =>
   have hlook := fun o => HLK.out o
   rw [ha] at hst2
   have hdv : dirV B s x.f1.data.toList = none := by unfold dirV; rw [ha]; rfl
   simp only [hdv, Option.getD_none, Option.isSome_none] at hlook
   have HS2 := Aside0.mk hst2
   clear hdv ha hst2
   go_enter Tryd.func26, Tryd.ntmps26
   go_wp2
   rw [← hQ.out]
   exact ⟨.inl ⟨HS2.out, rfl⟩, grown_of_below (below_alloc (Below.refl _ _) _) _⟩
  | some k =>
   have hlook := fun o => HLK.out o
   rw [ha] at hst2
   have hdv : dirV B s x.f1.data.toList = some (.pointer (some ⟨B k, 0, none⟩)) := by unfold dirV; rw [ha]; rfl
   simp only [hdv, Option.getD_some, Option.isSome_some] at hlook
   obtain ⟨q, hq, _, rfl⟩ := atD_mem ha
   obtain ⟨hk, t, ht, ht49⟩ := HI.out.cls q hq
   dsimp only at hst2
   rw [ht] at hst2
   dsimp only at hst2
   obtain ⟨_, v, hblk, hR⟩ := HD.out.2.1 q.2 t ht hk ht49
   have hcell := fcell (thing_cells hblk).1
   have hbk := World.new_ne W ⟨B q.2, 0, none⟩ (thing_cells hblk).1
   have HHD := Aside0.mk hdv
   clear hdv ha hq hblk hR
   by_cases h48 : t.f2 = 48
   ·have e48 : (t.f2 != 48) = false := bne_eq_false_iff_eq.2 h48
    rw [if_pos h48] at hst2
    have HS2 := Aside0.mk hst2
    have HMA := Aside0.mk (fun o => HD.out.1.alloc o)
    have HDA := Aside0.mk (fun o => HD.out.below (below_alloc (Below.refl _ _) o))
    clear hst2 h48 ht ht49 hk
    go_enter Tryd.func26, Tryd.ntmps26
    go_wp2_with (at_mapUpdate; refine MapS.wpput (HMA.out _) rfl _ _ _ rfl Tryd.underlying9 Tryd.underlying54 (by unfold maxLen; omega) rfl rfl hs0 rfl ?_; intro w2 hM2 hturn; have HM2 := Aside0.mk hM2; have HG2 := Aside0.mk hturn.grown; clear hM2 hturn)
    rw [← hQ.out]
    exact ⟨.inr ⟨_, _, HS2.out, rfl, DirS.name (HDA.out _) HX.out H49.out HM2.out HG2.out⟩, World.grownBy.trans (grown_of_below (below_alloc (Below.refl _ _) _) _) HG2.out⟩
   ·have e48 : (t.f2 != 48) = true := bne_iff_ne.2 h48
    rw [if_neg h48] at hst2
    have HS2 := Aside0.mk hst2
    clear hst2 h48 ht ht49 hk
    go_enter Tryd.func26, Tryd.ntmps26
    go_wp2
    rw [← hQ.out]
    exact ⟨.inl ⟨HS2.out, rfl⟩, grown_of_below (below_alloc (Below.refl _ _) _) _⟩
end Go.Proofs.YtiijbmaamblidaaDoor

namespace Go.Proofs
open Go.Shelf
def Tryd.keys42_ren : Go.Shelf.Ren := ⟨fun | 7 => 42 | 10 => 55 | n => n, fun | 23 => 54 | 26 => 9 | 3 => 68 | 28 => 75 | 0 => 0 | 27 => 74 | 33 => 49 | 4 => 4 | n => n, fun | n => n⟩
theorem Tryd.keys42 : Go.Proofs.SlLaysZ.n7 Tryd.prog Tryd.keys42_ren := {
  mixed := by kernel_rfl
  f7 := ⟨Tryd.f42.name, by decide, Tryd.func42.trans (congrArg some (by kernel_rfl))⟩
  f10 := ⟨Tryd.f55.name, by decide, Tryd.func55.trans (congrArg some (by kernel_rfl))⟩
  t0 := Tryd.underlying0
  a0 := Tryd.isAgg0
  z0 := Tryd.sizeOf0
  v0 := Tryd.zeroValue0
  t4 := Tryd.underlying4
  a4 := Tryd.isAgg4
  z4 := Tryd.sizeOf4
  v4 := Tryd.zeroValue4
  t23 := Tryd.underlying54
  a23 := Tryd.isAgg54
  z23 := Tryd.sizeOf54
  v23 := Tryd.zeroValue54
  t26 := Tryd.underlying9
  a26 := Tryd.isAgg9
  z26 := Tryd.sizeOf9
  v26 := Tryd.zeroValue9
  t27 := Tryd.underlying74
  a27 := Tryd.isAgg74
  z27 := Tryd.sizeOf74
  v27 := Tryd.zeroValue74
  t28 := Tryd.underlying75
  a28 := Tryd.isAgg75
  z28 := Tryd.sizeOf75
  v28 := Tryd.zeroValue75
  t33 := Tryd.underlying49
  a33 := Tryd.isAgg49
  z33 := Tryd.sizeOf49
  v33 := Tryd.zeroValue49 }
def Tryd.sorted41_ren : Go.Shelf.Ren := ⟨fun | 6 => 41 | 8 => 53 | 9 => 54 | 11 => 74 | 13 => 46 | 12 => 75 | 23 => 67 | 24 => 68 | 14 => 89 | 15 => 90 | 16 => 91 | 17 => 92 | 18 => 93 | 19 => 94 | 20 => 95 | 21 => 96 | 22 => 97 | 25 => 105 | 26 => 78 | 27 => 79 | 28 => 106 | 29 => 107 | 30 => 108 | 31 => 116 | n => n, fun | 26 => 9 | 28 => 75 | 24 => 47 | 0 => 0 | 3 => 3 | 37 => 83 | 48 => 101 | 50 => 103 | 4 => 4 | 40 => 95 | 39 => 94 | 45 => 89 | 5 => 5 | 9 => 9 | 51 => 109 | 55 => 113 | 57 => 135 | 58 => 136 | 33 => 49 | n => n, fun | n => n⟩
theorem Tryd.sorted41 : Go.Proofs.SlLaysZ.n6 Tryd.prog Tryd.sorted41_ren := {
  mixed := by kernel_rfl
  f6 := ⟨Tryd.f41.name, by decide, Tryd.func41.trans (congrArg some (by kernel_rfl))⟩
  f8 := ⟨Tryd.f53.name, by decide, Tryd.func53.trans (congrArg some (by kernel_rfl))⟩
  f11 := ⟨Tryd.f74.name, by decide, Tryd.func74.trans (congrArg some (by kernel_rfl))⟩
  t0 := Tryd.underlying0
  a0 := Tryd.isAgg0
  z0 := Tryd.sizeOf0
  v0 := Tryd.zeroValue0
  t24 := Tryd.underlying47
  a24 := Tryd.isAgg47
  z24 := Tryd.sizeOf47
  v24 := Tryd.zeroValue47
  t26 := Tryd.underlying9
  a26 := Tryd.isAgg9
  z26 := Tryd.sizeOf9
  v26 := Tryd.zeroValue9
  t28 := Tryd.underlying75
  a28 := Tryd.isAgg75
  z28 := Tryd.sizeOf75
  v28 := Tryd.zeroValue75
  i26 := by kernel_rfl }
def Tryd.sort54_ren : Go.Shelf.Ren := ⟨fun | 6 => 54 | 8 => 46 | 9 => 75 | 19 => 67 | 20 => 68 | 21 => 89 | 22 => 90 | 23 => 91 | 24 => 92 | 25 => 93 | 26 => 94 | 27 => 95 | 28 => 96 | 29 => 97 | 36 => 105 | 31 => 78 | 32 => 79 | 37 => 106 | 38 => 107 | 39 => 108 | 41 => 116 | n => n, fun | 27 => 47 | 29 => 9 | 3 => 3 | 32 => 83 | 26 => 47 | 0 => 0 | 44 => 101 | 46 => 103 | 4 => 4 | 36 => 95 | 35 => 94 | 41 => 89 | 5 => 5 | 9 => 9 | 53 => 109 | 57 => 113 | 63 => 135 | 64 => 136 | n => n, fun | n => n⟩
theorem Tryd.sort54 : Go.Proofs.SlLaysM.n6 Tryd.prog Tryd.sort54_ren := {
  mixed := by kernel_rfl
  f6 := ⟨Tryd.f54.name, by decide, Tryd.func54.trans (congrArg some (by kernel_rfl))⟩
  f8 := Tryd.func46.trans (congrArg some (by kernel_rfl))
  f9 := ⟨Tryd.f75.name, by decide, Tryd.func75.trans (congrArg some (by kernel_rfl))⟩
  f19 := Tryd.func67.trans (congrArg some (by kernel_rfl))
  f20 := Tryd.func68.trans (congrArg some (by kernel_rfl))
  f21 := ⟨Tryd.f89.name, by decide, Tryd.func89.trans (congrArg some (by kernel_rfl))⟩
  f22 := ⟨Tryd.f90.name, by decide, Tryd.func90.trans (congrArg some (by kernel_rfl))⟩
  f23 := ⟨Tryd.f91.name, by decide, Tryd.func91.trans (congrArg some (by kernel_rfl))⟩
  f24 := ⟨Tryd.f92.name, by decide, Tryd.func92.trans (congrArg some (by kernel_rfl))⟩
  f25 := ⟨Tryd.f93.name, by decide, Tryd.func93.trans (congrArg some (by kernel_rfl))⟩
  f26 := ⟨Tryd.f94.name, by decide, Tryd.func94.trans (congrArg some (by kernel_rfl))⟩
  f27 := ⟨Tryd.f95.name, by decide, Tryd.func95.trans (congrArg some (by kernel_rfl))⟩
  f28 := ⟨Tryd.f96.name, by decide, Tryd.func96.trans (congrArg some (by kernel_rfl))⟩
  f29 := ⟨Tryd.f97.name, by decide, Tryd.func97.trans (congrArg some (by kernel_rfl))⟩
  f31 := Tryd.func78.trans (congrArg some (by kernel_rfl))
  f32 := Tryd.func79.trans (congrArg some (by kernel_rfl))
  f36 := ⟨Tryd.f105.name, by decide, Tryd.func105.trans (congrArg some (by kernel_rfl))⟩
  f37 := ⟨Tryd.f106.name, by decide, Tryd.func106.trans (congrArg some (by kernel_rfl))⟩
  f38 := ⟨Tryd.f107.name, by decide, Tryd.func107.trans (congrArg some (by kernel_rfl))⟩
  f39 := ⟨Tryd.f108.name, by decide, Tryd.func108.trans (congrArg some (by kernel_rfl))⟩
  f41 := ⟨Tryd.f116.name, by decide, Tryd.func116.trans (congrArg some (by kernel_rfl))⟩
  t0 := Tryd.underlying0
  a0 := Tryd.isAgg0
  z0 := Tryd.sizeOf0
  v0 := Tryd.zeroValue0
  t3 := Tryd.underlying3
  a3 := Tryd.isAgg3
  z3 := Tryd.sizeOf3
  v3 := Tryd.zeroValue3
  t4 := Tryd.underlying4
  a4 := Tryd.isAgg4
  z4 := Tryd.sizeOf4
  v4 := Tryd.zeroValue4
  t5 := Tryd.underlying5
  a5 := Tryd.isAgg5
  z5 := Tryd.sizeOf5
  v5 := Tryd.zeroValue5
  t9 := Tryd.underlying9
  a9 := Tryd.isAgg9
  z9 := Tryd.sizeOf9
  v9 := Tryd.zeroValue9
  t26 := Tryd.underlying47
  a26 := Tryd.isAgg47
  z26 := Tryd.sizeOf47
  v26 := Tryd.zeroValue47
  t27 := Tryd.underlying47
  a27 := Tryd.isAgg47
  z27 := Tryd.sizeOf47
  v27 := Tryd.zeroValue47
  t29 := Tryd.underlying9
  a29 := Tryd.isAgg9
  z29 := Tryd.sizeOf9
  v29 := Tryd.zeroValue9
  t32 := Tryd.underlying83
  a32 := Tryd.isAgg83
  z32 := Tryd.sizeOf83
  v32 := Tryd.zeroValue83
  t35 := Tryd.underlying94
  a35 := Tryd.isAgg94
  z35 := Tryd.sizeOf94
  v35 := Tryd.zeroValue94
  t36 := Tryd.underlying95
  a36 := Tryd.isAgg95
  z36 := Tryd.sizeOf95
  v36 := Tryd.zeroValue95
  t41 := Tryd.underlying89
  a41 := Tryd.isAgg89
  z41 := Tryd.sizeOf89
  v41 := Tryd.zeroValue89
  t44 := Tryd.underlying101
  a44 := Tryd.isAgg101
  z44 := Tryd.sizeOf101
  v44 := Tryd.zeroValue101
  t46 := Tryd.underlying103
  a46 := Tryd.isAgg103
  z46 := Tryd.sizeOf103
  v46 := Tryd.zeroValue103
  t53 := Tryd.underlying109
  a53 := Tryd.isAgg109
  z53 := Tryd.sizeOf109
  v53 := Tryd.zeroValue109
  t57 := Tryd.underlying113
  a57 := Tryd.isAgg113
  z57 := Tryd.sizeOf113
  v57 := Tryd.zeroValue113
  t63 := Tryd.underlying135
  a63 := Tryd.isAgg135
  z63 := Tryd.sizeOf135
  v63 := Tryd.zeroValue135
  t64 := Tryd.underlying136
  a64 := Tryd.isAgg136
  z64 := Tryd.sizeOf136
  v64 := Tryd.zeroValue136 }
open Go.RowKit Go.Maps Go.Sort
theorem Tryd.sorts41 (m : Nat) : AnyZ.SortsIn Tryd.prog Tryd.sorted41_ren Fence.wide m :=
  ⟨fun blk off cap ss W hH hblk hsz => callsIn_wide.2 (AnyM.slices_Sort_string Tryd.sort54 blk off cap ss W hH hblk hsz),
   fun p cap W => callsIn_wide.2 (AnyM.slices_Sort_string_none Tryd.sort54 p cap W)⟩
theorem Tryd.maps_Keys_42 (mb : Option Nat) (W : World) : CallsIn Fence.wide 5 Tryd.prog 42 #[.map mb] W fun e w' => e = .returned (.func (.func 55) #[] #[.pointer (some ⟨W.heap.size, 0, none⟩)]) ∧ w' = W.alloc (.cells #[.map mb] 54) :=
  AnyZ.keys_in Tryd.keys42 Fence.wide 5 trivial rfl mb W
set_option maxHeartbeats 1000000 in
theorem Tryd.slices_Sorted_keys_41_42 {H : Type} (b nn : Nat) (D0 : DataW H) (R : Value → Option (DataW H × List MemPlace)) (w : World) (hown : w.ownsMap Tryd.prog 9 R b nn D0) (hmax : Maps.size D0 ≤ maxLen) (hbytes : Maps.size D0 * 16 ≤ 140737488355328) :
    CallsIn Fence.wide 5 Tryd.prog 41 #[.func (.func 55) #[] #[.pointer (some ⟨w.heap.size, 0, none⟩)]] (w.alloc (.cells #[.map (some b)] 54)) fun e w' => ∃ (v : Value) (ss : List (List UInt8)), e = .returned v ∧ ss.Perm (strKeys D0) ∧
      w'.ownsRow (w.alloc (.cells #[.map (some b)] 54)).heap.size 9 1 v ss.length ((ss.mergeSort (fun x y => decide (x ≤ y))).map encStr) ∧ (v = .slice none 0 0 ↔ ss = []) ∧ Below (w.alloc (.cells #[.map (some b)] 54)).heap.size (w.alloc (.cells #[.map (some b)] 54)) w' := by
  have hbl := hown.lt
  have hseq : SeqGives Fence.wide 2 Tryd.prog 55 #[.pointer (some ⟨w.heap.size, 0, none⟩)] encStr (fun ss => ss.Perm (strKeys D0)) (Maps.size D0) (w.alloc (.cells #[.map (some b)] 54)) :=
    AnyZ.keys_gives (ρ := Tryd.keys42_ren) { Tryd.keys42 with } Fence.wide _ trivial rfl (by omega) w.heap.size b nn D0 _ (by simp) (by simp) (by
      obtain ⟨es, clock, hb, Ft, hs, hD⟩ := hown
      exact ⟨es, clock, (Below.heap_alloc _ _ b hbl).trans hb, Ft, hs, hD⟩)
  exact AnyZ.sorted_in Tryd.sorted41 Fence.wide 5 trivial trivial trivial trivial rfl (by omega) (Tryd.sorts41 _) (enters_of Tryd.func54 (by kernel_rfl) rfl) 55 #[.pointer (some ⟨w.heap.size, 0, none⟩)] trivial (enters_of Tryd.func55 (by kernel_rfl) rfl) _ _ hmax hbytes _ hseq
end Go.Proofs

namespace Go.Proofs.YtiijbmaamblidaaDoor
open Go.RowKit Go.Maps Go.Proofs.YtiijbmaamblidaaDoor.Print Go.Proofs.YtiijbmaamblidaaDoorW.PrintWords Go.Proofs.YtiijbmaamblidaaDoorW.PrintLast Go.Proofs.YtiijbmaamblidaaDoorW.PrintMore
set_option linter.unusedVariables false
set_option linter.unusedSimpArgs false
def ldF (m : Mem) (s : PS) (c : Nat) : ByteArray := if m.f2 = 48 then leadOf s c else emp
def ThingsS (w : World) (base : Nat) (l : List Mem) (B : Nat → Nat) (s : PS) : Prop := ∀ c m, l[c]? = some m → ¬ m.f2 = 49 → ThingAt w base (B c) m (ldF m s c)
theorem ThingsS.below {w w1 : World} {base : Nat} {l : List Mem} {B : Nat → Nat} {s : PS} (h : ThingsS w base l B s) (hb : Below w.heap.size w w1) : ThingsS w1 base l B s := fun c m h1 h2 => (h c m h1 h2).below hb
theorem ThingsS.grown {w w1 : World} {base g : Nat} {l : List Mem} {B : Nat → Nat} {s : PS} (h : ThingsS w base l B s) (hg : w.grownBy w1 (some g)) (ho : ∀ cs q, w.heap[g]? = some (.cells cs q (0, 0)) → q ≠ 71 ∧ q ≠ 5) : ThingsS w1 base l B s := fun c m h1 h2 => (h c m h1 h2).grown hg ho
theorem ThingsS.grown_none {w w1 : World} {base : Nat} {l : List Mem} {B : Nat → Nat} {s : PS} (h : ThingsS w base l B s) (hg : w.grownBy w1 none) : ThingsS w1 base l B s := fun c m h1 h2 => by
 obtain ⟨g0, v, hb, hR⟩ := h c m h1 h2
 exact ⟨g0, v, (hg.block _ (blk_lt' hb) (by simp)).trans hb, Kd.R_grown hR hg (fun k _ e => by cases e)⟩
theorem ld_same {m : Mem} {s : PS} {q : ByteArray × Nat} {c : Nat} (h : m.f2 = 48 → q.2 = c → s.any (fun r => decide (r.2 = c)) = true) : ldF m (s ++ [q]) c = ldF m s c := by
 unfold ldF
 by_cases h48 : m.f2 = 48
 ·rw [if_pos h48, if_pos h48, leadOf_snoc]
  by_cases ha : s.any (fun r => decide (r.2 = c)) = true
  ·rw [if_pos ha]
  ·rw [if_neg ha, if_neg (fun e => ha (h h48 e))]
   have ha' : s.any (fun r => decide (r.2 = c)) = false := Bool.eq_false_iff.2 ha
   exact (leadOf_take_none (fun q hq e => by rw [List.any_eq_false] at ha'; exact ha' q hq (decide_eq_true e))).symm
 ·rw [if_neg h48, if_neg h48]
theorem ld_new {m : Mem} {s : PS} {q : ByteArray × Nat} (h48 : m.f2 = 48) (h : s.any (fun r => decide (r.2 = q.2)) = false) : ldF m (s ++ [q]) q.2 = q.1 := by
 unfold ldF
 rw [if_pos h48, leadOf_snoc, if_neg (by rw [h]; simp), if_pos rfl]
theorem ThingsS.stay {w : World} {base : Nat} {l : List Mem} {B : Nat → Nat} {s : PS} {q : ByteArray × Nat} (h : ThingsS w base l B s) (hq : ∀ m, l[q.2]? = some m → m.f2 = 48 → s.any (fun r => decide (r.2 = q.2)) = true) : ThingsS w base l B (s ++ [q]) := fun c m h1 h2 => by
 rw [ld_same (fun h48 e => by subst e; exact hq m h1 h48)]
 exact h c m h1 h2
theorem ThingsS.store {w : World} {base : Nat} {l : List Mem} {B : Nat → Nat} {s : PS} {q : ByteArray × Nat} (h : ThingsS w base l B s) {m : Mem} (hm : l[q.2]? = some m) (h48 : m.f2 = 48) (hn : s.any (fun r => decide (r.2 = q.2)) = false)
  (hinj : ∀ c c' m m', c < c' → l[c]? = some m → ¬ m.f2 = 49 → l[c']? = some m' → ¬ m'.f2 = 49 → B c ≠ B c') : ThingsS (w.setCell ⟨B q.2, 7, none⟩ (.string q.1)) base l B (s ++ [q]) := fun c m' h1 h2 => by
 obtain ⟨_, v0, hb0, _⟩ := h q.2 m hm (by omega)
 obtain ⟨g0, v, hb, hR⟩ := h c m' h1 h2
 have hR' := Kd.R_set hR hb0 (fun k hk => by
  rcases List.mem_cons.1 hk with rfl | hk
  ·decide
  ·cases hk) 7 (.string q.1)
 by_cases e : c = q.2
 ·subst e
  rw [hm] at h1
  cases h1
  rw [ld_new h48 hn]
  exact ⟨g0, v, blk_put hb 7 _ rfl, hR'⟩
 ·rw [ld_same (fun _ e2 => absurd e2.symm e)]
  have hne : B c ≠ B q.2 := by
   rcases Nat.lt_trichotomy c q.2 with h3 | h3 | h3
   ·exact hinj _ _ _ _ h3 h1 h2 hm (by omega)
   ·exact absurd h3 e
   ·exact (hinj _ _ _ _ h3 hm (by omega) h1 h2).symm
  exact ⟨g0, v, (Below.heap_setCell w ⟨B q.2, 7, none⟩ _ _ hne).trans hb, hR'⟩
theorem nodeOf_ld {l : List Mem} {s : PS} {n : Nat} (hn : n < s.length) {m : Mem} (hm : l[s[n].2]? = some m) : nodeOf l s s[n] = ⟨s[n].1, m.f1, ldF m (s.take (n + 1)) s[n].2, m.f2, m.f3, m.f4⟩ := by
 unfold nodeOf ldF
 rw [List.getD_eq_getElem?_getD, hm, leadOf_take hn]
 rfl
def NodRel (l : List Mem) (s : PS) (base d : Nat) (B : Nat → Nat) (W : World) (vq : Value) (n : Int) (v : Value) (wr : World) : Prop :=
 0 ≤ n ∧ n ≤ (sortP s).length ∧ MapS Tryd.prog 9 wr d l.length (dirV B s) ∧ ThingsS wr base l B ((sortP s).take n.toNat) ∧ Kd.N k38 38 wr base (fun k => W.heap.size ≤ k) v (((sortP s).take n.toNat).map (nodeOf l (sortP s))) ∧
  Kd.R Kd.string 9 wr W.heap.size (fun _ => True) vq ((sortP s).map (fun q => q.1)) ∧ Below base W wr
def NodMid (l : List Mem) (s : PS) (base d : Nat) (B : Nat → Nat) (W : World) (vq : Value) (n : Int) (out : List Node) (v : Value) (wr : World) : Prop :=
 MapS Tryd.prog 9 wr d l.length (dirV B s) ∧ ThingsS wr base l B ((sortP s).take (n.toNat + 1)) ∧ Kd.N k38 38 wr base (fun k => W.heap.size ≤ k) v out ∧
  Kd.R Kd.string 9 wr W.heap.size (fun _ => True) vq ((sortP s).map (fun q => q.1)) ∧ Below base W wr
theorem mid_next {l : List Mem} {s : PS} {base d : Nat} {B : Nat → Nat} {W wm w5 w6 : World} {vq v v6 : Value} {n : Int} (h0 : 0 ≤ n) (hn : n.toNat < (sortP s).length) {out : List Node} (hout : ((sortP s).take n.toNat).map (nodeOf l (sortP s)) = out) (h : NodMid l s base d B W vq n out v wm) (hb5 : Below wm.heap.size wm w5) (hg : w5.grownBy w6 v.ownBlock) (hd : d < W.heap.size) (hbase : base ≤ W.heap.size) (hw : W.heap.size ≤ wm.heap.size)
  (hN : Kd.N k38 38 w6 base (fun k => W.heap.size ≤ k) v6 (out ++ [nodeOf l (sortP s) ((sortP s)[n.toNat])])) (hB : Below base W w6) : NodRel l s base d B W vq (n + 1) v6 w6 := by
 obtain ⟨hM, hT, hNv, hR, hBm⟩ := h
 have hNv5 := Kd.N_below hNv hb5
 have e1 : (n + 1).toNat = n.toNat + 1 := by omega
 have hown : ∀ k, v.ownBlock = some k → W.heap.size ≤ k := fun k hk => hNv5.1 k hk
 refine ⟨by omega, by omega, (hM.below hb5).kept hg (fun e => by have := hown d e.symm; omega), ?_, ?_, ?_, hB⟩
 ·rw [e1]
  cases hv : v.ownBlock with
  | none => exact (hT.below hb5).grown_none (by rw [hv] at hg; exact hg)
  | some g =>
   rw [hv] at hg
   refine (hT.below hb5).grown hg (fun cs q hc => ?_)
   obtain ⟨cs', hc'⟩ := Kd.N_typed hNv5 g hv
   rw [hc'] at hc
   injection hc with hc
   injection hc with _ hc
   subst hc
   decide
 ·rw [e1, List.take_succ_eq_append_getElem hn, List.map_append, hout]
  exact hN
 ·have hR5 := Kd.R_below hR hb5
  refine Kd.R_mono (Kd.R_grown (Kd.R_bound hR5) hg (fun k hk e => ?_)) (fun _ _ => trivial)
  obtain ⟨_, _, _, q, hq, cs, hc⟩ := hk
  obtain ⟨cs', hc'⟩ := Kd.N_typed hNv5 k e.symm
  rw [hc'] at hc
  injection hc with hc
  injection hc with _ hc
  rcases List.mem_cons.1 hq with h | h
  ·rw [h] at hc; exact absurd hc (by decide)
  ·cases h
theorem thing_soft {w : World} {b : Nat} {m : Mem} {v : Value} {ld : ByteArray} (h : w.heap[b]? = some (.cells (thingCells m v ld) 71 (0, 0))) (j : Nat) : w.frozen? ⟨b, j, none⟩ = false := by
 unfold World.frozen?
 dsimp only
 rw [h]
 rfl
theorem sorted_row {w : World} {b : Nat} {v : Value} {ss : List (List UInt8)} {s : PS} (h : w.ownsRow b 9 1 v ss.length ((ss.mergeSort (fun x y => decide (x ≤ y))).map encStr)) (hp : ss.Perm (keysP s)) (hn : (s.map (fun q => q.1)).Nodup) :
  (∃ A c, v = .slice A (sortP s).length c) ∧ Kd.R Kd.string 9 w b (fun _ => True) v ((sortP s).map (fun q => q.1)) := by
 have hR : Kd.R Kd.string 9 w b (fun _ => True) v ((sortP s).map (fun q => q.1)) := by
  refine Kd.R_of_own ?_ (fun _ _ => trivial)
  rw [keys_sorted hn hp] at h
  have e1 : ss.length = ((sortP s).map (fun q => q.1)).length := by rw [hp.length_eq, List.length_map, sortP_len]; unfold keysP; rw [List.length_map]
  rw [e1] at h
  have e2 : (keysP (sortP s)).map encStr = encs Value.string ((sortP s).map (fun q => q.1)) := by
   unfold keysP encs
   rw [List.map_map, List.map_map]
   refine List.map_congr_left (fun q _ => ?_)
   simp [encStr]
  rw [e2] at h
  exact h
 obtain ⟨A, c, e⟩ := Kd.R_slice hR
 exact ⟨⟨A, c, by rw [e, List.length_map]⟩, hR⟩
theorem made_N (W : World) (base n : Nat) (cur : Array Value) (hb : base ≤ W.heap.size) (hc : cur.size = n * 9) (hn : n ≤ maxLen) : Kd.N k38 38 (W.alloc (.cells cur 38)) base (fun k => W.heap.size ≤ k) (.slice (some ⟨W.heap.size, 0, none⟩) 0 n) [] :=
 ⟨fun k hk => by simp [Value.ownBlock] at hk; omega, [], rfl, ⟨fun k hk => hk.symm, [], World.ownsRow_made W cur n hb hn hc, Reps.none _ _⟩, fun j x c h => by simp at h⟩
theorem drew_below {w wq : World} (h : w.drew = wq) : Below w.heap.size w wq := by rw [← h]; exact below_drew (Below.refl _ _)
theorem rcell' {W w1 : World} {row : Option Nat} (hg : W.grownBy w1 row) {g o : Nat} {v : Value} (hne : some g ≠ row) (h : W.cell? ⟨g, o, none⟩ = some v) : w1.cell? ⟨g, o, none⟩ = some v := (World.cell?_of_block (a := ⟨g, o, none⟩) (hg.block g (World.block_lt_of_cell? W _ h) hne)).trans h
set_option maxRecDepth 100000 in
set_option maxHeartbeats 8000000 in
theorem Nodes_calls (base d : Nat) (l : List Mem) (s : PS) (B : Nat → Nat) (W : World) (hlen : l.length ≤ 1000000000000) (hz : ∀ m ∈ l, m.f4.length ≤ 140737488351232) (hD : DirS W base d l.length l s B) (hI : FInv l l.length s) (hbase : base ≤ W.heap.size) :
  Calls Tryd.prog 27 #[.map (some d)] W fun e W' => ∃ v, e = .returned v ∧ Kd.N k38 38 W' base (fun k => W.heap.size ≤ k) v ((sortP s).map (nodeOf l (sortP s))) ∧ Below base W W' := by
 have hdlt : d < W.heap.size := hD.1.lt
 have hsle : s.length ≤ 1000000000000 := by have := hI.len; omega
 have hsl : ((sortP s).length : Int) ≤ 1000000000000 := by rw [sortP_len]; omega
 have hkeys : ∀ w, MapS Tryd.prog 9 w d l.length (dirV B s) → ∃ D : DataW Value, w.ownsMap Tryd.prog 9 heldE d l.length D ∧ (keysP s).Perm (strKeys D) ∧ Maps.size D = s.length := fun w h => by
  obtain ⟨D, h1, h2, h3⟩ := h.keys Tryd.underlying9 (keysP_nodup hI.nodup) (fun k => by rw [atD_is]; unfold dirV; cases atD s k <;> rfl)
  exact ⟨D, h1, h2, by rw [h3]; unfold keysP; rw [List.length_map]⟩
 obtain ⟨D0, hown0, hperm0, hsz0⟩ := hkeys W hD.1
 obtain ⟨i0, hi0, hzz⟩ := Option.map_eq_some_iff.1 infoNode
 simp only [Prod.mk.injEq] at hzz
 have hmk := fun w : World => run_make (P := Tryd.prog) w 31 38 i0 _ Tryd.underlying31 hi0 hzz.1 .i64 .i64 0 (s.length : Int) (by omega) (by omega) (by rw [hzz.2.2]; omega) (by omega)
 rw [hzz.2.1] at hmk
 simp only [Int.toNat_zero, Int.toNat_natCast] at hmk
 generalize hcur : madeCells _ (s.length * 9) = cur at hmk
 have hcs : cur.size = s.length * 9 := by rw [← hcur]; exact size_madeCells _ _
 obtain ⟨D1, hown1, hperm1, hsz1⟩ := hkeys (W.alloc (.cells cur 38)) (hD.1.alloc _)
 have hN0 := made_N W base s.length cur hbase hcs (by unfold maxLen; omega)
 have hcS := callsIn_wide.1 (Tryd.slices_Sorted_keys_41_42 d l.length D1 heldE _ hown1 (by rw [hsz1]; unfold maxLen; omega) (by rw [hsz1]; omega))
 simp only [World.size_alloc] at hcS
 have HCS := Aside0.mk hcS
 have HKK := Aside0.mk hperm1
 have HN0 := Aside0.mk hN0
 have HD := Aside0.mk hD
 have HI := Aside0.mk hI
 have HZ := Aside0.mk hz
 have HO0 := Aside0.mk hown0
 have HS0 := Aside0.mk hsz0
 clear hkeys hown0 hperm0 hsz0 hi0 hzz hcur hcs hown1 hperm1 hsz1 hN0 hD hI hz hcS
 generalize hpost : (fun (e : Ending) (W' : World) => ∃ v, e = .returned v ∧ Kd.N k38 38 W' base (fun k => W.heap.size ≤ k) v ((sortP s).map (nodeOf l (sortP s))) ∧ Below base W W') = Q
 have hQ := Aside0.mk hpost
 clear hpost
 go_enter Tryd.func27, Tryd.ntmps27
 go_wp2_with (first
  | (at_len; refine wpList_len_own _ rfl _ 54 rfl 9 68 Tryd.underlying54 heldE d l.length D0 rfl HO0.out ?_; rw [HS0.out])
  | (go_at_call 42; refine (callsIn_wide.1 (Tryd.maps_Keys_42 _ _)).mono ?_; rintro e w' ⟨rfl, rfl⟩)
  | (go_at_call 41; refine HCS.out.mono ?_; rintro e w2 ⟨vq, ss, rfl, hS, hrow, hnil, hb2⟩; obtain ⟨⟨Aq, cq, rfl⟩, hRq⟩ := sorted_row hrow (hS.trans HKK.out.symm) HI.out.nodup; have HRq := Aside0.mk hRq; have HB2 := Aside0.mk hb2; clear hS hrow hnil hb2 hRq))
 have hBA := below_alloc (below_alloc (Below.refl W.heap.size W) (Obj.cells cur 38)) (Obj.cells #[Value.map (some d)] 54)
 have hB2 : Below W.heap.size W w2 := hBA.trans (HB2.out.mono (by omega))
 have hstart : NodRel l s base d B W (.slice Aq (sortP s).length cq) 0 (.slice (some ⟨W.heap.size, 0, none⟩) 0 s.length) w2 := by
  refine ⟨by omega, by omega, HD.out.1.below hB2, fun c m h1 h2 => ?_, Kd.N_below (Kd.N_alloc HN0.out _) (by rw [World.size_alloc, World.size_alloc]; exact HB2.out), Kd.R_lower HRq.out (by omega), hB2.mono hbase⟩
  have := (HD.out.2.1 c m h1 (List.getElem?_eq_some_iff.1 h1).1 h2).below hB2
  have e : ldF m ((sortP s).take (0 : Int).toNat) c = emp := by unfold ldF; split <;> rfl
  rw [e]
  exact this
 have HST := Aside0.mk hstart
 clear hstart hB2 hBA HRq HB2
 go_loopw [14, 3] (fun i o wr => ∃ n : Int, i = .int .i64 n ∧ Aside0 (NodRel l s base d B W (.slice Aq (sortP s).length cq) n o wr)) (fun i _ _ => ((sortP s).length - (intOf i)).toNat)
 case atStart => exact ⟨0, rfl, HST⟩
 case round =>
  obtain ⟨n, rfl, HR⟩ := hrel
  have h0 := HR.out.1
  have h1 := HR.out.2.1
  have HW : Aside0 (W.heap.size ≤ wr.heap.size) := ⟨HR.out.2.2.2.2.2.2.size⟩
  have hNv := HR.out.2.2.2.2.1
  generalize hout : ((sortP s).take n.toNat).map (nodeOf l (sortP s)) = out at hNv
  obtain ⟨Ao, co, rfl⟩ := Kd.N_slice hNv
  have hol : out.length = n.toNat := by rw [← hout, List.length_map, List.length_take]; omega
  have HOL := Aside0.mk hol
  have HOUT := Aside0.mk hout
  have HNV := Aside0.mk hNv
  clear hol hout hNv
  by_cases hlt : n < ((sortP s).length : Int)
  ·have c1b : decide (n < ((sortP s).length : Int)) = true := decide_eq_true hlt
   have hnl : n.toNat < (sortP s).length := by omega
   have hqm : (sortP s)[n.toNat] ∈ s := (sortP_perm s).mem_iff.1 (List.getElem_mem _)
   obtain ⟨hc, m, hm, h49⟩ := HI.out.cls _ hqm
   have hfull := HI.out.full _ hqm
   have hps : ((sortP s)[n.toNat]).1.size ≤ maxLen := by have := HI.out.small _ hqm; unfold maxLen; omega
   have hat := atD_of_mem HI.out.nodup hqm
   have hCq := (Kd.R_reads' HR.out.2.2.2.2.2.1).2.2
   rw [List.length_map] at hCq
   obtain ⟨ad, hAq, x0⟩ := Kd.at_string hCq n h0 hlt
   have hx : rdOf ByteArray.empty ((sortP s).map (fun q => q.1)) n = (sortP s)[n.toNat].1 := by
    unfold rdOf
    rw [List.getD_eq_getElem?_getD, List.getElem?_map, List.getElem?_eq_getElem hnl]
    rfl
   rw [hx] at x0
   cases hAq
   have hdv : dirV B s (sortP s)[n.toNat].1.data.toList = some (.pointer (some ⟨B (sortP s)[n.toNat].2, 0, none⟩)) := by unfold dirV; rw [hat]; rfl
   have hlook := HR.out.2.2.1.look Tryd.underlying9 Tryd.underlying54 (zeroThing _) hps
   rw [hdv] at hlook
   simp only [Option.getD_some] at hlook
   have htk := List.take_succ_eq_append_getElem hnl
   have hnode := nodeOf_ld hnl hm
   have hTs := HR.out.2.2.2.1
   obtain ⟨hg0, v, hblk, hRb⟩ := hTs _ m hm h49
   generalize hqe : (sortP s)[n.toNat] = q at hqm hc hm hfull hps hat x0 hdv hlook htk hnode hblk hRb hg0
   obtain ⟨hk0, hk1, hk2, hk3, hk4, hk5, hk6, hk7⟩ := thing_cells hblk
   have hfz := thing_soft hblk 7
   have HTK := Aside0.mk htk
   have HND := Aside0.mk hnode
   have HM := Aside0.mk hm
   have H49 := Aside0.mk h49
   have HQE := Aside0.mk hqe
   have HFU := Aside0.mk hfull
   have hBlt := blk_lt' hblk
   have hmid : ∀ wm, (wm = wr ∧ (m.f2 = 48 → ((sortP s).take n.toNat).any (fun r => decide (r.2 = q.2)) = true) ∨ wm = wr.setCell ⟨B q.2, 7, none⟩ (.string q.1) ∧ m.f2 = 48 ∧ ((sortP s).take n.toNat).any (fun r => decide (r.2 = q.2)) = false) →
     NodMid l s base d B W (.slice (some ad) (sortP s).length cq) n out (.slice Ao out.length co) wm ∧ wr.heap.size = wm.heap.size := by
    rintro wm (⟨rfl, h⟩ | ⟨rfl, h48, h⟩)
    ·refine ⟨⟨HR.out.2.2.1, ?_, HNV.out, HR.out.2.2.2.2.2.1, HR.out.2.2.2.2.2.2⟩, rfl⟩
     rw [HTK.out]
     exact hTs.stay (fun m' hm' h48 => by rw [HM.out] at hm'; cases hm'; exact h h48)
    ·refine ⟨⟨HR.out.2.2.1.setCell (a := ⟨B q.2, 7, none⟩) (fun e => ?_) _, ?_, Kd.N_far HNV.out (p := ⟨B q.2, 7, none⟩) (fun k hk e => ?_) _, Kd.R_set HR.out.2.2.2.2.2.1 hblk (fun k hk => ?_) 7 _, HR.out.2.2.2.2.2.2.setCell (p := ⟨B q.2, 7, none⟩) hg0 _⟩, (World.size_setCell _ _ _).symm⟩
     ·have e' : d = B q.2 := e
      rw [← e'] at hblk
      exact HR.out.2.2.1.isMap _ _ hblk
     ·rw [HTK.out]
      exact hTs.store HM.out h48 h (fun c c' m1 m2 h1 h2 h3 h4 h5 => HD.out.2.2 c c' m1 m2 h1 (List.getElem?_eq_some_iff.1 h4).1 h2 h3 h4 h5)
     ·have e' : k = B q.2 := e
      have h8 : B q.2 < W.heap.size := (HD.out.2.1 _ m HM.out (List.getElem?_eq_some_iff.1 HM.out).1 H49.out).lt
      omega
     ·rcases List.mem_cons.1 hk with rfl | hk
      ·decide
      ·cases hk
   have HMID := Aside0.mk hmid
   have hlf := leadOf_full (s := (sortP s).take n.toNat) (fun r hr => HI.out.full r ((sortP_perm s).mem_iff.1 (List.mem_of_mem_take hr))) q.2
   have HLF := Aside0.mk hlf
   clear hqm hc hm hat hdv htk hnode hTs hRb hqe hfull hmid hlf hCq hx hblk h49
   by_cases h48 : m.f2 = 48
   ·have e48 : (m.f2 == 48) = true := beq_iff_eq.2 h48
    have eld : ldF m ((sortP s).take n.toNat) q.2 = leadOf ((sortP s).take n.toNat) q.2 := by unfold ldF; rw [if_pos h48]
    rw [eld] at hk7
    generalize hld : leadOf ((sortP s).take n.toNat) q.2 = ld0 at hk7
    have H48 := Aside0.mk h48
    have HLD := Aside0.mk hld
    clear h48 eld hld
    cases ha : ((sortP s).take n.toNat).any (fun r => decide (r.2 = q.2)) with
    | true =>
     have hne : (ld0.toList == []) = false := by rw [beq_eq_false_iff_ne, ← HLD.out]; intro e; rw [HLF.out.1 e] at ha; cases ha
     have hne2 : ld0.toList ≠ [] := by simpa using hne
     obtain ⟨hmid, hwz⟩ := HMID.out wr (.inl ⟨rfl, fun _ => ha⟩)
     have HMM := Aside0.mk hmid
     clear ha hmid
     go_upto_region 8 with (fail)
     obtain ⟨_, vb, hbm, hRm⟩ := HMM.out.2.1 q.2 m HM.out H49.out
     obtain ⟨Ab, cb, rfl, hlb, hCb⟩ := Kd.R_reads hRm
     rw [HTK.out] at hbm
     generalize hldn : ldF m ((sortP s).take n.toNat ++ [q]) q.2 = ldn at hbm
     obtain ⟨j0, j1, j2, j3, j4, j5, j6, j7⟩ := thing_cells hbm
     have HCB := Aside0.mk hCb
     have HLB := Aside0.mk hlb
     have HLN := Aside0.mk hldn
     have HBM := Aside0.mk hbm
     have hwlt : W.heap.size ≤ wr.heap.size := HW.out
     clear hRm hCb hlb hldn hbm hk0 hk1 hk2 hk3 hk4 hk5 hk6 hk7
     refine start_ (n := 27) (S := fun w' => w'.cell? ⟨B q.2, 0, none⟩ = some (.int .u8 m.f2) ∧ w'.cell? ⟨B q.2, 1, none⟩ = some (.int .i64 m.f3.f0) ∧ w'.cell? ⟨B q.2, 2, none⟩ = some (.int .i64 m.f3.f1) ∧ w'.cell? ⟨B q.2, 3, none⟩ = some (.int .i64 m.f3.f2) ∧ w'.cell? ⟨B q.2, 4, none⟩ = some (.int .i64 m.f3.f3) ∧ w'.cell? ⟨B q.2, 5, none⟩ = some (.string m.f1) ∧ w'.cell? ⟨B q.2, 6, none⟩ = some (.slice Ab m.f4.length cb) ∧ w'.cell? ⟨B q.2, 7, none⟩ = some (.string ldn)) (ds := []) #[false, false, false, false, false, false, false, false, false, false, false, false, false, false, false, false, false, false, false, false, false, false, false, false, false, false, false] (by kernel_rfl) rfl rfl ⟨j0, j1, j2, j3, j4, j5, j6, j7⟩ (fun hHeld => ?_)
     generalize hwq : World.drew _ = wq at hHeld ⊢
     have hzq : wr.heap.size = wq.heap.size := by rw [← hwq]; exact hwz
     have HNQ : Aside0 (Kd.N k38 38 wq base (fun k => W.heap.size ≤ k) (.slice Ao out.length co) out) := ⟨by rw [← hwq]; exact Kd.N_drew HMM.out.2.2.1⟩
     have HBQ : Aside0 (Below base W wq) := ⟨by rw [← hwq]; exact below_drew HMM.out.2.2.2.2⟩
     have HOB := Aside0.mk (Kd.N_lt HNQ.out)
     have HNE : Aside0 (∀ w5 : World, Below wq.heap.size wq w5 → some (B q.2) ≠ (Value.slice Ao out.length co).ownBlock) := ⟨fun w5 hb => Kd.N_ne (cells := thingCells m (.slice Ab m.f4.length cb) ldn) (t := 71) HNQ.out (by rw [← hwq]; exact HBM.out) (by decide)⟩
     refine pure_ (i := 0) (N := some 37) (v := ?_) (a' := ?_) #[true, false, false, false, false, false, false, false, false, false, false, false, false, false, false, false, false, false, false, false, false, false, false, false, false, false, false] rfl rfl (by kernel_rfl) (fun _ _ _ h => h) (Or.inl ⟨by rfl, ?_⟩) ?_ ?_
     rotate_left
     ·intro w'
      go_simp
      with_reducible rfl
     rotate_left
     ·simp only [Act.put, List.setIfInBounds_toArray, List.set_cons_zero, List.set_cons_succ, i64_w, i32_w]
      rfl
     refine pure_ (i := 1) (N := some 38) (v := ?_) (a' := ?_) #[true, true, false, false, false, false, false, false, false, false, false, false, false, false, false, false, false, false, false, false, false, false, false, false, false, false, false] rfl rfl (by kernel_rfl) (fun _ _ _ h => h) (Or.inl ⟨by rfl, ?_⟩) ?_ ?_
     rotate_left
     ·intro w'
      go_simp
      with_reducible rfl
     rotate_left
     ·simp only [Act.put, List.setIfInBounds_toArray, List.set_cons_zero, List.set_cons_succ, i64_w, i32_w]
      rfl
     refine pure_ (i := 2) (N := some 39) (v := ?_) (a' := ?_) #[true, true, true, false, false, false, false, false, false, false, false, false, false, false, false, false, false, false, false, false, false, false, false, false, false, false, false] rfl rfl (by kernel_rfl) (fun _ _ _ h => h) (Or.inl ⟨by rfl, ?_⟩) ?_ ?_
     rotate_left
     ·intro w'
      go_simp
      with_reducible rfl
     rotate_left
     ·simp only [Act.put, List.setIfInBounds_toArray, List.set_cons_zero, List.set_cons_succ, i64_w, i32_w]
      rfl
     refine pure_ (i := 3) (N := some 40) (v := ?_) (a' := ?_) #[true, true, true, true, false, false, false, false, false, false, false, false, false, false, false, false, false, false, false, false, false, false, false, false, false, false, false] rfl rfl (by kernel_rfl) (fun _ _ _ h => h) (Or.inl ⟨by rfl, ?_⟩) ?_ ?_
     rotate_left
     ·intro w'
      go_simp
      with_reducible rfl
     rotate_left
     ·simp only [Act.put, List.setIfInBounds_toArray, List.set_cons_zero, List.set_cons_succ, i64_w, i32_w]
      rfl
     refine pure_ (i := 4) (N := some 41) (v := ?_) (a' := ?_) #[true, true, true, true, true, false, false, false, false, false, false, false, false, false, false, false, false, false, false, false, false, false, false, false, false, false, false] rfl rfl (by kernel_rfl) (fun _ _ _ h => h) (Or.inl ⟨by rfl, ?_⟩) ?_ ?_
     rotate_left
     ·intro w'
      go_simp
      with_reducible rfl
     rotate_left
     ·simp only [Act.put, List.setIfInBounds_toArray, List.set_cons_zero, List.set_cons_succ, i64_w, i32_w]
      rfl
     refine take_ (i := 5) (N := some 42) (v := ?_) (a' := ?_) #[true, true, true, true, true, true, false, false, false, false, false, false, false, false, false, false, false, false, false, false, false, false, false, false, false, false, false] rfl rfl (by kernel_rfl) (fun _ _ _ h => h) (Or.inl ⟨by rfl, ?_⟩) hHeld ?_ ?_
     rotate_left
     ·rintro w' ⟨s0, s1, s2, s3, s4, s5, s6, s7⟩
      go_simp
      with_reducible rfl
     rotate_left
     ·simp only [Act.put, List.setIfInBounds_toArray, List.set_cons_zero, List.set_cons_succ, i64_w, i32_w]
      rfl
     refine pure_ (i := 6) (N := some 43) (v := ?_) (a' := ?_) #[true, true, true, true, true, true, true, false, false, false, false, false, false, false, false, false, false, false, false, false, false, false, false, false, false, false, false] rfl rfl (by kernel_rfl) (fun _ _ _ h => h) (Or.inl ⟨by rfl, ?_⟩) ?_ ?_
     rotate_left
     ·intro w'
      go_simp
      with_reducible rfl
     rotate_left
     ·simp only [Act.put, List.setIfInBounds_toArray, List.set_cons_zero, List.set_cons_succ, i64_w, i32_w]
      rfl
     refine pure_ (i := 7) (N := some 44) (v := ?_) (a' := ?_) #[true, true, true, true, true, true, true, true, false, false, false, false, false, false, false, false, false, false, false, false, false, false, false, false, false, false, false] rfl rfl (by kernel_rfl) (fun _ _ _ h => h) (Or.inl ⟨by rfl, ?_⟩) ?_ ?_
     rotate_left
     ·intro w'
      go_simp
      with_reducible rfl
     rotate_left
     ·simp only [Act.put, List.setIfInBounds_toArray, List.set_cons_zero, List.set_cons_succ, i64_w, i32_w]
      rfl
     refine pure_ (i := 8) (N := some 45) (v := ?_) (a' := ?_) #[true, true, true, true, true, true, true, true, true, false, false, false, false, false, false, false, false, false, false, false, false, false, false, false, false, false, false] rfl rfl (by kernel_rfl) (fun _ _ _ h => h) (Or.inl ⟨by rfl, ?_⟩) ?_ ?_
     rotate_left
     ·intro w'
      go_simp
      with_reducible rfl
     rotate_left
     ·simp only [Act.put, List.setIfInBounds_toArray, List.set_cons_zero, List.set_cons_succ, i64_w, i32_w]
      rfl
     refine take_ (i := 9) (N := some 46) (v := ?_) (a' := ?_) #[true, true, true, true, true, true, true, true, true, true, false, false, false, false, false, false, false, false, false, false, false, false, false, false, false, false, false] rfl rfl (by kernel_rfl) (fun _ _ _ h => h) (Or.inl ⟨by rfl, ?_⟩) hHeld ?_ ?_
     rotate_left
     ·rintro w' ⟨s0, s1, s2, s3, s4, s5, s6, s7⟩
      go_simp
      with_reducible rfl
     rotate_left
     ·simp only [Act.put, List.setIfInBounds_toArray, List.set_cons_zero, List.set_cons_succ, i64_w, i32_w]
      rfl
     refine pure_ (i := 10) (N := some 47) (v := ?_) (a' := ?_) #[true, true, true, true, true, true, true, true, true, true, true, false, false, false, false, false, false, false, false, false, false, false, false, false, false, false, false] rfl rfl (by kernel_rfl) (fun _ _ _ h => h) (Or.inl ⟨by rfl, ?_⟩) ?_ ?_
     rotate_left
     ·intro w'
      go_simp
      with_reducible rfl
     rotate_left
     ·simp only [Act.put, List.setIfInBounds_toArray, List.set_cons_zero, List.set_cons_succ, i64_w, i32_w]
      rfl
     refine pure_ (i := 11) (N := some 48) (v := ?_) (a' := ?_) #[true, true, true, true, true, true, true, true, true, true, true, true, false, false, false, false, false, false, false, false, false, false, false, false, false, false, false] rfl rfl (by kernel_rfl) (fun _ _ _ h => h) (Or.inl ⟨by rfl, ?_⟩) ?_ ?_
     rotate_left
     ·intro w'
      go_simp
      with_reducible rfl
     rotate_left
     ·simp only [Act.put, List.setIfInBounds_toArray, List.set_cons_zero, List.set_cons_succ, i64_w, i32_w]
      rfl
     refine pure_ (i := 12) (N := some 49) (v := ?_) (a' := ?_) #[true, true, true, true, true, true, true, true, true, true, true, true, true, false, false, false, false, false, false, false, false, false, false, false, false, false, false] rfl rfl (by kernel_rfl) (fun _ _ _ h => h) (Or.inl ⟨by rfl, ?_⟩) ?_ ?_
     rotate_left
     ·intro w'
      go_simp
      with_reducible rfl
     rotate_left
     ·simp only [Act.put, List.setIfInBounds_toArray, List.set_cons_zero, List.set_cons_succ, i64_w, i32_w]
      rfl
     refine take_ (i := 13) (N := some 50) (v := ?_) (a' := ?_) #[true, true, true, true, true, true, true, true, true, true, true, true, true, true, false, false, false, false, false, false, false, false, false, false, false, false, false] rfl rfl (by kernel_rfl) (fun _ _ _ h => h) (Or.inl ⟨by rfl, ?_⟩) hHeld ?_ ?_
     rotate_left
     ·rintro w' ⟨s0, s1, s2, s3, s4, s5, s6, s7⟩
      go_simp
      with_reducible rfl
     rotate_left
     ·simp only [Act.put, List.setIfInBounds_toArray, List.set_cons_zero, List.set_cons_succ, i64_w, i32_w]
      rfl
     refine pure_ (i := 14) (N := some 51) (v := ?_) (a' := ?_) #[true, true, true, true, true, true, true, true, true, true, true, true, true, true, true, false, false, false, false, false, false, false, false, false, false, false, false] rfl rfl (by kernel_rfl) (fun _ _ _ h => h) (Or.inl ⟨by rfl, ?_⟩) ?_ ?_
     rotate_left
     ·intro w'
      go_simp
      with_reducible rfl
     rotate_left
     ·simp only [Act.put, List.setIfInBounds_toArray, List.set_cons_zero, List.set_cons_succ, i64_w, i32_w]
      rfl
     refine pure_ (i := 15) (N := some 52) (v := ?_) (a' := ?_) #[true, true, true, true, true, true, true, true, true, true, true, true, true, true, true, true, false, false, false, false, false, false, false, false, false, false, false] rfl rfl (by kernel_rfl) (fun _ _ _ h => h) (Or.inl ⟨by rfl, ?_⟩) ?_ ?_
     rotate_left
     ·intro w'
      go_simp
      with_reducible rfl
     rotate_left
     ·simp only [Act.put, List.setIfInBounds_toArray, List.set_cons_zero, List.set_cons_succ, i64_w, i32_w]
      rfl
     refine pure_ (i := 16) (N := some 53) (v := ?_) (a' := ?_) #[true, true, true, true, true, true, true, true, true, true, true, true, true, true, true, true, true, false, false, false, false, false, false, false, false, false, false] rfl rfl (by kernel_rfl) (fun _ _ _ h => h) (Or.inl ⟨by rfl, ?_⟩) ?_ ?_
     rotate_left
     ·intro w'
      go_simp
      with_reducible rfl
     rotate_left
     ·simp only [Act.put, List.setIfInBounds_toArray, List.set_cons_zero, List.set_cons_succ, i64_w, i32_w]
      rfl
     refine take_ (i := 17) (N := some 54) (v := ?_) (a' := ?_) #[true, true, true, true, true, true, true, true, true, true, true, true, true, true, true, true, true, true, false, false, false, false, false, false, false, false, false] rfl rfl (by kernel_rfl) (fun _ _ _ h => h) (Or.inl ⟨by rfl, ?_⟩) hHeld ?_ ?_
     rotate_left
     ·rintro w' ⟨s0, s1, s2, s3, s4, s5, s6, s7⟩
      go_simp
      with_reducible rfl
     rotate_left
     ·simp only [Act.put, List.setIfInBounds_toArray, List.set_cons_zero, List.set_cons_succ, i64_w, i32_w]
      rfl
     refine pure_ (i := 18) (N := some 55) (v := ?_) (a' := ?_) #[true, true, true, true, true, true, true, true, true, true, true, true, true, true, true, true, true, true, true, false, false, false, false, false, false, false, false] rfl rfl (by kernel_rfl) (fun _ _ _ h => h) (Or.inl ⟨by rfl, ?_⟩) ?_ ?_
     rotate_left
     ·intro w'
      go_simp
      with_reducible rfl
     rotate_left
     ·simp only [Act.put, List.setIfInBounds_toArray, List.set_cons_zero, List.set_cons_succ, i64_w, i32_w]
      rfl
     refine pure_ (i := 19) (N := some 56) (v := ?_) (a' := ?_) #[true, true, true, true, true, true, true, true, true, true, true, true, true, true, true, true, true, true, true, true, false, false, false, false, false, false, false] rfl rfl (by kernel_rfl) (fun _ _ _ h => h) (Or.inl ⟨by rfl, ?_⟩) ?_ ?_
     rotate_left
     ·intro w'
      go_simp
      with_reducible rfl
     rotate_left
     ·simp only [Act.put, List.setIfInBounds_toArray, List.set_cons_zero, List.set_cons_succ, i64_w, i32_w]
      rfl
     refine pure_ (i := 20) (N := some 57) (v := ?_) (a' := ?_) #[true, true, true, true, true, true, true, true, true, true, true, true, true, true, true, true, true, true, true, true, true, false, false, false, false, false, false] rfl rfl (by kernel_rfl) (fun _ _ _ h => h) (Or.inl ⟨by rfl, ?_⟩) ?_ ?_
     rotate_left
     ·intro w'
      go_simp
      with_reducible rfl
     rotate_left
     ·simp only [Act.put, List.setIfInBounds_toArray, List.set_cons_zero, List.set_cons_succ, i64_w, i32_w]
      rfl
     refine take_ (i := 21) (N := some 58) (v := ?_) (a' := ?_) #[true, true, true, true, true, true, true, true, true, true, true, true, true, true, true, true, true, true, true, true, true, true, false, false, false, false, false] rfl rfl (by kernel_rfl) (fun _ _ _ h => h) (Or.inl ⟨by rfl, ?_⟩) hHeld ?_ ?_
     rotate_left
     ·rintro w' ⟨s0, s1, s2, s3, s4, s5, s6, s7⟩
      go_simp
      with_reducible rfl
     rotate_left
     ·simp only [Act.put, List.setIfInBounds_toArray, List.set_cons_zero, List.set_cons_succ, i64_w, i32_w]
      rfl
     refine one_ (i := 22) (N := some 59) #[true, true, true, true, true, true, true, true, true, true, true, true, true, true, true, true, true, true, true, true, true, true, true, false, false, false, false] rfl rfl (by kernel_rfl) (by decide) (fun K hK => ?_)
     refine goes_ Tryd.func40 (by kernel_rfl) rfl #[.slice Ab m.f4.length cb] (by rfl) rfl rfl (by first | rfl | (simp [Act.eval]; done)) ?_
     refine (Clone_calls Ab cb m.f4 wq (by rw [← hwq]; exact Kd.C_drew HCB.out) (HZ.out m (List.mem_of_getElem? HM.out))).mono ?_
     rintro e w5 ⟨v5, rfl, hR5, hb5⟩
     obtain ⟨Av, cv, rfl, hlv, hCv⟩ := Kd.R_reads hR5
     refine ⟨_, rfl, ?_⟩
     refine hK.out _ _ ⟨fkeep hb5 hHeld.1, fkeep hb5 hHeld.2.1, fkeep hb5 hHeld.2.2.1, fkeep hb5 hHeld.2.2.2.1, fkeep hb5 hHeld.2.2.2.2.1, fkeep hb5 hHeld.2.2.2.2.2.1, fkeep hb5 hHeld.2.2.2.2.2.2.1, fkeep hb5 hHeld.2.2.2.2.2.2.2⟩ (fun hHeld2 => ?_)
     clear hK K
     have HR5 := Aside0.mk hR5
     have HB5 := Aside0.mk hb5
     have HLV := Aside0.mk hlv
     clear hR5 hCv hlv
     refine norm_ (a' := ?_) ?_ ?_
     rotate_left
     ·show Act.put _ (some 59) _ = _
      simp only [Act.put, List.setIfInBounds_toArray, List.set_cons_zero, List.set_cons_succ, i64_w, i32_w]
      rfl
     refine pure_ (i := 23) (N := some 60) (v := ?_) (a' := ?_) #[true, true, true, true, true, true, true, true, true, true, true, true, true, true, true, true, true, true, true, true, true, true, true, true, false, false, false] rfl rfl (by kernel_rfl) (fun _ _ _ h => h) (Or.inl ⟨by rfl, ?_⟩) ?_ ?_
     rotate_left
     ·intro w'
      go_simp
      with_reducible rfl
     rotate_left
     ·simp only [Act.put, List.setIfInBounds_toArray, List.set_cons_zero, List.set_cons_succ, i64_w, i32_w]
      rfl
     refine one_ (i := 24) (N := some 61) #[true, true, true, true, true, true, true, true, true, true, true, true, true, true, true, true, true, true, true, true, true, true, true, true, true, false, false] rfl rfl (by kernel_rfl) (by decide) (fun K hK => ?_)
     refine value_ (w1 := ?_) (v := ?_) (by rfl) rfl ?_ ?_
     rotate_left 2
     ·go_simp
      constructor
      ·rfl
      ·rfl
     refine hK.out _ _ ⟨fcell hHeld2.1 _, fcell hHeld2.2.1 _, fcell hHeld2.2.2.1 _, fcell hHeld2.2.2.2.1 _, fcell hHeld2.2.2.2.2.1 _, fcell hHeld2.2.2.2.2.2.1 _, fcell hHeld2.2.2.2.2.2.2.1 _, fcell hHeld2.2.2.2.2.2.2.2 _⟩ (fun hHeld3 => ?_)
     clear hK K
     refine norm_ (a' := ?_) ?_ ?_
     rotate_left
     ·show Act.put _ (some 61) _ = _
      simp only [Act.put, List.setIfInBounds_toArray, List.set_cons_zero, List.set_cons_succ, i64_w, i32_w]
      rfl
     refine one_ (i := 25) (N := some 62) #[true, true, true, true, true, true, true, true, true, true, true, true, true, true, true, true, true, true, true, true, true, true, true, true, true, true, false] rfl rfl (by kernel_rfl) (by decide) (fun K hK => ?_)
     refine Kd.N_append_step k38 (w0 := W) (W := w5) base (by rfl) (.tmp 37) (.tmp 61) 31 38 (.agg #[(.string ⟨#[]⟩), (.string ⟨#[]⟩), (.string ⟨#[]⟩), (.int .u8 0), (.int .i64 0), (.int .i64 0), (.int .i64 0), (.int .i64 0), (.slice none 0 0)]) 112 rfl Tryd.underlying31 infoNode rfl (by decide) (by decide) (.slice Ao out.length co) out (⟨q.1, m.f1, ldn, m.f2, m.f3, m.f4⟩ : Node) [.string q.1, .string m.f1, .string ldn, .int .u8 m.f2, .int .i64 m.f3.f0, .int .i64 m.f3.f1, .int .i64 m.f3.f2, .int .i64 m.f3.f3, .slice Av m.f4.length cv] (fun k => W.heap.size ≤ k) (fun k => wq.heap.size ≤ k ∧ k < w5.heap.size) (by rfl) rfl (k38_mkF w5 _ _ HLV.out (Kd.R_F (Kd.R_mono (Kd.R_bound HR5.out) (fun k hk => ⟨hk.2.1, hk.2.2.1⟩)))) (fun k hk => ⟨by have := hk.1; omega, fun e => by have := HOB.out k e.symm; have := hk.1; omega⟩) (fun k hk => by have := HB5.out.size; omega) (Kd.N_below HNQ.out HB5.out) (HBQ.out.trans (HB5.out.mono (by omega))) (by have := HB5.out.size; omega) (by rw [HOL.out]; omega) ?_
     intro v6 w6 hN6 hB6 hg6 hat6
     have HN6 := Aside0.mk hN6
     have HB6 := Aside0.mk hB6
     have HG6 := Aside0.mk hg6
     clear hN6 hB6 hat6
     refine hK.out _ _ ⟨rcell' hg6 (HNE.out _ HB5.out) hHeld2.1, rcell' hg6 (HNE.out _ HB5.out) hHeld2.2.1, rcell' hg6 (HNE.out _ HB5.out) hHeld2.2.2.1, rcell' hg6 (HNE.out _ HB5.out) hHeld2.2.2.2.1, rcell' hg6 (HNE.out _ HB5.out) hHeld2.2.2.2.2.1, rcell' hg6 (HNE.out _ HB5.out) hHeld2.2.2.2.2.2.1, rcell' hg6 (HNE.out _ HB5.out) hHeld2.2.2.2.2.2.2.1, rcell' hg6 (HNE.out _ HB5.out) hHeld2.2.2.2.2.2.2.2⟩ (fun hHeld4 => ?_)
     clear hK K hg6 hHeld hHeld2 hHeld3 hb5
     refine norm_ (a' := ?_) ?_ ?_
     rotate_left
     ·show Act.put _ (some 62) _ = _
      simp only [Act.put, List.setIfInBounds_toArray, List.set_cons_zero, List.set_cons_succ, i64_w, i32_w]
      rfl
     refine pure_ (i := 26) (N := some 3) (v := ?_) (a' := ?_) #[true, true, true, true, true, true, true, true, true, true, true, true, true, true, true, true, true, true, true, true, true, true, true, true, true, true, true] rfl rfl (by kernel_rfl) (fun _ _ _ h => h) (Or.inl ⟨by rfl, ?_⟩) ?_ ?_
     rotate_left
     ·intro w'
      go_simp
      with_reducible rfl
     rotate_left
     ·simp only [Act.put, List.setIfInBounds_toArray, List.set_cons_zero, List.set_cons_succ, i64_w, i32_w]
      rfl
     refine done_ (by kernel_rfl) ?_
     have hfin : NodRel l s base d B W (.slice (some ad) (sortP s).length cq) (n + 1) v6 w6 := by
      refine mid_next h0 hnl HOUT.out HMM.out ((drew_below hwq).trans (HB5.out.mono (by rw [← hwq]; exact Nat.le_refl _))) HG6.out hdlt hbase (by omega) ?_ HB6.out
      ·have e := HND.out
       rw [HTK.out, HLN.out] at e
       rw [HQE.out, e]
       exact HN6.out
     have HFIN := Aside0.mk hfin
     clear hfin HN6 HB6 HG6 HB5 HR5 HNQ HBQ hHeld4 j0 j1 j2 j3 j4 j5 j6 j7
     go_wp2_with (fail)
     go_roundw
     case rel => exact ⟨n + 1, by go_num, HFIN⟩
     case measure => simp [intOf]; omega
    | false =>
     have hem : ld0.toList = [] := by rw [← HLD.out]; exact HLF.out.2 ha
     have hem2 : (ld0.toList == []) = true := by simpa using hem
     obtain ⟨hmid, hwz⟩ := HMID.out _ (.inr ⟨rfl, H48.out, ha⟩)
     have HMM := Aside0.mk hmid
     clear ha hmid
     go_upto_region 8 with (fail)
     obtain ⟨_, vb, hbm, hRm⟩ := HMM.out.2.1 q.2 m HM.out H49.out
     obtain ⟨Ab, cb, rfl, hlb, hCb⟩ := Kd.R_reads hRm
     rw [HTK.out] at hbm
     generalize hldn : ldF m ((sortP s).take n.toNat ++ [q]) q.2 = ldn at hbm
     obtain ⟨j0, j1, j2, j3, j4, j5, j6, j7⟩ := thing_cells hbm
     have HCB := Aside0.mk hCb
     have HLB := Aside0.mk hlb
     have HLN := Aside0.mk hldn
     have HBM := Aside0.mk hbm
     have hwlt : W.heap.size ≤ wr.heap.size := HW.out
     clear hRm hCb hlb hldn hbm hk0 hk1 hk2 hk3 hk4 hk5 hk6 hk7
     refine start_ (n := 27) (S := fun w' => w'.cell? ⟨B q.2, 0, none⟩ = some (.int .u8 m.f2) ∧ w'.cell? ⟨B q.2, 1, none⟩ = some (.int .i64 m.f3.f0) ∧ w'.cell? ⟨B q.2, 2, none⟩ = some (.int .i64 m.f3.f1) ∧ w'.cell? ⟨B q.2, 3, none⟩ = some (.int .i64 m.f3.f2) ∧ w'.cell? ⟨B q.2, 4, none⟩ = some (.int .i64 m.f3.f3) ∧ w'.cell? ⟨B q.2, 5, none⟩ = some (.string m.f1) ∧ w'.cell? ⟨B q.2, 6, none⟩ = some (.slice Ab m.f4.length cb) ∧ w'.cell? ⟨B q.2, 7, none⟩ = some (.string ldn)) (ds := []) #[false, false, false, false, false, false, false, false, false, false, false, false, false, false, false, false, false, false, false, false, false, false, false, false, false, false, false] (by kernel_rfl) rfl rfl ⟨j0, j1, j2, j3, j4, j5, j6, j7⟩ (fun hHeld => ?_)
     generalize hwq : World.drew _ = wq at hHeld ⊢
     have hzq : wr.heap.size = wq.heap.size := by rw [← hwq]; exact hwz
     have HNQ : Aside0 (Kd.N k38 38 wq base (fun k => W.heap.size ≤ k) (.slice Ao out.length co) out) := ⟨by rw [← hwq]; exact Kd.N_drew HMM.out.2.2.1⟩
     have HBQ : Aside0 (Below base W wq) := ⟨by rw [← hwq]; exact below_drew HMM.out.2.2.2.2⟩
     have HOB := Aside0.mk (Kd.N_lt HNQ.out)
     have HNE : Aside0 (∀ w5 : World, Below wq.heap.size wq w5 → some (B q.2) ≠ (Value.slice Ao out.length co).ownBlock) := ⟨fun w5 hb => Kd.N_ne (cells := thingCells m (.slice Ab m.f4.length cb) ldn) (t := 71) HNQ.out (by rw [← hwq]; exact HBM.out) (by decide)⟩
     refine pure_ (i := 0) (N := some 37) (v := ?_) (a' := ?_) #[true, false, false, false, false, false, false, false, false, false, false, false, false, false, false, false, false, false, false, false, false, false, false, false, false, false, false] rfl rfl (by kernel_rfl) (fun _ _ _ h => h) (Or.inl ⟨by rfl, ?_⟩) ?_ ?_
     rotate_left
     ·intro w'
      go_simp
      with_reducible rfl
     rotate_left
     ·simp only [Act.put, List.setIfInBounds_toArray, List.set_cons_zero, List.set_cons_succ, i64_w, i32_w]
      rfl
     refine pure_ (i := 1) (N := some 38) (v := ?_) (a' := ?_) #[true, true, false, false, false, false, false, false, false, false, false, false, false, false, false, false, false, false, false, false, false, false, false, false, false, false, false] rfl rfl (by kernel_rfl) (fun _ _ _ h => h) (Or.inl ⟨by rfl, ?_⟩) ?_ ?_
     rotate_left
     ·intro w'
      go_simp
      with_reducible rfl
     rotate_left
     ·simp only [Act.put, List.setIfInBounds_toArray, List.set_cons_zero, List.set_cons_succ, i64_w, i32_w]
      rfl
     refine pure_ (i := 2) (N := some 39) (v := ?_) (a' := ?_) #[true, true, true, false, false, false, false, false, false, false, false, false, false, false, false, false, false, false, false, false, false, false, false, false, false, false, false] rfl rfl (by kernel_rfl) (fun _ _ _ h => h) (Or.inl ⟨by rfl, ?_⟩) ?_ ?_
     rotate_left
     ·intro w'
      go_simp
      with_reducible rfl
     rotate_left
     ·simp only [Act.put, List.setIfInBounds_toArray, List.set_cons_zero, List.set_cons_succ, i64_w, i32_w]
      rfl
     refine pure_ (i := 3) (N := some 40) (v := ?_) (a' := ?_) #[true, true, true, true, false, false, false, false, false, false, false, false, false, false, false, false, false, false, false, false, false, false, false, false, false, false, false] rfl rfl (by kernel_rfl) (fun _ _ _ h => h) (Or.inl ⟨by rfl, ?_⟩) ?_ ?_
     rotate_left
     ·intro w'
      go_simp
      with_reducible rfl
     rotate_left
     ·simp only [Act.put, List.setIfInBounds_toArray, List.set_cons_zero, List.set_cons_succ, i64_w, i32_w]
      rfl
     refine pure_ (i := 4) (N := some 41) (v := ?_) (a' := ?_) #[true, true, true, true, true, false, false, false, false, false, false, false, false, false, false, false, false, false, false, false, false, false, false, false, false, false, false] rfl rfl (by kernel_rfl) (fun _ _ _ h => h) (Or.inl ⟨by rfl, ?_⟩) ?_ ?_
     rotate_left
     ·intro w'
      go_simp
      with_reducible rfl
     rotate_left
     ·simp only [Act.put, List.setIfInBounds_toArray, List.set_cons_zero, List.set_cons_succ, i64_w, i32_w]
      rfl
     refine take_ (i := 5) (N := some 42) (v := ?_) (a' := ?_) #[true, true, true, true, true, true, false, false, false, false, false, false, false, false, false, false, false, false, false, false, false, false, false, false, false, false, false] rfl rfl (by kernel_rfl) (fun _ _ _ h => h) (Or.inl ⟨by rfl, ?_⟩) hHeld ?_ ?_
     rotate_left
     ·rintro w' ⟨s0, s1, s2, s3, s4, s5, s6, s7⟩
      go_simp
      with_reducible rfl
     rotate_left
     ·simp only [Act.put, List.setIfInBounds_toArray, List.set_cons_zero, List.set_cons_succ, i64_w, i32_w]
      rfl
     refine pure_ (i := 6) (N := some 43) (v := ?_) (a' := ?_) #[true, true, true, true, true, true, true, false, false, false, false, false, false, false, false, false, false, false, false, false, false, false, false, false, false, false, false] rfl rfl (by kernel_rfl) (fun _ _ _ h => h) (Or.inl ⟨by rfl, ?_⟩) ?_ ?_
     rotate_left
     ·intro w'
      go_simp
      with_reducible rfl
     rotate_left
     ·simp only [Act.put, List.setIfInBounds_toArray, List.set_cons_zero, List.set_cons_succ, i64_w, i32_w]
      rfl
     refine pure_ (i := 7) (N := some 44) (v := ?_) (a' := ?_) #[true, true, true, true, true, true, true, true, false, false, false, false, false, false, false, false, false, false, false, false, false, false, false, false, false, false, false] rfl rfl (by kernel_rfl) (fun _ _ _ h => h) (Or.inl ⟨by rfl, ?_⟩) ?_ ?_
     rotate_left
     ·intro w'
      go_simp
      with_reducible rfl
     rotate_left
     ·simp only [Act.put, List.setIfInBounds_toArray, List.set_cons_zero, List.set_cons_succ, i64_w, i32_w]
      rfl
     refine pure_ (i := 8) (N := some 45) (v := ?_) (a' := ?_) #[true, true, true, true, true, true, true, true, true, false, false, false, false, false, false, false, false, false, false, false, false, false, false, false, false, false, false] rfl rfl (by kernel_rfl) (fun _ _ _ h => h) (Or.inl ⟨by rfl, ?_⟩) ?_ ?_
     rotate_left
     ·intro w'
      go_simp
      with_reducible rfl
     rotate_left
     ·simp only [Act.put, List.setIfInBounds_toArray, List.set_cons_zero, List.set_cons_succ, i64_w, i32_w]
      rfl
     refine take_ (i := 9) (N := some 46) (v := ?_) (a' := ?_) #[true, true, true, true, true, true, true, true, true, true, false, false, false, false, false, false, false, false, false, false, false, false, false, false, false, false, false] rfl rfl (by kernel_rfl) (fun _ _ _ h => h) (Or.inl ⟨by rfl, ?_⟩) hHeld ?_ ?_
     rotate_left
     ·rintro w' ⟨s0, s1, s2, s3, s4, s5, s6, s7⟩
      go_simp
      with_reducible rfl
     rotate_left
     ·simp only [Act.put, List.setIfInBounds_toArray, List.set_cons_zero, List.set_cons_succ, i64_w, i32_w]
      rfl
     refine pure_ (i := 10) (N := some 47) (v := ?_) (a' := ?_) #[true, true, true, true, true, true, true, true, true, true, true, false, false, false, false, false, false, false, false, false, false, false, false, false, false, false, false] rfl rfl (by kernel_rfl) (fun _ _ _ h => h) (Or.inl ⟨by rfl, ?_⟩) ?_ ?_
     rotate_left
     ·intro w'
      go_simp
      with_reducible rfl
     rotate_left
     ·simp only [Act.put, List.setIfInBounds_toArray, List.set_cons_zero, List.set_cons_succ, i64_w, i32_w]
      rfl
     refine pure_ (i := 11) (N := some 48) (v := ?_) (a' := ?_) #[true, true, true, true, true, true, true, true, true, true, true, true, false, false, false, false, false, false, false, false, false, false, false, false, false, false, false] rfl rfl (by kernel_rfl) (fun _ _ _ h => h) (Or.inl ⟨by rfl, ?_⟩) ?_ ?_
     rotate_left
     ·intro w'
      go_simp
      with_reducible rfl
     rotate_left
     ·simp only [Act.put, List.setIfInBounds_toArray, List.set_cons_zero, List.set_cons_succ, i64_w, i32_w]
      rfl
     refine pure_ (i := 12) (N := some 49) (v := ?_) (a' := ?_) #[true, true, true, true, true, true, true, true, true, true, true, true, true, false, false, false, false, false, false, false, false, false, false, false, false, false, false] rfl rfl (by kernel_rfl) (fun _ _ _ h => h) (Or.inl ⟨by rfl, ?_⟩) ?_ ?_
     rotate_left
     ·intro w'
      go_simp
      with_reducible rfl
     rotate_left
     ·simp only [Act.put, List.setIfInBounds_toArray, List.set_cons_zero, List.set_cons_succ, i64_w, i32_w]
      rfl
     refine take_ (i := 13) (N := some 50) (v := ?_) (a' := ?_) #[true, true, true, true, true, true, true, true, true, true, true, true, true, true, false, false, false, false, false, false, false, false, false, false, false, false, false] rfl rfl (by kernel_rfl) (fun _ _ _ h => h) (Or.inl ⟨by rfl, ?_⟩) hHeld ?_ ?_
     rotate_left
     ·rintro w' ⟨s0, s1, s2, s3, s4, s5, s6, s7⟩
      go_simp
      with_reducible rfl
     rotate_left
     ·simp only [Act.put, List.setIfInBounds_toArray, List.set_cons_zero, List.set_cons_succ, i64_w, i32_w]
      rfl
     refine pure_ (i := 14) (N := some 51) (v := ?_) (a' := ?_) #[true, true, true, true, true, true, true, true, true, true, true, true, true, true, true, false, false, false, false, false, false, false, false, false, false, false, false] rfl rfl (by kernel_rfl) (fun _ _ _ h => h) (Or.inl ⟨by rfl, ?_⟩) ?_ ?_
     rotate_left
     ·intro w'
      go_simp
      with_reducible rfl
     rotate_left
     ·simp only [Act.put, List.setIfInBounds_toArray, List.set_cons_zero, List.set_cons_succ, i64_w, i32_w]
      rfl
     refine pure_ (i := 15) (N := some 52) (v := ?_) (a' := ?_) #[true, true, true, true, true, true, true, true, true, true, true, true, true, true, true, true, false, false, false, false, false, false, false, false, false, false, false] rfl rfl (by kernel_rfl) (fun _ _ _ h => h) (Or.inl ⟨by rfl, ?_⟩) ?_ ?_
     rotate_left
     ·intro w'
      go_simp
      with_reducible rfl
     rotate_left
     ·simp only [Act.put, List.setIfInBounds_toArray, List.set_cons_zero, List.set_cons_succ, i64_w, i32_w]
      rfl
     refine pure_ (i := 16) (N := some 53) (v := ?_) (a' := ?_) #[true, true, true, true, true, true, true, true, true, true, true, true, true, true, true, true, true, false, false, false, false, false, false, false, false, false, false] rfl rfl (by kernel_rfl) (fun _ _ _ h => h) (Or.inl ⟨by rfl, ?_⟩) ?_ ?_
     rotate_left
     ·intro w'
      go_simp
      with_reducible rfl
     rotate_left
     ·simp only [Act.put, List.setIfInBounds_toArray, List.set_cons_zero, List.set_cons_succ, i64_w, i32_w]
      rfl
     refine take_ (i := 17) (N := some 54) (v := ?_) (a' := ?_) #[true, true, true, true, true, true, true, true, true, true, true, true, true, true, true, true, true, true, false, false, false, false, false, false, false, false, false] rfl rfl (by kernel_rfl) (fun _ _ _ h => h) (Or.inl ⟨by rfl, ?_⟩) hHeld ?_ ?_
     rotate_left
     ·rintro w' ⟨s0, s1, s2, s3, s4, s5, s6, s7⟩
      go_simp
      with_reducible rfl
     rotate_left
     ·simp only [Act.put, List.setIfInBounds_toArray, List.set_cons_zero, List.set_cons_succ, i64_w, i32_w]
      rfl
     refine pure_ (i := 18) (N := some 55) (v := ?_) (a' := ?_) #[true, true, true, true, true, true, true, true, true, true, true, true, true, true, true, true, true, true, true, false, false, false, false, false, false, false, false] rfl rfl (by kernel_rfl) (fun _ _ _ h => h) (Or.inl ⟨by rfl, ?_⟩) ?_ ?_
     rotate_left
     ·intro w'
      go_simp
      with_reducible rfl
     rotate_left
     ·simp only [Act.put, List.setIfInBounds_toArray, List.set_cons_zero, List.set_cons_succ, i64_w, i32_w]
      rfl
     refine pure_ (i := 19) (N := some 56) (v := ?_) (a' := ?_) #[true, true, true, true, true, true, true, true, true, true, true, true, true, true, true, true, true, true, true, true, false, false, false, false, false, false, false] rfl rfl (by kernel_rfl) (fun _ _ _ h => h) (Or.inl ⟨by rfl, ?_⟩) ?_ ?_
     rotate_left
     ·intro w'
      go_simp
      with_reducible rfl
     rotate_left
     ·simp only [Act.put, List.setIfInBounds_toArray, List.set_cons_zero, List.set_cons_succ, i64_w, i32_w]
      rfl
     refine pure_ (i := 20) (N := some 57) (v := ?_) (a' := ?_) #[true, true, true, true, true, true, true, true, true, true, true, true, true, true, true, true, true, true, true, true, true, false, false, false, false, false, false] rfl rfl (by kernel_rfl) (fun _ _ _ h => h) (Or.inl ⟨by rfl, ?_⟩) ?_ ?_
     rotate_left
     ·intro w'
      go_simp
      with_reducible rfl
     rotate_left
     ·simp only [Act.put, List.setIfInBounds_toArray, List.set_cons_zero, List.set_cons_succ, i64_w, i32_w]
      rfl
     refine take_ (i := 21) (N := some 58) (v := ?_) (a' := ?_) #[true, true, true, true, true, true, true, true, true, true, true, true, true, true, true, true, true, true, true, true, true, true, false, false, false, false, false] rfl rfl (by kernel_rfl) (fun _ _ _ h => h) (Or.inl ⟨by rfl, ?_⟩) hHeld ?_ ?_
     rotate_left
     ·rintro w' ⟨s0, s1, s2, s3, s4, s5, s6, s7⟩
      go_simp
      with_reducible rfl
     rotate_left
     ·simp only [Act.put, List.setIfInBounds_toArray, List.set_cons_zero, List.set_cons_succ, i64_w, i32_w]
      rfl
     refine one_ (i := 22) (N := some 59) #[true, true, true, true, true, true, true, true, true, true, true, true, true, true, true, true, true, true, true, true, true, true, true, false, false, false, false] rfl rfl (by kernel_rfl) (by decide) (fun K hK => ?_)
     refine goes_ Tryd.func40 (by kernel_rfl) rfl #[.slice Ab m.f4.length cb] (by rfl) rfl rfl (by first | rfl | (simp [Act.eval]; done)) ?_
     refine (Clone_calls Ab cb m.f4 wq (by rw [← hwq]; exact Kd.C_drew HCB.out) (HZ.out m (List.mem_of_getElem? HM.out))).mono ?_
     rintro e w5 ⟨v5, rfl, hR5, hb5⟩
     obtain ⟨Av, cv, rfl, hlv, hCv⟩ := Kd.R_reads hR5
     refine ⟨_, rfl, ?_⟩
     refine hK.out _ _ ⟨fkeep hb5 hHeld.1, fkeep hb5 hHeld.2.1, fkeep hb5 hHeld.2.2.1, fkeep hb5 hHeld.2.2.2.1, fkeep hb5 hHeld.2.2.2.2.1, fkeep hb5 hHeld.2.2.2.2.2.1, fkeep hb5 hHeld.2.2.2.2.2.2.1, fkeep hb5 hHeld.2.2.2.2.2.2.2⟩ (fun hHeld2 => ?_)
     clear hK K
     have HR5 := Aside0.mk hR5
     have HB5 := Aside0.mk hb5
     have HLV := Aside0.mk hlv
     clear hR5 hCv hlv
     refine norm_ (a' := ?_) ?_ ?_
     rotate_left
     ·show Act.put _ (some 59) _ = _
      simp only [Act.put, List.setIfInBounds_toArray, List.set_cons_zero, List.set_cons_succ, i64_w, i32_w]
      rfl
     refine pure_ (i := 23) (N := some 60) (v := ?_) (a' := ?_) #[true, true, true, true, true, true, true, true, true, true, true, true, true, true, true, true, true, true, true, true, true, true, true, true, false, false, false] rfl rfl (by kernel_rfl) (fun _ _ _ h => h) (Or.inl ⟨by rfl, ?_⟩) ?_ ?_
     rotate_left
     ·intro w'
      go_simp
      with_reducible rfl
     rotate_left
     ·simp only [Act.put, List.setIfInBounds_toArray, List.set_cons_zero, List.set_cons_succ, i64_w, i32_w]
      rfl
     refine one_ (i := 24) (N := some 61) #[true, true, true, true, true, true, true, true, true, true, true, true, true, true, true, true, true, true, true, true, true, true, true, true, true, false, false] rfl rfl (by kernel_rfl) (by decide) (fun K hK => ?_)
     refine value_ (w1 := ?_) (v := ?_) (by rfl) rfl ?_ ?_
     rotate_left 2
     ·go_simp
      constructor
      ·rfl
      ·rfl
     refine hK.out _ _ ⟨fcell hHeld2.1 _, fcell hHeld2.2.1 _, fcell hHeld2.2.2.1 _, fcell hHeld2.2.2.2.1 _, fcell hHeld2.2.2.2.2.1 _, fcell hHeld2.2.2.2.2.2.1 _, fcell hHeld2.2.2.2.2.2.2.1 _, fcell hHeld2.2.2.2.2.2.2.2 _⟩ (fun hHeld3 => ?_)
     clear hK K
     refine norm_ (a' := ?_) ?_ ?_
     rotate_left
     ·show Act.put _ (some 61) _ = _
      simp only [Act.put, List.setIfInBounds_toArray, List.set_cons_zero, List.set_cons_succ, i64_w, i32_w]
      rfl
     refine one_ (i := 25) (N := some 62) #[true, true, true, true, true, true, true, true, true, true, true, true, true, true, true, true, true, true, true, true, true, true, true, true, true, true, false] rfl rfl (by kernel_rfl) (by decide) (fun K hK => ?_)
     refine Kd.N_append_step k38 (w0 := W) (W := w5) base (by rfl) (.tmp 37) (.tmp 61) 31 38 (.agg #[(.string ⟨#[]⟩), (.string ⟨#[]⟩), (.string ⟨#[]⟩), (.int .u8 0), (.int .i64 0), (.int .i64 0), (.int .i64 0), (.int .i64 0), (.slice none 0 0)]) 112 rfl Tryd.underlying31 infoNode rfl (by decide) (by decide) (.slice Ao out.length co) out (⟨q.1, m.f1, ldn, m.f2, m.f3, m.f4⟩ : Node) [.string q.1, .string m.f1, .string ldn, .int .u8 m.f2, .int .i64 m.f3.f0, .int .i64 m.f3.f1, .int .i64 m.f3.f2, .int .i64 m.f3.f3, .slice Av m.f4.length cv] (fun k => W.heap.size ≤ k) (fun k => wq.heap.size ≤ k ∧ k < w5.heap.size) (by rfl) rfl (k38_mkF w5 _ _ HLV.out (Kd.R_F (Kd.R_mono (Kd.R_bound HR5.out) (fun k hk => ⟨hk.2.1, hk.2.2.1⟩)))) (fun k hk => ⟨by have := hk.1; omega, fun e => by have := HOB.out k e.symm; have := hk.1; omega⟩) (fun k hk => by have := HB5.out.size; omega) (Kd.N_below HNQ.out HB5.out) (HBQ.out.trans (HB5.out.mono (by omega))) (by have := HB5.out.size; omega) (by rw [HOL.out]; omega) ?_
     intro v6 w6 hN6 hB6 hg6 hat6
     have HN6 := Aside0.mk hN6
     have HB6 := Aside0.mk hB6
     have HG6 := Aside0.mk hg6
     clear hN6 hB6 hat6
     refine hK.out _ _ ⟨rcell' hg6 (HNE.out _ HB5.out) hHeld2.1, rcell' hg6 (HNE.out _ HB5.out) hHeld2.2.1, rcell' hg6 (HNE.out _ HB5.out) hHeld2.2.2.1, rcell' hg6 (HNE.out _ HB5.out) hHeld2.2.2.2.1, rcell' hg6 (HNE.out _ HB5.out) hHeld2.2.2.2.2.1, rcell' hg6 (HNE.out _ HB5.out) hHeld2.2.2.2.2.2.1, rcell' hg6 (HNE.out _ HB5.out) hHeld2.2.2.2.2.2.2.1, rcell' hg6 (HNE.out _ HB5.out) hHeld2.2.2.2.2.2.2.2⟩ (fun hHeld4 => ?_)
     clear hK K hg6 hHeld hHeld2 hHeld3 hb5
     refine norm_ (a' := ?_) ?_ ?_
     rotate_left
     ·show Act.put _ (some 62) _ = _
      simp only [Act.put, List.setIfInBounds_toArray, List.set_cons_zero, List.set_cons_succ, i64_w, i32_w]
      rfl
     refine pure_ (i := 26) (N := some 3) (v := ?_) (a' := ?_) #[true, true, true, true, true, true, true, true, true, true, true, true, true, true, true, true, true, true, true, true, true, true, true, true, true, true, true] rfl rfl (by kernel_rfl) (fun _ _ _ h => h) (Or.inl ⟨by rfl, ?_⟩) ?_ ?_
     rotate_left
     ·intro w'
      go_simp
      with_reducible rfl
     rotate_left
     ·simp only [Act.put, List.setIfInBounds_toArray, List.set_cons_zero, List.set_cons_succ, i64_w, i32_w]
      rfl
     refine done_ (by kernel_rfl) ?_
     have hfin : NodRel l s base d B W (.slice (some ad) (sortP s).length cq) (n + 1) v6 w6 := by
      refine mid_next h0 hnl HOUT.out HMM.out ((drew_below hwq).trans (HB5.out.mono (by rw [← hwq]; exact Nat.le_refl _))) HG6.out hdlt hbase (by omega) ?_ HB6.out
      ·have e := HND.out
       rw [HTK.out, HLN.out] at e
       rw [HQE.out, e]
       exact HN6.out
     have HFIN := Aside0.mk hfin
     clear hfin HN6 HB6 HG6 HB5 HR5 HNQ HBQ hHeld4 j0 j1 j2 j3 j4 j5 j6 j7
     go_wp2_with (fail)
     go_roundw
     case rel => exact ⟨n + 1, by go_num, HFIN⟩
     case measure => simp [intOf]; omega
   ·have e48 : (m.f2 == 48) = false := beq_eq_false_iff_ne.2 h48
    obtain ⟨hmid, hwz⟩ := HMID.out wr (.inl ⟨rfl, fun h => absurd h h48⟩)
    have HMM := Aside0.mk hmid
    clear h48 hmid
    go_upto_region 8 with (fail)
    obtain ⟨_, vb, hbm, hRm⟩ := HMM.out.2.1 q.2 m HM.out H49.out
    obtain ⟨Ab, cb, rfl, hlb, hCb⟩ := Kd.R_reads hRm
    rw [HTK.out] at hbm
    generalize hldn : ldF m ((sortP s).take n.toNat ++ [q]) q.2 = ldn at hbm
    obtain ⟨j0, j1, j2, j3, j4, j5, j6, j7⟩ := thing_cells hbm
    have HCB := Aside0.mk hCb
    have HLB := Aside0.mk hlb
    have HLN := Aside0.mk hldn
    have HBM := Aside0.mk hbm
    have hwlt : W.heap.size ≤ wr.heap.size := HW.out
    clear hRm hCb hlb hldn hbm hk0 hk1 hk2 hk3 hk4 hk5 hk6 hk7
    refine start_ (n := 27) (S := fun w' => w'.cell? ⟨B q.2, 0, none⟩ = some (.int .u8 m.f2) ∧ w'.cell? ⟨B q.2, 1, none⟩ = some (.int .i64 m.f3.f0) ∧ w'.cell? ⟨B q.2, 2, none⟩ = some (.int .i64 m.f3.f1) ∧ w'.cell? ⟨B q.2, 3, none⟩ = some (.int .i64 m.f3.f2) ∧ w'.cell? ⟨B q.2, 4, none⟩ = some (.int .i64 m.f3.f3) ∧ w'.cell? ⟨B q.2, 5, none⟩ = some (.string m.f1) ∧ w'.cell? ⟨B q.2, 6, none⟩ = some (.slice Ab m.f4.length cb) ∧ w'.cell? ⟨B q.2, 7, none⟩ = some (.string ldn)) (ds := []) #[false, false, false, false, false, false, false, false, false, false, false, false, false, false, false, false, false, false, false, false, false, false, false, false, false, false, false] (by kernel_rfl) rfl rfl ⟨j0, j1, j2, j3, j4, j5, j6, j7⟩ (fun hHeld => ?_)
    generalize hwq : World.drew _ = wq at hHeld ⊢
    have hzq : wr.heap.size = wq.heap.size := by rw [← hwq]; exact hwz
    have HNQ : Aside0 (Kd.N k38 38 wq base (fun k => W.heap.size ≤ k) (.slice Ao out.length co) out) := ⟨by rw [← hwq]; exact Kd.N_drew HMM.out.2.2.1⟩
    have HBQ : Aside0 (Below base W wq) := ⟨by rw [← hwq]; exact below_drew HMM.out.2.2.2.2⟩
    have HOB := Aside0.mk (Kd.N_lt HNQ.out)
    have HNE : Aside0 (∀ w5 : World, Below wq.heap.size wq w5 → some (B q.2) ≠ (Value.slice Ao out.length co).ownBlock) := ⟨fun w5 hb => Kd.N_ne (cells := thingCells m (.slice Ab m.f4.length cb) ldn) (t := 71) HNQ.out (by rw [← hwq]; exact HBM.out) (by decide)⟩
    refine pure_ (i := 0) (N := some 37) (v := ?_) (a' := ?_) #[true, false, false, false, false, false, false, false, false, false, false, false, false, false, false, false, false, false, false, false, false, false, false, false, false, false, false] rfl rfl (by kernel_rfl) (fun _ _ _ h => h) (Or.inl ⟨by rfl, ?_⟩) ?_ ?_
    rotate_left
    ·intro w'
     go_simp
     with_reducible rfl
    rotate_left
    ·simp only [Act.put, List.setIfInBounds_toArray, List.set_cons_zero, List.set_cons_succ, i64_w, i32_w]
     rfl
    refine pure_ (i := 1) (N := some 38) (v := ?_) (a' := ?_) #[true, true, false, false, false, false, false, false, false, false, false, false, false, false, false, false, false, false, false, false, false, false, false, false, false, false, false] rfl rfl (by kernel_rfl) (fun _ _ _ h => h) (Or.inl ⟨by rfl, ?_⟩) ?_ ?_
    rotate_left
    ·intro w'
     go_simp
     with_reducible rfl
    rotate_left
    ·simp only [Act.put, List.setIfInBounds_toArray, List.set_cons_zero, List.set_cons_succ, i64_w, i32_w]
     rfl
    refine pure_ (i := 2) (N := some 39) (v := ?_) (a' := ?_) #[true, true, true, false, false, false, false, false, false, false, false, false, false, false, false, false, false, false, false, false, false, false, false, false, false, false, false] rfl rfl (by kernel_rfl) (fun _ _ _ h => h) (Or.inl ⟨by rfl, ?_⟩) ?_ ?_
    rotate_left
    ·intro w'
     go_simp
     with_reducible rfl
    rotate_left
    ·simp only [Act.put, List.setIfInBounds_toArray, List.set_cons_zero, List.set_cons_succ, i64_w, i32_w]
     rfl
    refine pure_ (i := 3) (N := some 40) (v := ?_) (a' := ?_) #[true, true, true, true, false, false, false, false, false, false, false, false, false, false, false, false, false, false, false, false, false, false, false, false, false, false, false] rfl rfl (by kernel_rfl) (fun _ _ _ h => h) (Or.inl ⟨by rfl, ?_⟩) ?_ ?_
    rotate_left
    ·intro w'
     go_simp
     with_reducible rfl
    rotate_left
    ·simp only [Act.put, List.setIfInBounds_toArray, List.set_cons_zero, List.set_cons_succ, i64_w, i32_w]
     rfl
    refine pure_ (i := 4) (N := some 41) (v := ?_) (a' := ?_) #[true, true, true, true, true, false, false, false, false, false, false, false, false, false, false, false, false, false, false, false, false, false, false, false, false, false, false] rfl rfl (by kernel_rfl) (fun _ _ _ h => h) (Or.inl ⟨by rfl, ?_⟩) ?_ ?_
    rotate_left
    ·intro w'
     go_simp
     with_reducible rfl
    rotate_left
    ·simp only [Act.put, List.setIfInBounds_toArray, List.set_cons_zero, List.set_cons_succ, i64_w, i32_w]
     rfl
    refine take_ (i := 5) (N := some 42) (v := ?_) (a' := ?_) #[true, true, true, true, true, true, false, false, false, false, false, false, false, false, false, false, false, false, false, false, false, false, false, false, false, false, false] rfl rfl (by kernel_rfl) (fun _ _ _ h => h) (Or.inl ⟨by rfl, ?_⟩) hHeld ?_ ?_
    rotate_left
    ·rintro w' ⟨s0, s1, s2, s3, s4, s5, s6, s7⟩
     go_simp
     with_reducible rfl
    rotate_left
    ·simp only [Act.put, List.setIfInBounds_toArray, List.set_cons_zero, List.set_cons_succ, i64_w, i32_w]
     rfl
    refine pure_ (i := 6) (N := some 43) (v := ?_) (a' := ?_) #[true, true, true, true, true, true, true, false, false, false, false, false, false, false, false, false, false, false, false, false, false, false, false, false, false, false, false] rfl rfl (by kernel_rfl) (fun _ _ _ h => h) (Or.inl ⟨by rfl, ?_⟩) ?_ ?_
    rotate_left
    ·intro w'
     go_simp
     with_reducible rfl
    rotate_left
    ·simp only [Act.put, List.setIfInBounds_toArray, List.set_cons_zero, List.set_cons_succ, i64_w, i32_w]
     rfl
    refine pure_ (i := 7) (N := some 44) (v := ?_) (a' := ?_) #[true, true, true, true, true, true, true, true, false, false, false, false, false, false, false, false, false, false, false, false, false, false, false, false, false, false, false] rfl rfl (by kernel_rfl) (fun _ _ _ h => h) (Or.inl ⟨by rfl, ?_⟩) ?_ ?_
    rotate_left
    ·intro w'
     go_simp
     with_reducible rfl
    rotate_left
    ·simp only [Act.put, List.setIfInBounds_toArray, List.set_cons_zero, List.set_cons_succ, i64_w, i32_w]
     rfl
    refine pure_ (i := 8) (N := some 45) (v := ?_) (a' := ?_) #[true, true, true, true, true, true, true, true, true, false, false, false, false, false, false, false, false, false, false, false, false, false, false, false, false, false, false] rfl rfl (by kernel_rfl) (fun _ _ _ h => h) (Or.inl ⟨by rfl, ?_⟩) ?_ ?_
    rotate_left
    ·intro w'
     go_simp
     with_reducible rfl
    rotate_left
    ·simp only [Act.put, List.setIfInBounds_toArray, List.set_cons_zero, List.set_cons_succ, i64_w, i32_w]
     rfl
    refine take_ (i := 9) (N := some 46) (v := ?_) (a' := ?_) #[true, true, true, true, true, true, true, true, true, true, false, false, false, false, false, false, false, false, false, false, false, false, false, false, false, false, false] rfl rfl (by kernel_rfl) (fun _ _ _ h => h) (Or.inl ⟨by rfl, ?_⟩) hHeld ?_ ?_
    rotate_left
    ·rintro w' ⟨s0, s1, s2, s3, s4, s5, s6, s7⟩
     go_simp
     with_reducible rfl
    rotate_left
    ·simp only [Act.put, List.setIfInBounds_toArray, List.set_cons_zero, List.set_cons_succ, i64_w, i32_w]
     rfl
    refine pure_ (i := 10) (N := some 47) (v := ?_) (a' := ?_) #[true, true, true, true, true, true, true, true, true, true, true, false, false, false, false, false, false, false, false, false, false, false, false, false, false, false, false] rfl rfl (by kernel_rfl) (fun _ _ _ h => h) (Or.inl ⟨by rfl, ?_⟩) ?_ ?_
    rotate_left
    ·intro w'
     go_simp
     with_reducible rfl
    rotate_left
    ·simp only [Act.put, List.setIfInBounds_toArray, List.set_cons_zero, List.set_cons_succ, i64_w, i32_w]
     rfl
    refine pure_ (i := 11) (N := some 48) (v := ?_) (a' := ?_) #[true, true, true, true, true, true, true, true, true, true, true, true, false, false, false, false, false, false, false, false, false, false, false, false, false, false, false] rfl rfl (by kernel_rfl) (fun _ _ _ h => h) (Or.inl ⟨by rfl, ?_⟩) ?_ ?_
    rotate_left
    ·intro w'
     go_simp
     with_reducible rfl
    rotate_left
    ·simp only [Act.put, List.setIfInBounds_toArray, List.set_cons_zero, List.set_cons_succ, i64_w, i32_w]
     rfl
    refine pure_ (i := 12) (N := some 49) (v := ?_) (a' := ?_) #[true, true, true, true, true, true, true, true, true, true, true, true, true, false, false, false, false, false, false, false, false, false, false, false, false, false, false] rfl rfl (by kernel_rfl) (fun _ _ _ h => h) (Or.inl ⟨by rfl, ?_⟩) ?_ ?_
    rotate_left
    ·intro w'
     go_simp
     with_reducible rfl
    rotate_left
    ·simp only [Act.put, List.setIfInBounds_toArray, List.set_cons_zero, List.set_cons_succ, i64_w, i32_w]
     rfl
    refine take_ (i := 13) (N := some 50) (v := ?_) (a' := ?_) #[true, true, true, true, true, true, true, true, true, true, true, true, true, true, false, false, false, false, false, false, false, false, false, false, false, false, false] rfl rfl (by kernel_rfl) (fun _ _ _ h => h) (Or.inl ⟨by rfl, ?_⟩) hHeld ?_ ?_
    rotate_left
    ·rintro w' ⟨s0, s1, s2, s3, s4, s5, s6, s7⟩
     go_simp
     with_reducible rfl
    rotate_left
    ·simp only [Act.put, List.setIfInBounds_toArray, List.set_cons_zero, List.set_cons_succ, i64_w, i32_w]
     rfl
    refine pure_ (i := 14) (N := some 51) (v := ?_) (a' := ?_) #[true, true, true, true, true, true, true, true, true, true, true, true, true, true, true, false, false, false, false, false, false, false, false, false, false, false, false] rfl rfl (by kernel_rfl) (fun _ _ _ h => h) (Or.inl ⟨by rfl, ?_⟩) ?_ ?_
    rotate_left
    ·intro w'
     go_simp
     with_reducible rfl
    rotate_left
    ·simp only [Act.put, List.setIfInBounds_toArray, List.set_cons_zero, List.set_cons_succ, i64_w, i32_w]
     rfl
    refine pure_ (i := 15) (N := some 52) (v := ?_) (a' := ?_) #[true, true, true, true, true, true, true, true, true, true, true, true, true, true, true, true, false, false, false, false, false, false, false, false, false, false, false] rfl rfl (by kernel_rfl) (fun _ _ _ h => h) (Or.inl ⟨by rfl, ?_⟩) ?_ ?_
    rotate_left
    ·intro w'
     go_simp
     with_reducible rfl
    rotate_left
    ·simp only [Act.put, List.setIfInBounds_toArray, List.set_cons_zero, List.set_cons_succ, i64_w, i32_w]
     rfl
    refine pure_ (i := 16) (N := some 53) (v := ?_) (a' := ?_) #[true, true, true, true, true, true, true, true, true, true, true, true, true, true, true, true, true, false, false, false, false, false, false, false, false, false, false] rfl rfl (by kernel_rfl) (fun _ _ _ h => h) (Or.inl ⟨by rfl, ?_⟩) ?_ ?_
    rotate_left
    ·intro w'
     go_simp
     with_reducible rfl
    rotate_left
    ·simp only [Act.put, List.setIfInBounds_toArray, List.set_cons_zero, List.set_cons_succ, i64_w, i32_w]
     rfl
    refine take_ (i := 17) (N := some 54) (v := ?_) (a' := ?_) #[true, true, true, true, true, true, true, true, true, true, true, true, true, true, true, true, true, true, false, false, false, false, false, false, false, false, false] rfl rfl (by kernel_rfl) (fun _ _ _ h => h) (Or.inl ⟨by rfl, ?_⟩) hHeld ?_ ?_
    rotate_left
    ·rintro w' ⟨s0, s1, s2, s3, s4, s5, s6, s7⟩
     go_simp
     with_reducible rfl
    rotate_left
    ·simp only [Act.put, List.setIfInBounds_toArray, List.set_cons_zero, List.set_cons_succ, i64_w, i32_w]
     rfl
    refine pure_ (i := 18) (N := some 55) (v := ?_) (a' := ?_) #[true, true, true, true, true, true, true, true, true, true, true, true, true, true, true, true, true, true, true, false, false, false, false, false, false, false, false] rfl rfl (by kernel_rfl) (fun _ _ _ h => h) (Or.inl ⟨by rfl, ?_⟩) ?_ ?_
    rotate_left
    ·intro w'
     go_simp
     with_reducible rfl
    rotate_left
    ·simp only [Act.put, List.setIfInBounds_toArray, List.set_cons_zero, List.set_cons_succ, i64_w, i32_w]
     rfl
    refine pure_ (i := 19) (N := some 56) (v := ?_) (a' := ?_) #[true, true, true, true, true, true, true, true, true, true, true, true, true, true, true, true, true, true, true, true, false, false, false, false, false, false, false] rfl rfl (by kernel_rfl) (fun _ _ _ h => h) (Or.inl ⟨by rfl, ?_⟩) ?_ ?_
    rotate_left
    ·intro w'
     go_simp
     with_reducible rfl
    rotate_left
    ·simp only [Act.put, List.setIfInBounds_toArray, List.set_cons_zero, List.set_cons_succ, i64_w, i32_w]
     rfl
    refine pure_ (i := 20) (N := some 57) (v := ?_) (a' := ?_) #[true, true, true, true, true, true, true, true, true, true, true, true, true, true, true, true, true, true, true, true, true, false, false, false, false, false, false] rfl rfl (by kernel_rfl) (fun _ _ _ h => h) (Or.inl ⟨by rfl, ?_⟩) ?_ ?_
    rotate_left
    ·intro w'
     go_simp
     with_reducible rfl
    rotate_left
    ·simp only [Act.put, List.setIfInBounds_toArray, List.set_cons_zero, List.set_cons_succ, i64_w, i32_w]
     rfl
    refine take_ (i := 21) (N := some 58) (v := ?_) (a' := ?_) #[true, true, true, true, true, true, true, true, true, true, true, true, true, true, true, true, true, true, true, true, true, true, false, false, false, false, false] rfl rfl (by kernel_rfl) (fun _ _ _ h => h) (Or.inl ⟨by rfl, ?_⟩) hHeld ?_ ?_
    rotate_left
    ·rintro w' ⟨s0, s1, s2, s3, s4, s5, s6, s7⟩
     go_simp
     with_reducible rfl
    rotate_left
    ·simp only [Act.put, List.setIfInBounds_toArray, List.set_cons_zero, List.set_cons_succ, i64_w, i32_w]
     rfl
    refine one_ (i := 22) (N := some 59) #[true, true, true, true, true, true, true, true, true, true, true, true, true, true, true, true, true, true, true, true, true, true, true, false, false, false, false] rfl rfl (by kernel_rfl) (by decide) (fun K hK => ?_)
    refine goes_ Tryd.func40 (by kernel_rfl) rfl #[.slice Ab m.f4.length cb] (by rfl) rfl rfl (by first | rfl | (simp [Act.eval]; done)) ?_
    refine (Clone_calls Ab cb m.f4 wq (by rw [← hwq]; exact Kd.C_drew HCB.out) (HZ.out m (List.mem_of_getElem? HM.out))).mono ?_
    rintro e w5 ⟨v5, rfl, hR5, hb5⟩
    obtain ⟨Av, cv, rfl, hlv, hCv⟩ := Kd.R_reads hR5
    refine ⟨_, rfl, ?_⟩
    refine hK.out _ _ ⟨fkeep hb5 hHeld.1, fkeep hb5 hHeld.2.1, fkeep hb5 hHeld.2.2.1, fkeep hb5 hHeld.2.2.2.1, fkeep hb5 hHeld.2.2.2.2.1, fkeep hb5 hHeld.2.2.2.2.2.1, fkeep hb5 hHeld.2.2.2.2.2.2.1, fkeep hb5 hHeld.2.2.2.2.2.2.2⟩ (fun hHeld2 => ?_)
    clear hK K
    have HR5 := Aside0.mk hR5
    have HB5 := Aside0.mk hb5
    have HLV := Aside0.mk hlv
    clear hR5 hCv hlv
    refine norm_ (a' := ?_) ?_ ?_
    rotate_left
    ·show Act.put _ (some 59) _ = _
     simp only [Act.put, List.setIfInBounds_toArray, List.set_cons_zero, List.set_cons_succ, i64_w, i32_w]
     rfl
    refine pure_ (i := 23) (N := some 60) (v := ?_) (a' := ?_) #[true, true, true, true, true, true, true, true, true, true, true, true, true, true, true, true, true, true, true, true, true, true, true, true, false, false, false] rfl rfl (by kernel_rfl) (fun _ _ _ h => h) (Or.inl ⟨by rfl, ?_⟩) ?_ ?_
    rotate_left
    ·intro w'
     go_simp
     with_reducible rfl
    rotate_left
    ·simp only [Act.put, List.setIfInBounds_toArray, List.set_cons_zero, List.set_cons_succ, i64_w, i32_w]
     rfl
    refine one_ (i := 24) (N := some 61) #[true, true, true, true, true, true, true, true, true, true, true, true, true, true, true, true, true, true, true, true, true, true, true, true, true, false, false] rfl rfl (by kernel_rfl) (by decide) (fun K hK => ?_)
    refine value_ (w1 := ?_) (v := ?_) (by rfl) rfl ?_ ?_
    rotate_left 2
    ·go_simp
     constructor
     ·rfl
     ·rfl
    refine hK.out _ _ ⟨fcell hHeld2.1 _, fcell hHeld2.2.1 _, fcell hHeld2.2.2.1 _, fcell hHeld2.2.2.2.1 _, fcell hHeld2.2.2.2.2.1 _, fcell hHeld2.2.2.2.2.2.1 _, fcell hHeld2.2.2.2.2.2.2.1 _, fcell hHeld2.2.2.2.2.2.2.2 _⟩ (fun hHeld3 => ?_)
    clear hK K
    refine norm_ (a' := ?_) ?_ ?_
    rotate_left
    ·show Act.put _ (some 61) _ = _
     simp only [Act.put, List.setIfInBounds_toArray, List.set_cons_zero, List.set_cons_succ, i64_w, i32_w]
     rfl
    refine one_ (i := 25) (N := some 62) #[true, true, true, true, true, true, true, true, true, true, true, true, true, true, true, true, true, true, true, true, true, true, true, true, true, true, false] rfl rfl (by kernel_rfl) (by decide) (fun K hK => ?_)
    refine Kd.N_append_step k38 (w0 := W) (W := w5) base (by rfl) (.tmp 37) (.tmp 61) 31 38 (.agg #[(.string ⟨#[]⟩), (.string ⟨#[]⟩), (.string ⟨#[]⟩), (.int .u8 0), (.int .i64 0), (.int .i64 0), (.int .i64 0), (.int .i64 0), (.slice none 0 0)]) 112 rfl Tryd.underlying31 infoNode rfl (by decide) (by decide) (.slice Ao out.length co) out (⟨q.1, m.f1, ldn, m.f2, m.f3, m.f4⟩ : Node) [.string q.1, .string m.f1, .string ldn, .int .u8 m.f2, .int .i64 m.f3.f0, .int .i64 m.f3.f1, .int .i64 m.f3.f2, .int .i64 m.f3.f3, .slice Av m.f4.length cv] (fun k => W.heap.size ≤ k) (fun k => wq.heap.size ≤ k ∧ k < w5.heap.size) (by rfl) rfl (k38_mkF w5 _ _ HLV.out (Kd.R_F (Kd.R_mono (Kd.R_bound HR5.out) (fun k hk => ⟨hk.2.1, hk.2.2.1⟩)))) (fun k hk => ⟨by have := hk.1; omega, fun e => by have := HOB.out k e.symm; have := hk.1; omega⟩) (fun k hk => by have := HB5.out.size; omega) (Kd.N_below HNQ.out HB5.out) (HBQ.out.trans (HB5.out.mono (by omega))) (by have := HB5.out.size; omega) (by rw [HOL.out]; omega) ?_
    intro v6 w6 hN6 hB6 hg6 hat6
    have HN6 := Aside0.mk hN6
    have HB6 := Aside0.mk hB6
    have HG6 := Aside0.mk hg6
    clear hN6 hB6 hat6
    refine hK.out _ _ ⟨rcell' hg6 (HNE.out _ HB5.out) hHeld2.1, rcell' hg6 (HNE.out _ HB5.out) hHeld2.2.1, rcell' hg6 (HNE.out _ HB5.out) hHeld2.2.2.1, rcell' hg6 (HNE.out _ HB5.out) hHeld2.2.2.2.1, rcell' hg6 (HNE.out _ HB5.out) hHeld2.2.2.2.2.1, rcell' hg6 (HNE.out _ HB5.out) hHeld2.2.2.2.2.2.1, rcell' hg6 (HNE.out _ HB5.out) hHeld2.2.2.2.2.2.2.1, rcell' hg6 (HNE.out _ HB5.out) hHeld2.2.2.2.2.2.2.2⟩ (fun hHeld4 => ?_)
    clear hK K hg6 hHeld hHeld2 hHeld3 hb5
    refine norm_ (a' := ?_) ?_ ?_
    rotate_left
    ·show Act.put _ (some 62) _ = _
     simp only [Act.put, List.setIfInBounds_toArray, List.set_cons_zero, List.set_cons_succ, i64_w, i32_w]
     rfl
    refine pure_ (i := 26) (N := some 3) (v := ?_) (a' := ?_) #[true, true, true, true, true, true, true, true, true, true, true, true, true, true, true, true, true, true, true, true, true, true, true, true, true, true, true] rfl rfl (by kernel_rfl) (fun _ _ _ h => h) (Or.inl ⟨by rfl, ?_⟩) ?_ ?_
    rotate_left
    ·intro w'
     go_simp
     with_reducible rfl
    rotate_left
    ·simp only [Act.put, List.setIfInBounds_toArray, List.set_cons_zero, List.set_cons_succ, i64_w, i32_w]
     rfl
    refine done_ (by kernel_rfl) ?_
    have hfin : NodRel l s base d B W (.slice (some ad) (sortP s).length cq) (n + 1) v6 w6 := by
     refine mid_next h0 hnl HOUT.out HMM.out ((drew_below hwq).trans (HB5.out.mono (by rw [← hwq]; exact Nat.le_refl _))) HG6.out hdlt hbase (by omega) ?_ HB6.out
     ·have e := HND.out
      rw [HTK.out, HLN.out] at e
      rw [HQE.out, e]
      exact HN6.out
    have HFIN := Aside0.mk hfin
    clear hfin HN6 HB6 HG6 HB5 HR5 HNQ HBQ hHeld4 j0 j1 j2 j3 j4 j5 j6 j7
    go_wp2_with (fail)
    go_roundw
    case rel => exact ⟨n + 1, by go_num, HFIN⟩
    case measure => simp [intOf]; omega
  ·have c1b : decide (n < ((sortP s).length : Int)) = false := decide_eq_false hlt
   go_wp2
   rw [← hQ.out]
   have hN := HNV.out
   rw [← HOUT.out, List.take_of_length_le (by omega)] at hN
   rw [← HOUT.out, List.take_of_length_le (by omega)]
   exact ⟨_, rfl, hN, HR.out.2.2.2.2.2.2⟩
end Go.Proofs.YtiijbmaamblidaaDoor

namespace Go.Proofs.YtiijbmaamblidaaDoor
open Go.RowKit Go.Maps Go.Proofs.YtiijbmaamblidaaDoor.Print Go.Proofs.YtiijbmaamblidaaDoorW.PrintWords Go.Proofs.YtiijbmaamblidaaDoorW.PrintLast Go.Proofs.YtiijbmaamblidaaDoorW.PrintMore
set_option linter.unusedVariables false
set_option linter.unusedSimpArgs false
theorem good_full {m : Mem} (h : goodM m = true) : m.f0.toList ≠ [] := by
 intro e
 have h1 := (goodM_clean h).1
 unfold cleanOk at h1
 simp only [Bool.and_eq_true, decide_eq_true_iff] at h1
 obtain ⟨h2, h3⟩ := h1
 rw [e] at h3
 unfold cleanF at h2 h3
 split at h2
 ·cases h2
 ·rename_i c1
  rw [if_neg c1] at h3
  split at h2
  ·cases h2
  ·rename_i c2
   rw [if_neg c2] at h3
   split at h2
   ·cases h2
   ·rename_i c3
    rw [if_neg c3] at h3
    split at h2
    ·cases h2
    ·rename_i c4
     rw [if_neg c4] at h3
     apply c4
     rw [← h3]
     rfl
theorem rcell'' {W w1 : World} {row : Option Nat} (hg : W.grownBy w1 row) {g o : Nat} (hlt : g < W.heap.size) (hne : some g ≠ row) : w1.cell? ⟨g, o, none⟩ = W.cell? ⟨g, o, none⟩ := World.cell?_of_block (a := ⟨g, o, none⟩) (hg.block g hlt hne)
theorem rfroz'' {W w1 : World} {row : Option Nat} (hg : W.grownBy w1 row) {g o : Nat} (hlt : g < W.heap.size) (hne : some g ≠ row) : w1.frozen? ⟨g, o, none⟩ = W.frozen? ⟨g, o, none⟩ := World.frozen?_of_block (a := ⟨g, o, none⟩) (hg.block g hlt hne)
theorem FoldBad_calls (x : Mem) (A : Option Addr) (c : Nat) (W : World) (hT : Tabs W) (hz : MemZ x) (hx : Kd.C (Kd.int .u8) W A x.f4.length x.f4) (hc : x.f4.length ≤ c) :
  Calls Tryd.prog 24 #[.agg (memCells x (.slice A x.f4.length c))] W fun e W' => e = .returned (.bool (!goodM x)) ∧ Below W.heap.size W W' := by
 obtain ⟨kg, hkg⟩ := Ev.rounds (member_Good_eq x hz)
 generalize goodM x = g at hkg
 have HK := Aside0.mk hkg
 have HTA := Aside0.mk (fun o => Tabs.below hT (below_alloc (Below.refl _ _) o))
 have HX := Aside0.mk (fun o => Kd.C_alloc hx o)
 clear hkg hT hx hz
 unfold memCells
 go_enter Tryd.func24, Tryd.ntmps24
 go_wp2_with (go_at_call 25; (with_reducible refine (member_Good.calls kg x.f0 x.f1 x.f2 x.f3.f0 x.f3.f1 x.f3.f2 x.f3.f3 A c x.f4 g _ ⟨HTA.out _⟩ (HX.out _) hc HK.out).mono ?_); rintro e w5 ⟨rfl, hb5⟩)
 go_ret
 exact ⟨rfl, ((Below.refl _ _).alloc (Nat.le_refl _) _).trans (hb5.mono (by simp))⟩
def BadRel (l : List Mem) (W : World) (i : Int) (wr : World) : Prop := 0 ≤ i ∧ i ≤ l.length ∧ (∀ (j : Nat) (hj : j < l.length), (j : Int) < i → goodM l[j] = true) ∧ Below W.heap.size W wr
def badAt (l : List Mem) : Int := match l.findIdx? (fun m => !goodM m) with
 | some i => (i : Int)
 | none => -1
theorem badAt_some {l : List Mem} {j : Nat} (hj : j < l.length) (h : ∀ (k : Nat) (hk : k < l.length), k < j → goodM l[k] = true) (hb : goodM l[j] = false) : badAt l = (j : Int) := by
 unfold badAt
 rw [List.findIdx?_eq_some_iff_getElem.2 ⟨hj, by rw [hb]; rfl, fun k hk => by rw [h k (by omega) hk]; simp⟩]
theorem badAt_none {l : List Mem} (h : ∀ (k : Nat) (hk : k < l.length), goodM l[k] = true) : badAt l = -1 := by
 unfold badAt
 rw [List.findIdx?_eq_none_iff.2 (fun x hx => by obtain ⟨i, hi, rfl⟩ := List.getElem_of_mem hx; rw [h i hi]; rfl)]
set_option maxRecDepth 100000 in
set_option maxHeartbeats 2000000 in
theorem Bad_calls (A0 : Option Addr) (c0 : Nat) (l : List Mem) (W : World) (hT : Tabs W) (hC : Kd.C k27 W A0 l.length l) (hz : MemsZ l) :
  Calls Tryd.prog 23 #[.slice A0 l.length c0, .func (.func 24) #[] #[]] W fun e W' => e = .returned (.int .i64 (badAt l)) ∧ Below W.heap.size W W' := by
 have HC := Aside0.mk hC
 have HZ := Aside0.mk hz
 have HT := Aside0.mk hT
 have hlen : (l.length : Int) ≤ 1000000000000 := by have := hz.1; omega
 clear hC hz hT
 generalize hpost : (fun (e : Ending) (W' : World) => e = .returned (.int .i64 (badAt l)) ∧ Below W.heap.size W W') = Q
 have hQ := Aside0.mk hpost
 clear hpost
 go_enter Tryd.func23, Tryd.ntmps23
 go_wp2
 go_loopw [8] (fun i wr => ∃ n : Int, i = .int .i64 n ∧ Aside0 (BadRel l W n wr)) (fun i _ => (l.length - (intOf i)).toNat)
 case atStart => exact ⟨0, rfl, ⟨⟨by omega, by omega, fun j hj h => absurd h (by omega), Below.refl _ _⟩⟩⟩
 case round =>
  obtain ⟨n, rfl, HR⟩ := hrel
  have h0 := HR.out.1
  have h1 := HR.out.2.1
  have HB := Aside0.mk HR.out.2.2.2
  by_cases hlt : n < (l.length : Int)
  ·have c1 : decide (n < (l.length : Int)) = true := decide_eq_true hlt
   have hnl : n.toNat < l.length := by omega
   obtain ⟨ad, A7, c7, rfl, x0, x1, x2, x3, x4, x5, x6, x7, hl7, hC7⟩ := at_T27 (Kd.C_below HC.out HB.out) n h0 hlt
   have hx := rdM_at l n h0 hlt
   have hxz : MemZ (rd_T27 l n) := by rw [hx]; exact HZ.out.2 _ (List.getElem_mem _)
   generalize rd_T27 l n = x at hx hxz x0 x1 x2 x3 x4 x5 x6 x7 hl7 hC7
   have hcl := FoldBad_calls x A7 c7 wr (Tabs.below HT.out HB.out) hxz hC7 hl7
   have HX := Aside0.mk hx
   have HNL := Aside0.mk hnl
   clear hx hC7 hl7 hnl hxz
   cases hb : goodM x with
   | true =>
    rw [hb, Bool.not_true] at hcl
    unfold memCells at hcl
    have HC2 := Aside0.mk hcl
    have HLB := Aside0.mk hb
    clear hcl hb
    go_wp2_with (go_at_call 24; refine HC2.out.mono ?_; rintro e w1 ⟨rfl, hb1⟩)
    have hfin : BadRel l W (n + 1) w1 := by
     refine ⟨by omega, by omega, fun j hj hjn => ?_, HB.out.trans (hb1.mono HB.out.size)⟩
     rcases Nat.lt_or_ge j n.toNat with h | h
     ·exact HR.out.2.2.1 j hj (by omega)
     ·obtain rfl : j = n.toNat := by omega
      rw [← HX.out]; exact HLB.out
    clear hb1
    go_roundw
    case rel => exact ⟨n + 1, by go_num, ⟨hfin⟩⟩
    case measure => simp [intOf]; omega
   | false =>
    rw [hb, Bool.not_false] at hcl
    unfold memCells at hcl
    have HC2 := Aside0.mk hcl
    have HLB := Aside0.mk hb
    clear hcl hb
    go_wp2_with (go_at_call 24; refine HC2.out.mono ?_; rintro e w1 ⟨rfl, hb1⟩)
    rw [← hQ.out]
    refine ⟨?_, HB.out.trans (hb1.mono HB.out.size)⟩
    rw [badAt_some HNL.out (fun k hk hkn => HR.out.2.2.1 k hk (by omega)) (by rw [← HX.out]; exact HLB.out)]
    rw [Int.toNat_of_nonneg h0]
    rfl
  ·have c1 : decide (n < (l.length : Int)) = false := decide_eq_false hlt
   go_wp2
   rw [← hQ.out]
   refine ⟨?_, HB.out⟩
   rw [badAt_none (fun j hj => HR.out.2.2.1 j hj (by omega))]
theorem badAt_neg {l : List Mem} (h : ¬ badAt l ≥ 0) : l.findIdx? (fun m => !goodM m) = none := by
 unfold badAt at h
 cases hf : l.findIdx? (fun m => !goodM m) with
 | none => rfl
 | some i => rw [hf] at h; dsimp only at h; omega
theorem badAt_pos {l : List Mem} (h : badAt l ≥ 0) : ∃ i, l.findIdx? (fun m => !goodM m) = some i ∧ badAt l = (i : Int) := by
 unfold badAt at h ⊢
 cases hf : l.findIdx? (fun m => !goodM m) with
 | none => rw [hf] at h; dsimp only at h; omega
 | some i => exact ⟨i, rfl, rfl⟩
def FoldRel (l : List Mem) (W : World) (d : Nat) (i : Int) (wr : World) : Prop :=
 0 ≤ i ∧ i ≤ l.length ∧ (∃ s B, stepsF l i.toNat = some s ∧ FInv l i.toNat s ∧ DirS wr (W.heap.size + 1) d i.toNat l s B) ∧ Below W.heap.size W wr ∧ wr.cell? ⟨W.heap.size, 0, none⟩ = some (.int .i64 0) ∧ wr.cell? ⟨W.heap.size, 1, none⟩ = some (.int .i64 0) ∧ wr.frozen? ⟨W.heap.size, 0, none⟩ = false ∧ wr.frozen? ⟨W.heap.size, 1, none⟩ = false
def FoldPost (l : List Mem) (W : World) (e : Ending) (W' : World) : Prop := ∃ v, e = .returned (.tuple #[v, .agg #[.int .i64 (foldF l).2.1, .int .i64 (foldF l).2.2]]) ∧ Kd.V k38 38 W' W.heap.size (fun k => W.heap.size ≤ k) v (foldF l).1 ∧ Below W.heap.size W W' ∧ (0 < (foldF l).1.length → ∃ g c, v = .slice (some ⟨g, 0, none⟩) (foldF l).1.length c)
set_option maxRecDepth 100000 in
set_option maxHeartbeats 4000000 in
theorem Fold_calls (A0 : Option Addr) (c0 : Nat) (l : List Mem) (W : World) (hT : Tabs W) (hC : Kd.C k27 W A0 l.length l) (hz : MemsZ l) :
  Calls Tryd.prog 10 #[.slice A0 l.length c0] W (FoldPost l W) := by
 have hmm := @run_makeMap Tryd.prog
 have HBC := Aside0.mk (fun o => Bad_calls A0 c0 l _ (Tabs.below hT (below_alloc (Below.refl _ _) o)) (Kd.C_alloc hC o) hz)
 have HC := Aside0.mk hC
 have HZ := Aside0.mk hz
 have hlen : (l.length : Int) ≤ 1000000000000 := by have := hz.1; omega
 clear hC hz hT
 generalize hpost : FoldPost l W = Q
 have hQ := Aside0.mk hpost
 clear hpost
 by_cases hbad : badAt l ≥ 0
 ·obtain ⟨i, hi, hbi⟩ := badAt_pos hbad
  have hb2 : decide (badAt l ≥ 0) = true := decide_eq_true hbad
  have hb3 : decide (0 ≤ badAt l) = true := decide_eq_true hbad
  have HI := Aside0.mk hi
  have HBI := Aside0.mk hbi
  clear hi hbi
  go_enter Tryd.func10, Tryd.ntmps10
  go_wp2_with (go_at_call 23; refine (HBC.out _).mono ?_; rintro e w1 ⟨rfl, hb1⟩; obtain ⟨hc1, hf1⟩ := bcell hb1; have hz1 : W.heap.size < w1.heap.size := Nat.lt_of_lt_of_le (by simp) hb1.size; have HB1 := Aside0.mk hb1; clear hb1)
  have hB1 := ((Below.refl W.heap.size W).alloc (Nat.le_refl _) (.cells #[.int .i64 0, .int .i64 0] 34)).trans (HB1.out.mono (by simp))
  refine bodyPost_ret (v := .tuple #[.slice none 0 0, .agg #[.int .i64 1, .int .i64 (badAt l)]]) (by simp [results, Tryd.results10, go_sem, hc1, hz1]) rfl ?_
  rw [← hQ.out]
  refine ⟨.slice none 0 0, by rw [foldF_bad HI.out, HBI.out], by rw [foldF_bad HI.out]; exact Kd.V_nil _ _ _ _ _, ?_, by rw [foldF_bad HI.out]; intro h; cases h⟩
  repeat (with_reducible refine below_put ?_ _ _ (Nat.le_refl _) _)
  exact hB1
 ·have hg := badAt_neg hbad
  have hb2 : decide (badAt l ≥ 0) = false := decide_eq_false hbad
  have hb3 : decide (0 ≤ badAt l) = false := decide_eq_false hbad
  have HG := Aside0.mk hg
  clear hg
  go_enter Tryd.func10, Tryd.ntmps10
  go_wp2_with (go_at_call 23; refine (HBC.out _).mono ?_; rintro e w1 ⟨rfl, hb1⟩; obtain ⟨hc1, hf1⟩ := bcell hb1; have hz1 : W.heap.size < w1.heap.size := Nat.lt_of_lt_of_le (by simp) hb1.size; have HB1 := Aside0.mk hb1; clear hb1)
  have hB1 : Below W.heap.size W w1 := ((Below.refl W.heap.size W).alloc (Nat.le_refl _) (.cells #[.int .i64 0, .int .i64 0] 34)).trans (HB1.out.mono (by simp))
  have hstart : FoldRel l W w1.heap.size 0 (w1.alloc (.map #[] 0)) := by
   refine ⟨by omega, by omega, ⟨[], fun _ => 0, rfl, FInv.start l, DirS.start _ _ _ _⟩, hB1.alloc hB1.size _, ?_, ?_, ?_, ?_⟩
   ·exact fcell ((hc1 W.heap.size 0 (by simp)).trans (by simp)) _
   ·exact fcell ((hc1 W.heap.size 1 (by simp)).trans (by simp)) _
   ·exact ((below_alloc (Below.refl _ _) _).frozen (p := ⟨W.heap.size, 0, none⟩) hz1).trans ((hf1 W.heap.size 0 (by simp)).trans (by simp))
   ·exact ((below_alloc (Below.refl _ _) _).frozen (p := ⟨W.heap.size, 1, none⟩) hz1).trans ((hf1 W.heap.size 1 (by simp)).trans (by simp))
  have HST := Aside0.mk hstart
  have HDZ : Aside0 (W.heap.size < w1.heap.size) := ⟨hz1⟩
  clear hstart hB1 hc1 hf1 HB1
  go_loopw [17] (fun i wr => ∃ n : Int, i = .int .i64 n ∧ Aside0 (FoldRel l W w1.heap.size n wr)) (fun i _ => (l.length - (intOf i)).toNat)
  case atStart => exact ⟨0, rfl, HST⟩
  case round =>
   obtain ⟨n, rfl, HR⟩ := hrel
   have h0 := HR.out.1
   have h1 := HR.out.2.1
   obtain ⟨s, B, hs, hI, hD⟩ := HR.out.2.2.1
   have HB := Aside0.mk HR.out.2.2.2.1
   obtain ⟨f0, f1, f2, f3⟩ := HR.out.2.2.2.2
   have hwz := HB.out.size
   have hwlt : W.heap.size < wr.heap.size := World.block_lt_of_cell? wr _ f0
   have HS := Aside0.mk hs
   have HI := Aside0.mk hI
   have HD := Aside0.mk hD
   clear hs hI hD
   by_cases hlt : n < (l.length : Int)
   ·have c1b : decide (n < (l.length : Int)) = true := decide_eq_true hlt
    have hnl : n.toNat < l.length := by omega
    obtain ⟨ad, A7, c7, rfl, x0, x1, x2, x3, x4, x5, x6, x7, hl7, hC7⟩ := at_T27 (Kd.C_below HC.out HB.out) n h0 hlt
    have hx := rdM_at l n h0 hlt
    have hxz : MemZ (rd_T27 l n) := by rw [hx]; exact HZ.out.2 _ (List.getElem_mem _)
    have hxg : goodM (rd_T27 l n) = true := by rw [hx]; exact all_good HG.out (List.getElem_mem _)
    generalize rd_T27 l n = x at hx hxz hxg x0 x1 x2 x3 x4 x5 x6 x7 hl7 hC7
    have HLC := Aside0.mk (fun o => Lay_calls (W.heap.size + 1) w1.heap.size n.toNat l s B x A7 c7 (wr.alloc o) (by rw [hx, List.getElem?_eq_getElem hnl]) (by omega) hxz (HD.out.below (below_alloc (Below.refl _ _) o)) HI.out (by rw [World.size_alloc]; omega) (Kd.C_alloc hC7 o))
    have HX := Aside0.mk hx
    have HXZ := Aside0.mk hxz
    have HXG := Aside0.mk hxg
    have HNL := Aside0.mk hnl
    clear hx hxz hxg hnl hC7 hl7
    unfold memCells at HLC
    have hdn : ¬ W.heap.size = w1.heap.size := by have := HDZ.out; omega
    have hdlt : w1.heap.size < wr.heap.size := HD.out.1.lt
    go_wp2_with (go_at_call 26; refine (HLC.out _).mono ?_; rintro e w2 ⟨(⟨hno, rfl⟩ | ⟨s', B', hst, rfl, hD'⟩), hg2⟩; all_goals (have hc2 : ∀ j, w2.cell? ⟨W.heap.size, j, none⟩ = wr.cell? ⟨W.heap.size, j, none⟩ := (fun j => (rcell'' hg2 (by simp; omega) (fun e => by injection e with e; exact hdn e)).trans (World.cell?_of_block (a := ⟨W.heap.size, j, none⟩) ((below_alloc (Below.refl _ _) _).block _ hwlt))); have hf2 : ∀ j, w2.frozen? ⟨W.heap.size, j, none⟩ = wr.frozen? ⟨W.heap.size, j, none⟩ := (fun j => (rfroz'' hg2 (by simp; omega) (fun e => by injection e with e; exact hdn e)).trans (World.frozen?_of_block (a := ⟨W.heap.size, j, none⟩) ((below_alloc (Below.refl _ _) _).block _ hwlt))); have hz2 := hg2.size; simp only [World.size_alloc] at hz2; have HG2 := Aside0.mk hg2; clear hg2))
    ·rw [← hQ.out]
     have hB2 : Below W.heap.size W w2 := (HB.out.alloc HB.out.size _).grown HG2.out (by rw [World.size_alloc]; omega) (fun j hj => by cases hj; omega)
     have hst := foldF_stop HG.out HNL.out HS.out hno
     rw [Int.toNat_of_nonneg h0] at hst
     refine bodyPost_ret (v := .tuple #[.slice none 0 0, .agg #[.int .i64 7, .int .i64 n]]) (by simp [results, Tryd.results10, go_sem, hc2, f0, f1, hz2]) rfl ?_
     refine ⟨.slice none 0 0, by rw [hst], by rw [hst]; exact Kd.V_nil _ _ _ _ _, ?_, by rw [hst]; intro h; cases h⟩
     repeat (with_reducible refine below_put ?_ _ _ (Nat.le_refl _) _)
     exact hB2
    ·have hB2 : Below W.heap.size W w2 := (HB.out.alloc HB.out.size _).grown HG2.out (by rw [World.size_alloc]; omega) (fun j hj => by cases hj; omega)
     have hxe : l[n.toNat]'HNL.out = x := HX.out.symm
     have hfin : FoldRel l W w1.heap.size (n + 1) w2 := by
      refine ⟨by omega, by have := HNL.out; omega, ⟨s', B', ?_, ?_, ?_⟩, hB2, (hc2 0).trans f0, (hc2 1).trans f1, (hf2 0).trans f2, (hf2 1).trans f3⟩
      ·rw [show (n + 1).toNat = n.toNat + 1 from by omega, stepsF_succ HS.out]; exact hst
      ·rw [show (n + 1).toNat = n.toNat + 1 from by omega]
       exact HI.out.step HNL.out (by rw [hxe]; exact good_full HXG.out) (by rw [hxe]; exact HXZ.out.1) hst
      ·rw [show (n + 1).toNat = n.toNat + 1 from by omega]; exact hD'
     have HF := Aside0.mk hfin
     clear hfin hB2 hxe hst hD' hc2 hf2
     go_roundw
     case rel => exact ⟨n + 1, by go_num, HF⟩
     case measure => simp [intOf]; have := HNL.out; omega
   ·have c1b : decide (n < (l.length : Int)) = false := decide_eq_false hlt
    have hnl : n.toNat = l.length := by omega
    have hs := HS.out
    have hI := HI.out
    have hD := HD.out
    rw [hnl] at hs hI hD
    have hNC := Nodes_calls (W.heap.size + 1) w1.heap.size l s B wr (by omega) (fun m hm => (HZ.out.2 m hm).2.2) hD hI (by omega)
    have HNC := Aside0.mk hNC
    have HSS := Aside0.mk hs
    clear hs hI hD hNC hnl
    go_wp2_with (go_at_call 27; refine HNC.out.mono ?_; rintro e w3 ⟨v, rfl, hN, hb3⟩; obtain ⟨Av, cv, rfl⟩ := Kd.N_slice hN; have hc3 : ∀ j, w3.cell? ⟨W.heap.size, j, none⟩ = wr.cell? ⟨W.heap.size, j, none⟩ := (fun j => hb3.cell (p := ⟨W.heap.size, j, none⟩) (Nat.lt_succ_self _)); have hf3 : ∀ j, w3.frozen? ⟨W.heap.size, j, none⟩ = wr.frozen? ⟨W.heap.size, j, none⟩ := (fun j => hb3.frozen (p := ⟨W.heap.size, j, none⟩) (Nat.lt_succ_self _)); have hz3 : W.heap.size < w3.heap.size := Nat.lt_of_lt_of_le hwlt hb3.size; have HN3 := Aside0.mk hN; have HB3 := Aside0.mk hb3; clear hN hb3)
    have hst := foldF_end HG.out HSS.out
    refine bodyPost_ret (v := .tuple #[.slice Av ((sortP s).map (nodeOf l (sortP s))).length cv, .agg #[.int .i64 0, .int .i64 0]]) (by simp [results, Tryd.results10, go_sem, hc3, f0, f1, hz3]) rfl ?_
    rw [← hQ.out]
    refine ⟨_, by rw [hst], ?_, ?_, ?_⟩
    ·rw [hst]
     refine Kd.V_mono (ok := fun k => wr.heap.size ≤ k) ?_ (fun k hk => by omega)
     repeat (with_reducible refine Kd.V_far ?_ (fun k hk e => by have e' : k = W.heap.size := e; omega) _)
     exact Kd.N_V HN3.out
    ·repeat (with_reducible refine below_put ?_ _ _ (Nat.le_refl _) _)
     exact HB.out.trans (HB3.out.mono (by omega))
    ·rw [hst]
     intro hp
     obtain ⟨g, cap, he, _⟩ := Kd.N_form HN3.out hp
     exact ⟨g, cap, he⟩
end Go.Proofs.YtiijbmaamblidaaDoor

namespace Go.Proofs.YtiijbmaamblidaaDoor.Print
open Go.RowKit Go.Proofs.YtiijbmaamblidaaDoor Go.Proofs.YtiijbmaamblidaaDoorW.PrintWords Go.Proofs.YtiijbmaamblidaaDoorW.PrintLast Go.Proofs.YtiijbmaamblidaaDoorW.PrintMore
set_option linter.unusedVariables false
def tree_Fold.f (l : List S27) : Option (List S38 × Int × Int) := if memsZ l = true then some (foldF l) else none
theorem tree_Fold.calls (A0 : Option Addr) (c0 : Nat) (l0 : List S27) (r1 : List S38) (r2 r3 : Int) (w : World) (hT : Aside0 (Tabs w)) (hr0 : Kd.C k27 w A0 l0.length l0) (hc0 : l0.length ≤ c0) (h : tree_Fold.f l0 = some (r1, r2, r3)) :
  Calls Tryd.prog 10 #[.slice A0 l0.length c0] w fun e w' => ∃ v0_ : Value, e = .returned (.tuple #[v0_, .agg #[.int .i64 r2, .int .i64 r3]]) ∧ Kd.V k38 38 w' w.heap.size (fun k_ => w.heap.size ≤ k_) v0_ r1 ∧ Below w.heap.size w w' := by
 unfold tree_Fold.f at h
 split at h
 ·rename_i hc
  simp only [Option.some.injEq] at h
  refine (Fold_calls A0 c0 l0 w hT.out hr0 ((memsZ_iff l0).1 hc)).mono ?_
  rintro e w' ⟨v, rfl, hV, hB, _⟩
  rw [h] at hV ⊢
  exact ⟨v, rfl, hV, hB⟩
 ·cases h
end Go.Proofs.YtiijbmaamblidaaDoor.Print

namespace Go.Proofs.YtiijbmaamblidaaDoor
open Go.Sort Go.Proofs
variable {α : Type} [Inhabited α]
theorem holds_of_blockE (enc : α → Value) {w : World} {g : Nat} {cur : Array Value} {e : TypeId} {ss : List α} (hb : w.heap[g]? = some (.cells cur e (0, 0))) (ht : cur.toList.take ss.length = ss.map enc) : Holds enc w g 0 ss.toArray := by
 intro j hj
 have hj' : j < ss.length := by simpa using hj
 refine ⟨?_, by simp [World.frozen?, hb]⟩
 have h1 : (cur.toList.take ss.length)[j]? = (ss.map enc)[j]? := by rw [ht]
 rw [List.getElem?_take_of_lt hj'] at h1
 simp only [World.cell?, hb, Nat.zero_add]
 simp only [Option.isSome_none, Bool.false_eq_true, if_false]
 rw [← Array.getElem?_toList, h1]
 simp [hj']
theorem heap_sortedE (enc : α → Value) {w : World} {g n : Nat} {os : Array Obj} {cur : Array Value} {e : TypeId} {fr : Nat × Nat} (d : Array α) (hb : w.heap[g]? = some (.cells cur e fr)) :
  (sortWorld enc w g 0 n d os).heap[g]? = some (.cells (putCells enc 0 d cur) e fr) := by
 have hg : g < w.heap.size := (Array.getElem?_eq_some_iff.1 hb).1
 unfold sortWorld
 rw [heap_grow_old _ _ (by simpa using hg)]
 simp [putRow, mapBlock, Sort.ahead, Array.getElem?_modify, hb, onCells]
theorem grownBy_sortedE (enc : α → Value) {w : World} {g n : Nat} {os : Array Obj} (d : Array α) : w.grownBy (sortWorld enc w g 0 n d os) (some g) := by
 unfold sortWorld
 refine ⟨rfl, rfl, rfl, by simp, fun k hk hne => ?_⟩
 rw [heap_grow_old _ _ (by simpa using hk)]
 have : g ≠ k := fun e => hne (by rw [e])
 simp [putRow, mapBlock, Sort.ahead, Array.getElem?_modify, this]
theorem take_putCellsE (enc : α → Value) (cur : Array Value) (ts : List α) (h : ts.length ≤ cur.size) : (putCells enc 0 ts.toArray cur).toList.take ts.length = ts.map enc := by
 apply List.ext_getElem?
 intro j
 by_cases hj : j < ts.length
 ·rw [List.getElem?_take_of_lt hj, Array.getElem?_toList]
  simp [putCells, hj, show j < cur.size by omega]
 ·rw [List.getElem?_take_eq_none (by omega), List.getElem?_eq_none (by simp; omega)]
theorem ownsRow_sortedE (enc : α → Value) {w : World} {base g cap n : Nat} {e : TypeId} {os : Array Obj} {cur : Array Value} {ss ts : List α} (hl : ts.length = ss.length) (hbase : base ≤ g) (hb : w.heap[g]? = some (.cells cur e (0, 0)))
  (h1 : ss.length ≤ cap) (h2 : cap ≤ maxLen) (h3 : cur.size = cap * 1) :
  (sortWorld enc w g 0 n ts.toArray os).ownsRow base e 1 (.slice (some ⟨g, 0, none⟩) ss.length cap) ss.length (ts.map enc) :=
 ⟨by simp [hl], .inr ⟨g, cap, _, rfl, hbase, heap_sortedE enc _ hb, h1, h2, by simp [putCells, h3], by rw [Nat.mul_one, ← hl]; exact take_putCellsE enc cur ts (by omega)⟩⟩
end Go.Proofs.YtiijbmaamblidaaDoor

namespace Go.Proofs
open Go.Shelf
def Tryd.sortStr_ren : Go.Shelf.Ren := ⟨fun | 6 => 29 | 15 => 46 | 14 => 45 | 28 => 67 | 29 => 68 | 20 => 59 | 21 => 60 | 22 => 61 | 23 => 62 | 24 => 63 | 25 => 64 | 26 => 65 | 27 => 66 | 46 => 77 | 47 => 78 | 48 => 79 | 49 => 80 | 50 => 81 | 57 => 99 | n => n, fun | 22 => 47 | 24 => 9 | 25 => 62 | 3 => 3 | 39 => 83 | 0 => 0 | 53 => 101 | 55 => 103 | 4 => 4 | 46 => 95 | 45 => 94 | 50 => 89 | 5 => 5 | 9 => 9 | 66 => 109 | 70 => 113 | 76 => 135 | 77 => 136 | n => n, fun | n => n⟩
theorem Tryd.sortStr : Go.Proofs.SlLaysF.n6 Tryd.prog Tryd.sortStr_ren := {
 mixed := by kernel_rfl
 f6 := ⟨Tryd.f29.name, by decide, Tryd.func29.trans (congrArg some (by kernel_rfl))⟩
 f14 := ⟨Tryd.f45.name, by decide, Tryd.func45.trans (congrArg some (by kernel_rfl))⟩
 f15 := Tryd.func46.trans (congrArg some (by kernel_rfl))
 f20 := ⟨Tryd.f59.name, by decide, Tryd.func59.trans (congrArg some (by kernel_rfl))⟩
 f21 := ⟨Tryd.f60.name, by decide, Tryd.func60.trans (congrArg some (by kernel_rfl))⟩
 f22 := ⟨Tryd.f61.name, by decide, Tryd.func61.trans (congrArg some (by kernel_rfl))⟩
 f23 := ⟨Tryd.f62.name, by decide, Tryd.func62.trans (congrArg some (by kernel_rfl))⟩
 f24 := ⟨Tryd.f63.name, by decide, Tryd.func63.trans (congrArg some (by kernel_rfl))⟩
 f25 := ⟨Tryd.f64.name, by decide, Tryd.func64.trans (congrArg some (by kernel_rfl))⟩
 f26 := ⟨Tryd.f65.name, by decide, Tryd.func65.trans (congrArg some (by kernel_rfl))⟩
 f27 := ⟨Tryd.f66.name, by decide, Tryd.func66.trans (congrArg some (by kernel_rfl))⟩
 f28 := Tryd.func67.trans (congrArg some (by kernel_rfl))
 f29 := Tryd.func68.trans (congrArg some (by kernel_rfl))
 f46 := ⟨Tryd.f77.name, by decide, Tryd.func77.trans (congrArg some (by kernel_rfl))⟩
 f47 := Tryd.func78.trans (congrArg some (by kernel_rfl))
 f48 := Tryd.func79.trans (congrArg some (by kernel_rfl))
 f49 := ⟨Tryd.f80.name, by decide, Tryd.func80.trans (congrArg some (by kernel_rfl))⟩
 f50 := ⟨Tryd.f81.name, by decide, Tryd.func81.trans (congrArg some (by kernel_rfl))⟩
 f57 := ⟨Tryd.f99.name, by decide, Tryd.func99.trans (congrArg some (by kernel_rfl))⟩
 t0 := Tryd.underlying0
 a0 := Tryd.isAgg0
 z0 := Tryd.sizeOf0
 v0 := Tryd.zeroValue0
 t3 := Tryd.underlying3
 a3 := Tryd.isAgg3
 z3 := Tryd.sizeOf3
 v3 := Tryd.zeroValue3
 t4 := Tryd.underlying4
 a4 := Tryd.isAgg4
 z4 := Tryd.sizeOf4
 v4 := Tryd.zeroValue4
 t5 := Tryd.underlying5
 a5 := Tryd.isAgg5
 z5 := Tryd.sizeOf5
 v5 := Tryd.zeroValue5
 t9 := Tryd.underlying9
 a9 := Tryd.isAgg9
 z9 := Tryd.sizeOf9
 v9 := Tryd.zeroValue9
 t22 := Tryd.underlying47
 a22 := Tryd.isAgg47
 z22 := Tryd.sizeOf47
 v22 := Tryd.zeroValue47
 a24 := Tryd.isAgg9
 z24 := Tryd.sizeOf9
 t25 := Tryd.underlying62
 a25 := Tryd.isAgg62
 z25 := Tryd.sizeOf62
 v25 := Tryd.zeroValue62
 t39 := Tryd.underlying83
 a39 := Tryd.isAgg83
 z39 := Tryd.sizeOf83
 v39 := Tryd.zeroValue83
 t45 := Tryd.underlying94
 a45 := Tryd.isAgg94
 z45 := Tryd.sizeOf94
 v45 := Tryd.zeroValue94
 t46 := Tryd.underlying95
 a46 := Tryd.isAgg95
 z46 := Tryd.sizeOf95
 v46 := Tryd.zeroValue95
 t50 := Tryd.underlying89
 a50 := Tryd.isAgg89
 z50 := Tryd.sizeOf89
 v50 := Tryd.zeroValue89
 t53 := Tryd.underlying101
 a53 := Tryd.isAgg101
 z53 := Tryd.sizeOf101
 v53 := Tryd.zeroValue101
 t55 := Tryd.underlying103
 a55 := Tryd.isAgg103
 z55 := Tryd.sizeOf103
 v55 := Tryd.zeroValue103
 t66 := Tryd.underlying109
 a66 := Tryd.isAgg109
 z66 := Tryd.sizeOf109
 v66 := Tryd.zeroValue109
 t70 := Tryd.underlying113
 a70 := Tryd.isAgg113
 z70 := Tryd.sizeOf113
 v70 := Tryd.zeroValue113
 t76 := Tryd.underlying135
 a76 := Tryd.isAgg135
 z76 := Tryd.sizeOf135
 v76 := Tryd.zeroValue135
 t77 := Tryd.underlying136
 a77 := Tryd.isAgg136
 z77 := Tryd.sizeOf136
 v77 := Tryd.zeroValue136 }
def Tryd.cmpInt_ren : Go.Shelf.Ren := ⟨fun | 5 => 31 | 7 => 47 | n => n, fun | 22 => 3 | 3 => 3 | 4 => 4 | n => n, fun | n => n⟩
theorem Tryd.cmpInt : Go.Proofs.SlLaysC2.n5 Tryd.prog Tryd.cmpInt_ren := {
 mixed := by kernel_rfl
 f5 := ⟨Tryd.f31.name, by decide, Tryd.func31.trans (congrArg some (by kernel_rfl))⟩
 f7 := ⟨Tryd.f47.name, by decide, Tryd.func47.trans (congrArg some (by kernel_rfl))⟩
 t3 := Tryd.underlying3
 a3 := Tryd.isAgg3
 z3 := Tryd.sizeOf3
 v3 := Tryd.zeroValue3
 t4 := Tryd.underlying4
 a4 := Tryd.isAgg4
 z4 := Tryd.sizeOf4
 v4 := Tryd.zeroValue4
 t22 := Tryd.underlying3
 a22 := Tryd.isAgg3
 z22 := Tryd.sizeOf3
 v22 := Tryd.zeroValue3 }
end Go.Proofs

namespace Go.Proofs.YtiijbmaamblidaaDoor
open Go.RowKit Go.Maps Go.Shelf Go.Proofs Go.Proofs.YtiijbmaamblidaaDoor.Print Go.Proofs.YtiijbmaamblidaaDoorW.PrintWords Go.Proofs.YtiijbmaamblidaaDoorW.PrintLast Go.Proofs.YtiijbmaamblidaaDoorW.PrintMore
set_option linter.unusedVariables false
set_option linter.unusedSimpArgs false
theorem zeroIntO (w : World) : (zeroValue 3).run Tryd.prog w = .ok (.int .i64 0) w := by kernel_rfl
def lastV (l : List Mem) (n : Nat) : List UInt8 → Option Value := fun k => (lastN l n k).map (fun (i : Nat) => Value.int .i64 (i : Int))
theorem lastV_put {l : List Mem} {n : Nat} (h : n < l.length) (k : List UInt8) : putS (lastV l n) l[n].f0.data.toList (.int .i64 (n : Int)) k = lastV l (n + 1) k := by
 unfold putS lastV
 rw [lastN_succ h]
 by_cases e : k = l[n].f0.data.toList
 ·rw [if_pos e, if_pos e]; rfl
 ·rw [if_neg e, if_neg e]
theorem lastV_zero (l : List Mem) (k : List UInt8) : (none : Option Value) = lastV l 0 k := rfl
abbrev SB := {p : ByteArray // p.size ≤ maxLen}
instance : Inhabited SB := ⟨⟨⟨#[]⟩, Nat.zero_le _⟩⟩
def encB (p : SB) : Value := .string p.1
def cfO (l : List Mem) (x y : SB) : Int := Lib.compareInt (lastD l l.length x.1 : Int) (lastD l l.length y.1 : Int)
theorem ltO (l : List Mem) (x y : SB) : ltOf (cfO l) x y = decide (lastD l l.length x.1 < lastD l l.length y.1) := by
 unfold ltOf cfO Lib.compareInt
 by_cases h1 : (lastD l l.length x.1 : Int) < lastD l l.length y.1
 ·rw [if_pos h1]; simp; omega
 ·rw [if_neg h1]
  by_cases h2 : (lastD l l.length y.1 : Int) < lastD l l.length x.1
  ·rw [if_pos h2]; simp; omega
  ·rw [if_neg h2]; simp; omega
theorem swoO (l : List Mem) : Go.Sort.SWO (ltOf (cfO l)) where
 irrefl x := by rw [ltO]; simp
 trans x y z h1 h2 := by rw [ltO] at *; simp at *; omega
 ntrans x y z h1 h2 := by rw [ltO] at *; simp at *; omega
theorem OrdCmp_calls (l : List Mem) (d B kk : Nat) (x y : SB) (W : World) (hM : MapS Tryd.prog 9 W d kk (lastV l l.length)) (hc : W.cell? ⟨B, 0, none⟩ = some (.map (some d))) :
  Calls Tryd.prog 30 #[.string x.1, .string y.1, .pointer (some ⟨B, 0, none⟩)] W fun e W' => e = .returned (.int .i64 (cfO l x y)) ∧ W' = W := by
 have h1 := hM.look Tryd.underlying9 Tryd.underlying59 (zeroIntO _) x.2
 have h2 := hM.look Tryd.underlying9 Tryd.underlying59 (zeroIntO _) y.2
 have e : ∀ p : ByteArray, (lastV l l.length p.data.toList).getD (.int .i64 0) = .int .i64 (lastD l l.length p : Int) := fun p => by
  unfold lastV lastD
  cases lastN l l.length p.data.toList <;> rfl
 rw [e] at h1 h2
 have hcon := fun w => AnyG.cmp_Compare_int Tryd.cmpInt (lastD l l.length x.1 : Int) (lastD l l.length y.1 : Int) w
 change ∀ w, Calls Tryd.prog 31 _ _ _ at hcon
 unfold cfO
 generalize Lib.compareInt (lastD l l.length x.1 : Int) (lastD l l.length y.1 : Int) = r at hcon ⊢
 have HC := Aside0.mk hcon
 clear hcon hM e
 go_enter Tryd.func30, Tryd.ntmps30
 go_wp2_with (go_at_call 31; (with_reducible refine (HC.out _).mono ?_); rintro e w' ⟨rfl, rfl⟩)
 go_ret
 exact ⟨rfl, rfl⟩
theorem SortF_calls (l : List Mem) (d B kk g cap base : Nat) (ss : List SB) (cur : Array Value) (W : World) (hM : MapS Tryd.prog 9 W d kk (lastV l l.length)) (hc : W.cell? ⟨B, 0, none⟩ = some (.map (some d))) (hdg : d ≠ g) (hBg : B ≠ g)
  (hbase : base ≤ g) (hb : W.heap[g]? = some (.cells cur 9 (0, 0))) (ht : cur.toList.take ss.length = ss.map encB) (h1 : ss.length ≤ cap) (h2 : cap ≤ maxLen) (h3 : cur.size = cap * 1) (hsz : ss.length < 4611686018427387904) :
  Calls Tryd.prog 29 #[.slice (some ⟨g, 0, none⟩) ss.length cap, .func (.func 30) #[] #[.pointer (some ⟨B, 0, none⟩)]] W fun e W' => e = .returned (.tuple #[]) ∧ ∃ ts : List SB, ts.Perm ss ∧ ts.Pairwise (fun x y => lastD l l.length x.1 ≤ lastD l l.length y.1) ∧
   W'.ownsRow base 9 1 (.slice (some ⟨g, 0, none⟩) ss.length cap) ss.length (ts.map encB) ∧ W.grownBy W' (some g) := by
 have eg : ∀ args w, (callFunc 30 args).run Tryd.prog w = .ok (.enter 30 args) w := enters_of Tryd.func30 (by kernel_rfl) rfl
 have hBlt := World.block_lt_of_cell? W _ hc
 dsimp only at hBlt
 have hcmp : CmpLays1 Tryd.prog 30 #[.pointer (some ⟨B, 0, none⟩)] encB (cfO l) g 0 ss.toArray.size W := by
  intro m os dk hdk x y
  have hg := grownBy_sortedE encB (w := W) (g := g) (n := m) (os := os) dk
  have hM' := hM.kept hg (by intro e; injection e with e; exact hdg e)
  have hc' : (sortWorld encB W g 0 m dk os).cell? ⟨B, 0, none⟩ = some (.map (some d)) := (World.cell?_of_block (a := ⟨B, 0, none⟩) (hg.block B hBlt (by intro e; injection e with e; exact hBg e))).trans hc
  exact (OrdCmp_calls l d B kk x y _ hM' hc').mono fun e w' ⟨he, hw⟩ => ⟨he, 0, #[], by rw [hw, Go.Sort.grow_empty]; rfl⟩
 have hH := holds_of_blockE encB hb ht
 have hcon := Any.slices_SortFunc Tryd.sortStr encB (fun _ => rfl) (cfO l) (swoO l) 30 #[.pointer (some ⟨B, 0, none⟩)] g 0 cap ss.toArray W eg hcmp hH (Array.getElem?_eq_some_iff.1 hb).1 (by simpa using hsz)
 change Calls Tryd.prog 29 _ _ _ at hcon
 rw [List.size_toArray] at hcon
 refine hcon.mono ?_
 rintro e w' ⟨he, d', n, os, ⟨hp1, _, hp3⟩, hs, rfl⟩
 have hl : d'.size = ss.length := by rw [hp1]; simp
 have hpl : d'.toList.Perm ss := by
  have e1 : d'.extract 0 ss.length = d' := by rw [← hl, Array.extract_size]
  have e2 : ss.toArray.extract 0 ss.length = ss.toArray := by
   have := Array.extract_size (xs := ss.toArray)
   rwa [List.size_toArray] at this
  rw [e1, e2] at hp3
  simpa using hp3
 refine ⟨he, d'.toList, hpl, ?_, ?_, grownBy_sortedE encB d'⟩
 ·rw [List.pairwise_iff_getElem]
  intro i j hi hj hij
  have hij2 := hs i j (Nat.zero_le _) hij (by rw [← hl]; simpa using hj)
  rw [ltO, decide_eq_false_iff_not] at hij2
  rw [getElem!_pos d' i (by simpa using hi), getElem!_pos d' j (by simpa using hj)] at hij2
  simp only [Array.getElem_toList]
  omega
 ·have h := ownsRow_sortedE encB (os := os) (n := n) (ss := ss) (ts := d'.toList) (by rw [Array.length_toList, hl]) hbase hb h1 h2 h3
  simpa using h
def OrdRel1 (l : List Mem) (W : World) (n : Int) (wr : World) : Prop :=
 0 ≤ n ∧ n ≤ l.length ∧ MapS Tryd.prog 9 wr W.heap.size n.toNat (lastV l n.toNat) ∧ Below W.heap.size W wr ∧ wr.cell? ⟨W.heap.size + 1, 0, none⟩ = some (.map (some W.heap.size))
def keysB (ss : List (List UInt8)) : List ByteArray := ss.map (fun s => ⟨s.toArray⟩)
theorem keysB_mem {ss : List (List UInt8)} {p : ByteArray} : p ∈ keysB ss ↔ p.data.toList ∈ ss := by
 unfold keysB
 rw [List.mem_map]
 constructor
 ·rintro ⟨s, hs, rfl⟩; exact hs
 ·intro h; exact ⟨_, h, by cases p; rfl⟩
def OrdRel2 (W : World) (d k r : Nat) (D : DataW Value) (left : Lit → Bool) (cnt : Nat) (o : Value) (ss : List (List UInt8)) (wr : World) : Prop :=
 wr.ranges Tryd.prog 9 heldE d r k D left cnt ∧ Collected D left ss ∧ (∀ s ∈ ss, s.length ≤ maxLen) ∧ ss.length + cnt ≤ k ∧ Kd.R Kd.string 9 wr W.heap.size (fun k => W.heap.size + 2 ≤ k ∧ k ≠ r) o (keysB ss) ∧ Below W.heap.size W wr ∧ wr.cell? ⟨W.heap.size + 1, 0, none⟩ = some (.map (some d)) ∧ W.heap.size + 2 ≤ wr.heap.size
set_option maxRecDepth 100000 in
set_option maxHeartbeats 4000000 in
theorem Order_calls (A0 : Option Addr) (c0 : Nat) (l : List Mem) (W : World) (hC : Kd.C k27 W A0 l.length l) (hz : MemsZ l) :
  Calls Tryd.prog 17 #[.slice A0 l.length c0] W fun e W' => ∃ v, e = .returned v ∧ Kd.R Kd.string 9 W' W.heap.size (fun _ => True) v (orderF l) ∧ Below W.heap.size W W' := by
 have hmm := @run_makeMap Tryd.prog
 have HC := Aside0.mk hC
 have HZ := Aside0.mk hz
 have hlen : (l.length : Int) ≤ 1000000000000 := by have := hz.1; omega
 clear hC hz
 generalize hpost : (fun (e : Ending) (W' : World) => ∃ v, e = .returned v ∧ Kd.R Kd.string 9 W' W.heap.size (fun _ => True) v (orderF l) ∧ Below W.heap.size W W') = Q
 have hQ := Aside0.mk hpost
 clear hpost
 go_enter Tryd.func17, Tryd.ntmps17
 go_wp2
 go_loopw [11] (fun i wr => ∃ n : Int, i = .int .i64 n ∧ Aside0 (OrdRel1 l W n wr)) (fun i _ => (l.length - (intOf i)).toNat)
 case atStart =>
  refine ⟨0, rfl, ⟨⟨by omega, by omega, ((MapS.made _ _ _).alloc _).ext (lastV_zero l), ?_, by go_simp⟩⟩⟩
  exact ((Below.refl _ _).alloc (Nat.le_refl _) _).alloc (by simp) _
 case round =>
  obtain ⟨n, rfl, HR⟩ := hrel
  have h0 := HR.out.1
  have h1 := HR.out.2.1
  have HM := Aside0.mk HR.out.2.2.1
  have HB := Aside0.mk HR.out.2.2.2.1
  have hbx := HR.out.2.2.2.2
  have hwlt := World.block_lt_of_cell? wr _ hbx
  dsimp only at hwlt
  by_cases hlt : n < (l.length : Int)
  ·have c1b : decide (n < (l.length : Int)) = true := decide_eq_true hlt
   have hnl : n.toNat < l.length := by omega
   obtain ⟨ad, A7, c7, rfl, x0, x1, x2, x3, x4, x5, x6, x7, hl7, hC7⟩ := at_T27 (Kd.C_below HC.out HB.out) n h0 hlt
   have hx := rdM_at l n h0 hlt
   have hxz : MemZ (rd_T27 l n) := by rw [hx]; exact HZ.out.2 _ (List.getElem_mem _)
   generalize rd_T27 l n = x at hx hxz x0 x1 x2 x3 x4 x5 x6 x7 hl7 hC7
   have hs0 : x.f0.size ≤ maxLen := by have := hxz.1; unfold maxLen; omega
   have HX := Aside0.mk hx
   have HNL := Aside0.mk hnl
   have HS0 := Aside0.mk hs0
   clear hx hxz hl7 hC7 hs0 hnl
   go_wp2_with (at_mapUpdate; refine MapS.wpput (HM.out.alloc _) rfl _ _ _ rfl Tryd.underlying9 Tryd.underlying59 (by unfold maxLen; omega) rfl rfl HS0.out rfl ?_; intro w6 hM6 hturn6)
   have hg6 := hturn6.grown
   have hfin : OrdRel1 l W (n + 1) w6 := by
    have e1 : (n + 1).toNat = n.toNat + 1 := by omega
    have e2 : n = (n.toNat : Int) := by omega
    refine ⟨by omega, by omega, ?_, (HB.out.alloc HB.out.size _).grown hg6 (by have := HB.out.size; simp; omega) (fun j hj => by cases hj; exact Nat.le_refl _), ?_⟩
    ·rw [e1]
     have hput : ∀ s, putS (lastV l n.toNat) x.f0.data.toList (.int .i64 n) s = lastV l (n.toNat + 1) s := fun s => by
      rw [← lastV_put HNL.out, HX.out, ← e2]
     exact hM6.ext hput
    ·refine (World.cell?_of_block (a := ⟨W.heap.size + 1, 0, none⟩) (hg6.block (W.heap.size + 1) (by rw [World.size_alloc]; omega) (fun e => by injection e with e; omega))).trans ?_
     exact (World.cell?_of_block (a := ⟨W.heap.size + 1, 0, none⟩) ((below_alloc (Below.refl _ _) _).block _ hwlt)).trans hbx
   have HFIN := Aside0.mk hfin
   clear hfin hM6 hturn6 hg6
   go_roundw
   case rel => exact ⟨n + 1, by go_num, HFIN⟩
   case measure => simp [intOf]; omega
  ·have c1b : decide (n < (l.length : Int)) = false := decide_eq_false hlt
   obtain ⟨w1, rfl⟩ : ∃ w1 : World, w1 = wr := ⟨_, rfl⟩
   have en : n.toNat = l.length := by omega
   have hM := HM.out
   rw [en] at hM
   obtain ⟨D, hown, hh, ha⟩ := hM
   have HM1 : Aside0 (MapS Tryd.prog 9 w1 W.heap.size l.length (lastV l l.length)) := ⟨⟨D, hown, hh, ha⟩⟩
   have HH := Aside0.mk hh
   have hsz : Maps.size D ≤ l.length := hown.size_le
   have HSZ := Aside0.mk hsz
   have HB1 := Aside0.mk HB.out
   have HA := Aside0.mk ha
   clear ha hh hsz en
   go_wp2_with (first
    | (at_range; refine wpList_range_own _ rfl _ 59 rfl 9 3 (string_keyed Tryd.underlying9) Tryd.underlying59 heldE W.heap.size l.length _ rfl hown ?_; intro w0 hrg0 hg0 hs0)
    | go_in)
   try go_frame
   have hstart : OrdRel2 W W.heap.size l.length w1.heap.size D (Maps.has D) (Maps.size D) (.slice none 0 0) [] w0 := by
    refine ⟨hrg0, Collected.start D, fun s hs => (by cases hs), by simpa using HSZ.out, Kd.R_nil _ _ _ _ _, HB1.out.grown hg0 HB1.out.size (fun j hj => (by cases hj)), ?_, by omega⟩
    exact (World.cell?_of_block (a := ⟨W.heap.size + 1, 0, none⟩) (hg0.block (W.heap.size + 1) hwlt (by simp))).trans hbx
   have HST := Aside0.mk hstart
   clear hstart hrg0 hg0 hown
   obtain ⟨r, hr⟩ : ∃ r, r = w1.heap.size := ⟨_, rfl⟩
   rw [← hr] at HST ⊢
   have HRZ := Aside0.mk (show W.heap.size + 1 < r by omega)
   clear hs0 hwlt hbx hr
   go_loopw [6] (fun o wr => ∃ (left : Lit → Bool) (cnt : Nat) (ss : List (List UInt8)), Aside0 (OrdRel2 W W.heap.size l.length r D left cnt o ss wr)) (fun _ wr => wr.rangeLeft W.heap.size r)
   case atStart => exact ⟨_, _, _, HST⟩
   case round =>
    obtain ⟨left, cnt, ss, HR2⟩ := hrel
    have hrg := HR2.out.1
    have hbx := HR2.out.2.2.2.2.2.2.1
    obtain ⟨Ao, co, hv⟩ := Kd.R_slice HR2.out.2.2.2.2.1
    subst hv
    go_wp2_with (first
     | (at_next; refine wpList_next_ranges _ rfl _ rfl 9 (string_keyed Tryd.underlying9) heldE encStr id (fun key kl h => by obtain ⟨x, hx, _⟩ := Maps.keyOf_str Tryd.underlying9 h; exact ⟨x, hx⟩) (fun v y _ => ⟨v, rfl⟩) W.heap.size r l.length _ _ _ rfl hrg ?_ ?_)
     | go_in)
    ·intro hc0 hl0
     have hown2 := hrg.owns
     have hM2 : MapS Tryd.prog 9 wr W.heap.size l.length (lastV l l.length) := ⟨D, hown2, HH.out, HA.out⟩
     have hcol := HR2.out.2.1
     have hmem : ∀ p, p ∈ keysB ss ↔ p ∈ orderF l := fun p => by
      rw [keysB_mem, hcol.2, hl0, and_iff_left rfl, HH.out]
      have := lastN_is (l := l) (n := l.length) (Nat.le_refl _) p
      rw [List.take_length] at this
      rw [← this]
      unfold lastV
      rw [Option.isSome_map]
     have hnd : (keysB ss).Nodup := by
      unfold keysB
      rw [List.nodup_iff_pairwise_ne, List.pairwise_map]
      have := hcol.1
      rw [List.nodup_iff_pairwise_ne] at this
      exact this.imp (fun {a b} h e => h (by injection e with e; exact List.toArray_inj e))
     have hperm : (keysB ss).Perm (orderF l) := (List.perm_ext_iff_of_nodup hnd (order_nodup l)).2 hmem
     have hR2 := HR2.out.2.2.2.2.1
     have hBw := HR2.out.2.2.2.2.2.1
     have hsl : ∀ p ∈ keysB ss, p.size ≤ maxLen := fun p hp => by
      have := HR2.out.2.2.1 _ (keysB_mem.1 hp)
      rwa [Array.length_toList] at this
     have hkl : (keysB ss).length ≤ l.length := by rw [hperm.length_eq]; exact order_len l
     rcases Nat.eq_zero_or_pos (keysB ss).length with hz0 | hpos
     ·have hk0 : keysB ss = [] := List.eq_nil_of_length_eq_zero hz0
      have ho : orderF l = [] := by
       have := hperm.length_eq
       rw [hz0] at this
       exact List.eq_nil_of_length_eq_zero this.symm
      have hcon := fun w => AnyF.slices_SortFunc_none { Tryd.sortStr with } Ao co (.func (.func 30) #[] #[.pointer (some ⟨W.heap.size + 1, 0, none⟩)]) w
      change ∀ w, Calls Tryd.prog 29 _ _ _ at hcon
      rw [hk0] at hR2 ⊢
      have HCN := Aside0.mk hcon
      have HOL := Aside0.mk ho
      have HR := Aside0.mk hR2
      have HBW := Aside0.mk hBw
      clear hcon ho hR2 hBw hsl hkl hz0 hk0 hperm hnd hmem hcol hM2 hown2 hrg hc0 hl0
      go_wp2_with (go_at_call 29; (with_reducible refine (HCN.out _).mono ?_); rintro e w' ⟨rfl, rfl⟩)
      rw [← hQ.out]
      refine ⟨_, rfl, ?_, HBW.out⟩
      rw [HOL.out]
      exact Kd.R_mono HR.out (fun _ _ => trivial)
     ·obtain ⟨gA, hgA⟩ : ∃ g, Ao = some ⟨g, 0, none⟩ := by
       obtain ⟨g, cap, he, _⟩ := Kd.R_form hR2 hpos
       injection he with h1 _ _
       exact ⟨g, h1⟩
      subst hgA
      have hown3 := Kd.own_of_R (enc := Value.string) (h1 := fun _ => rfl) hR2
      rcases hown3.2 with ⟨hn, _⟩ | ⟨g, cap, cur, hv, hbase, hb, h1, h2, h3, h4⟩
      ·cases hn
      cases hv
      have hgl2 : W.heap.size + 2 ≤ gA := (hR2.1 gA rfl).1
      have hl2 : ((keysB ss).pmap Subtype.mk hsl).length = (keysB ss).length := List.length_pmap
      have hm2 : ((keysB ss).pmap Subtype.mk hsl).map encB = encs Value.string (keysB ss) := by
       unfold encs encB
       rw [List.map_pmap]
       rw [List.pmap_eq_map]
      have hcon := SortF_calls l W.heap.size (W.heap.size + 1) l.length gA co W.heap.size ((keysB ss).pmap Subtype.mk hsl) cur wr hM2 hbx (by omega) (by omega) hbase hb (by rw [hl2, hm2]; rw [Nat.mul_one] at h4; exact h4) (by rw [hl2]; exact h1) h2 h3 (by rw [hl2]; omega)
      rw [hl2] at hcon
      have hfin : ∀ ts : List SB, ts.Perm ((keysB ss).pmap Subtype.mk hsl) → ts.Pairwise (fun x y => lastD l l.length x.1 ≤ lastD l l.length y.1) → ts.map (fun x => x.1) = orderF l := fun ts hts hpw => by
       have e1 : ((keysB ss).pmap Subtype.mk hsl).map (fun x => x.1) = keysB ss := by
        rw [List.map_pmap, List.pmap_eq_map, List.map_id']
       have hp2 : (ts.map (fun x => x.1)).Perm (orderF l) := by
        have := hts.map (fun x : SB => x.1)
        rw [e1] at this
        exact this.trans hperm
       refine order_unique hp2 ?_
       have hdist : ∀ a ∈ orderF l, ∀ b ∈ orderF l, lastD l l.length a = lastD l l.length b → a = b := by
        have h5 := order_last (l := l) l.length (Nat.le_refl _)
        rw [List.take_length] at h5
        intro a ha b hb2 e
        obtain ⟨i, hi, rfl⟩ := List.getElem_of_mem ha
        obtain ⟨j, hj, rfl⟩ := List.getElem_of_mem hb2
        rw [List.pairwise_iff_getElem] at h5
        rcases Nat.lt_trichotomy i j with h6 | h6 | h6
        ·have := h5 i j hi hj h6; omega
        ·subst h6; rfl
        ·have := h5 j i hj hi h6; omega
       have hnd2 : (ts.map (fun x => x.1)).Nodup := hp2.nodup_iff.2 (order_nodup l)
       rw [List.pairwise_map]
       rw [List.nodup_iff_pairwise_ne, List.pairwise_map] at hnd2
       refine (hpw.and hnd2).imp_of_mem (fun {a b} ha hb2 h => ?_)
       have m1 := hp2.mem_iff.1 (List.mem_map.2 ⟨a, ha, rfl⟩)
       have m2 := hp2.mem_iff.1 (List.mem_map.2 ⟨b, hb2, rfl⟩)
       rcases Nat.lt_or_ge (lastD l l.length a.1) (lastD l l.length b.1) with h7 | h7
       ·exact h7
       ·exact absurd (hdist _ m1 _ m2 (by have := h.1; omega)) h.2
      have hlen3 : (keysB ss).length = (orderF l).length := hperm.length_eq
      have HCN := Aside0.mk hcon
      have HFIN := Aside0.mk hfin
      have HBW := Aside0.mk hBw
      have HL3 := Aside0.mk hlen3
      have hgle : W.heap.size + 2 ≤ gA := hgl2
      have hwz := HR2.out.2.2.2.2.2.2.2
      clear hgl2 hcon hfin hR2 hBw hlen3 hkl hperm hnd hmem hcol hM2 hown2 hrg hc0 hl0 hown3 hb h1 h2 h3 h4 hl2 hm2 hbase hpos
      go_wp2_with (go_at_call 29; refine HCN.out.mono ?_; rintro e w2 ⟨rfl, ts, hts, hpw, hor, hg2⟩; have HTS := Aside0.mk (HFIN.out ts hts hpw); have HOR := Aside0.mk hor; have HG2 := Aside0.mk hg2; clear hts hpw hor hg2)
      rw [← hQ.out]
      refine ⟨_, rfl, ?_, HBW.out.grown HG2.out (by omega) (fun j hj => by cases hj; omega)⟩
      rw [← HTS.out]
      have e5 : ts.map encB = encs Value.string (ts.map (fun x => x.1)) := by
       unfold encs
       rw [List.map_map]
       rfl
      have hor := HOR.out
      rw [e5] at hor
      have e6 : (keysB ss).length = (ts.map (fun x => x.1)).length := by rw [HTS.out]; exact HL3.out
      rw [e6] at hor ⊢
      exact Kd.R_of_own hor (fun _ _ => trivial)
    ·intro x c kl ya yb w2 cnt2 hkey hlk hheld hat hrg2 hlt2 hg2 hs2 hen
     obtain ⟨x', ex, rfl, hxl⟩ := Maps.keyOf_str Tryd.underlying9 hkey
     obtain rfl := encStr_inj ex
     have hrlt := hrg.lt
     have hR2 := HR2.out.2.2.2.2.1
     have hok := hR2.1
     have hRw := Kd.R_grown hR2 hg2 (fun k hk e => by injection e with e; exact hk.2 e)
     have hrz := HRZ.out
     have hwz := HR2.out.2.2.2.2.2.2.2
     have hBw := HR2.out.2.2.2.2.2.1.grown hg2 (by omega) (fun j hj => by cases hj; omega)
     have hkl : (keysB ss).length = ss.length := by unfold keysB; rw [List.length_map]
     have hsz := HR2.out.2.2.2.1
     have hcol := HR2.out.2.1.step hlk hat
     have hss := HR2.out.2.2.1
     have HRW := Aside0.mk hRw
     have HBW := Aside0.mk hBw
     have HOK := Aside0.mk hok
     have HCOL := Aside0.mk hcol
     have HSS := Aside0.mk hss
     have HXL := Aside0.mk hxl
     have HRG2 := Aside0.mk hrg2
     have HRG := Aside0.mk hrg
     have HKL := Aside0.mk hkl
     have hbx2 : w2.cell? ⟨W.heap.size + 1, 0, none⟩ = some (.map (some W.heap.size)) := (World.cell?_of_block (a := ⟨W.heap.size + 1, 0, none⟩) (hg2.block (W.heap.size + 1) (by omega) (fun e => by injection e with e; omega))).trans hbx
     have HBX := Aside0.mk hbx2
     have hszl : ss.length + 1 ≤ l.length := by omega
     have hcc : cnt2 < cnt := hlt2
     have hz2 : W.heap.size + 2 ≤ w2.heap.size := by omega
     have hr2 : r < w2.heap.size := by omega
     clear hRw hBw hok hcol hss hxl hrg2 hrg hkl hbx2 hbx hkey hlk hheld hat hg2 ex hR2 hlt2 hs2 hwz hrlt
     go_wp2_with (at_builtin; refine Kd.R_append Kd.string (w0 := W) (W := w2) W.heap.size rfl _ _ 47 9 (.string ⟨#[]⟩) 16 rfl Tryd.underlying47 infoStr rfl (by decide) (by decide) (.slice Ao (keysB ss).length co) (keysB ss) ⟨x.toArray⟩ [.string ⟨x.toArray⟩] (fun k => W.heap.size + 2 ≤ k ∧ k ≠ r) (fun _ => False) rfl rfl rfl (fun _ h => h.elim) (fun k hk => ⟨by omega, by omega⟩) HRW.out HBW.out (by omega) (by rw [HKL.out]; omega) ?_; intro v3 w3 hR3 hB3 hg3 hat3)
     have hne : ∀ k, (Value.slice Ao (keysB ss).length co).ownBlock = some k → W.heap.size + 2 ≤ k ∧ k ≠ r := HOK.out
     have hfin : OrdRel2 W W.heap.size l.length r D (fun z => left z && !z.sameKey (.string x)) cnt2 v3 (ss ++ [x]) w3 := by
      refine ⟨HRG2.out.kept hg3 (fun e => by have := (hne _ e.symm).1; omega) (fun e => (hne _ e.symm).2 rfl), HCOL.out, fun s hs => ?_, by rw [List.length_append, List.length_singleton]; omega, ?_, hB3, ?_, by have := hg3.size; omega⟩
      ·rcases List.mem_append.1 hs with h | h
       ·exact HSS.out s h
       ·rw [List.mem_singleton] at h; rw [h]; exact HXL.out
      ·have e : keysB (ss ++ [x]) = keysB ss ++ [⟨x.toArray⟩] := by unfold keysB; rw [List.map_append]; rfl
       rw [e]
       exact hR3
      ·exact (World.cell?_of_block (a := ⟨W.heap.size + 1, 0, none⟩) (hg3.block (W.heap.size + 1) (by omega) (fun e => by have := (hne _ e.symm).1; omega))).trans HBX.out
     have hle1 := hfin.1.left_eq
     have hle2 := HRG.out.left_eq
     have HFIN := Aside0.mk hfin
     have HL1 := Aside0.mk hle1
     have HL2 := Aside0.mk hle2
     clear hfin hR3 hB3 hg3 hat3 hle1 hle2 hne
     go_roundw
     case rel => exact ⟨_, _, _, HFIN⟩
     case measure => rw [HL1.out, HL2.out]; omega
end Go.Proofs.YtiijbmaamblidaaDoor

namespace Go.Proofs.YtiijbmaamblidaaDoor.Print
open Go.RowKit Go.Proofs.YtiijbmaamblidaaDoor Go.Proofs.YtiijbmaamblidaaDoorW.PrintWords Go.Proofs.YtiijbmaamblidaaDoorW.PrintLast Go.Proofs.YtiijbmaamblidaaDoorW.PrintMore
set_option linter.unusedVariables false
def flat_Order.f (l : List S27) : Option (List ByteArray) := if memsZ l = true then some (orderF l) else none
theorem flat_Order.calls (A0 : Option Addr) (c0 : Nat) (l0 : List S27) (r : List ByteArray) (w : World) (hr0 : Kd.C k27 w A0 l0.length l0) (hc0 : l0.length ≤ c0) (h : flat_Order.f l0 = some r) :
  Calls Tryd.prog 17 #[.slice A0 l0.length c0] w fun e w' => ∃ v0_ : Value, e = .returned (v0_) ∧ Kd.R Kd.string 9 w' w.heap.size (fun _ => True) v0_ r ∧ Below w.heap.size w w' := by
 unfold flat_Order.f at h
 split at h
 ·rename_i hc
  simp only [Option.some.injEq] at h
  subst h
  exact Order_calls A0 c0 l0 w hr0 ((memsZ_iff l0).1 hc)
 ·cases h
end Go.Proofs.YtiijbmaamblidaaDoor.Print

namespace Go.Proofs.YtiijbmaamblidaaDoor.Print
open Go.RowKit Go.Proofs.YtiijbmaamblidaaDoorW.PrintWords Go.Proofs.YtiijbmaamblidaaDoorW.PrintLast Go.Proofs.YtiijbmaamblidaaDoorW.PrintMore
attribute [local go_sem] max2_int min2_int max_two min_two max_three min_three max_four min_four   -- for this text's walks alone
set_option linter.unusedVariables false
set_option linter.unusedSimpArgs false
def bindlelaw18_light.l0 : Nat → List (S27) → Int → Int → Option (Bool)
 | 0, _, _, _ => none
 | k + 1, x0, x3, x4 => if x4 < (x0.length : Int) then (if 0 ≤ x4 then (bindlelaw18_light.l0 k x0 (wrap64 ((wrap64 ((wrap64 (x3 + (((rd_T27 x0 x4).f4).length : Int))) + (((rd_T27 x0 x4).f0).size : Int))) + (((rd_T27 x0 x4).f1).size : Int))) (wrap64 (x4 + 1))) else (none)) else (if (x0.length : Int) ≤ 60 then (some (decide (x3 ≤ 200000))) else (some false))
def bindlelaw18_light.f (k : Nat) (l0 : List (S27)) : Option (Bool) := bindlelaw18_light.l0 k l0 0 0
set_option maxHeartbeats 8000000 in
set_option maxRecDepth 100000 in
theorem bindlelaw18_light.calls (k : Nat) (A0 : Option Addr) (c0 : Nat) (l0 : List (S27)) (r : Bool) (w : World) (hr0 : Kd.C k27 w A0 l0.length l0) (hc0 : l0.length ≤ c0) (h : bindlelaw18_light.f k l0 = some r) :
  Calls Tryd.prog 14 #[.slice A0 l0.length c0] w fun e w' => e = .returned (.bool r) ∧ Drawn0 w w' := by
 have HR0 := A0_ hr0
 have HC0 := A0_ hc0
 clear hr0 hc0
 have H : (bindlelaw18_light.l0 k l0 0 0) = some r := h
 clear h
 have H' := A0_ H
 clear H
 go_enter Tryd.func14, Tryd.ntmps14
 go_wp2
 repeat (go_quiet (fail); try go_wp2)
 go_loopg [3, 4] k (fun kq v3 v4 w' => ∃ (x3_1 : Int) (x4_1 : Int), v3 = .int .i64 x3_1 ∧ v4 = .int .i64 x4_1 ∧ Aside0 (bindlelaw18_light.l0 kq l0 x3_1 x4_1 = some r) ∧ Aside0 (kq ≤ k) ∧ Drawn0 w w')
 case atStart => exact ⟨(0), (0), wr_, wr_, H', ⟨Nat.le_refl _⟩, by repeat (first | exact Drawn0.refl _ | apply Drawn0.step)⟩
 case round =>
  clear H'
  try clear c1
  obtain ⟨x3_1, x4_1, rfl, rfl, HA, HK1, ⟨m1, rfl⟩⟩ := hrel
  cases gk with
  | zero => exact absurd HA.out (by simp [bindlelaw18_light.l0])
  | succ k1 =>
   have H := HA.out
   clear HA
   simp only [bindlelaw18_light.l0] at H
   by_cases c2 : x4_1 < (l0.length : Int)
   rotate_left
   ·rw [if_neg c2] at H
    have c2b0 : decide (x4_1 < (l0.length : Int)) = false := decide_eq_false c2
    clear c2
    by_cases c4 : (l0.length : Int) ≤ 60
    ·rw [if_pos c4] at H
     have c4b0 : decide ((l0.length : Int) ≤ 60) = true := decide_eq_true c4
     have c4b1 : decide (l0.length ≤ 60) = true := decide_eq_true (by omega)
     clear c4
     obtain rfl := Option.some.inj H
     go_wp2
     repeat (go_quiet (fail); try go_wp2)
     go_ret
     exact ⟨by first | rfl | (simp; done) | (simp [*]; done), by repeat (first | exact Drawn0.refl _ | apply Drawn0.step)⟩
    rw [if_neg c4] at H
    have c4b0 : decide ((l0.length : Int) ≤ 60) = false := decide_eq_false c4
    have c4b1 : decide (l0.length ≤ 60) = false := decide_eq_false (by omega)
    clear c4
    obtain rfl := Option.some.inj H
    go_wp2
    repeat (go_quiet (fail); try go_wp2)
    go_ret
    exact ⟨by first | rfl | (simp; done) | (simp [*]; done), by repeat (first | exact Drawn0.refl _ | apply Drawn0.step)⟩
   rw [if_pos c2] at H
   have c2b0 : decide (x4_1 < (l0.length : Int)) = true := decide_eq_true c2
   clear c2
   by_cases c3 : 0 ≤ x4_1
   rotate_left
   ·rw [if_neg c3] at H
    exact absurd H (by simp)
   rw [if_pos c3] at H
   have c3b0 : decide (0 ≤ x4_1) = true := decide_eq_true c3
   clear c3
   have H' := A0_ H
   clear H
   have p224 : 0 ≤ (x4_1 : Int) := wd_
   have q224 : x4_1 < (l0.length : Int) := wd_
   obtain ⟨ad224, A224_7, c224_7, e224, hx224_0, hx224_1, hx224_2, hx224_3, hx224_4, hx224_5, hx224_6, hx224_7, hl224_7, hi224_7⟩ := at_T27 HR0.out x4_1 p224 q224
   cases e224
   have HR224_7 := A0_ hi224_7
   have HC224_7 := A0_ hl224_7
   clear hi224_7 hl224_7
   replace p224 := eq_true p224
   replace q224 := eq_true q224
   have p225 : 0 ≤ (x4_1 : Int) := wd_
   have q225 : x4_1 < (l0.length : Int) := wd_
   obtain ⟨ad225, A225_7, c225_7, e225, hx225_0, hx225_1, hx225_2, hx225_3, hx225_4, hx225_5, hx225_6, hx225_7, hl225_7, hi225_7⟩ := at_T27 HR0.out x4_1 p225 q225
   obtain rfl : ad224 = ad225 := (by injection e225)
   have HR225_7 := A0_ hi225_7
   have HC225_7 := A0_ hl225_7
   clear hi225_7 hl225_7
   replace p225 := eq_true p225
   replace q225 := eq_true q225
   have ea_ := Option.some.inj (hx224_7.symm.trans hx225_7)
   injection ea_ with ea_ en_ ec_
   subst ea_
   subst ec_
   clear en_
   have p226 : 0 ≤ (x4_1 : Int) := wd_
   have q226 : x4_1 < (l0.length : Int) := wd_
   obtain ⟨ad226, A226_7, c226_7, e226, hx226_0, hx226_1, hx226_2, hx226_3, hx226_4, hx226_5, hx226_6, hx226_7, hl226_7, hi226_7⟩ := at_T27 HR0.out x4_1 p226 q226
   obtain rfl : ad224 = ad226 := (by injection e226)
   have HR226_7 := A0_ hi226_7
   have HC226_7 := A0_ hl226_7
   clear hi226_7 hl226_7
   replace p226 := eq_true p226
   replace q226 := eq_true q226
   have ea_ := Option.some.inj (hx224_7.symm.trans hx226_7)
   injection ea_ with ea_ en_ ec_
   subst ea_
   subst ec_
   clear en_
   go_wp2
   repeat (go_quiet (fail); try go_wp2)
   go_roundg k1
   case measure => have := HK1.out; omega
   case rel => exact ⟨(wrap64 ((wrap64 ((wrap64 (x3_1 + (((rd_T27 l0 x4_1).f4).length : Int))) + (((rd_T27 l0 x4_1).f0).size : Int))) + (((rd_T27 l0 x4_1).f1).size : Int))), (wrap64 (x4_1 + 1)), wr_, wr_, H', ⟨by have := HK1.out; omega⟩, by repeat (first | exact Drawn0.refl _ | apply Drawn0.step)⟩
end Go.Proofs.YtiijbmaamblidaaDoor.Print

namespace Go.Proofs.YtiijbmaamblidaaDoor.Print
open Go.RowKit Go.Proofs.YtiijbmaamblidaaDoorW.PrintWords Go.Proofs.YtiijbmaamblidaaDoorW.PrintLast Go.Proofs.YtiijbmaamblidaaDoorW.PrintMore
attribute [local go_sem] max2_int min2_int max_two min_two max_three min_three max_four min_four   -- for this text's walks alone
set_option linter.unusedVariables false
set_option linter.unusedSimpArgs false
def flat_Flatten.f (l0 : List (S27)) : Option ((List (S27)) × Int × Int) := (tree_Fold.f l0).bind fun bt228 => (if bt228.2.1 = 0 then ((flat_Order.f l0).bind fun t234 => ((links_Members.f bt228.1 t234).bind fun bt237 => (some (bt237.1, bt237.2, 0)))) else (some (([] : List (S27)), bt228.2.1, bt228.2.2)))
set_option maxHeartbeats 8000000 in
set_option maxRecDepth 100000 in
theorem flat_Flatten.calls (A0 : Option Addr) (c0 : Nat) (l0 : List (S27)) (r1 : List (S27)) (r2 : Int) (r3 : Int) (w : World) (hT : Aside0 (Tabs w)) (hr0 : Kd.C k27 w A0 l0.length l0) (hc0 : l0.length ≤ c0) (h : flat_Flatten.f l0 = some (r1, r2, r3)) :
  Calls Tryd.prog 16 #[.slice A0 l0.length c0] w fun e w' => ∃ v0_ : Value, e = .returned (.tuple #[v0_, .agg #[.int .i64 r2, .int .i64 r3]]) ∧ Kd.V k27 27 w' w.heap.size (fun k_ => (w.heap.size ≤ k_)) v0_ r1 ∧ Below w.heap.size w w' := by
 have hu34 := Tryd.underlying34
 have HR0 := A0_ hr0
 have HC0 := A0_ hc0
 clear hr0 hc0
 have HB := A0_ (Below.refl w.heap.size w)
 have H : ((tree_Fold.f l0).bind fun bt228 => (if bt228.2.1 = 0 then ((flat_Order.f l0).bind fun t234 => ((links_Members.f bt228.1 t234).bind fun bt237 => (some (bt237.1, bt237.2, 0)))) else (some (([] : List (S27)), bt228.2.1, bt228.2.2)))) = some (r1, r2, r3) := h
 clear h
 replace H := Option.bind_eq_some_iff.mp H
 obtain ⟨⟨t228, t231, t232⟩, A20, H⟩ := H
 replace H : (if t231 = 0 then ((flat_Order.f l0).bind fun t234 => ((links_Members.f t228 t234).bind fun bt237 => (some (bt237.1, bt237.2, 0)))) else (some (([] : List (S27)), t231, t232))) = some (r1, r2, r3) := H
 have A2 := A0_ A20
 clear A20
 by_cases c3 : t231 = 0
 rotate_left
 ·rw [if_neg c3] at H
  have c3b0 : (t231 == 0) = false := beq_eq_false_iff_ne.mpr c3
  have c3b1 : (t231 != 0) = true := bne_iff_ne.mpr c3
  simp only [Option.some.injEq, Prod.mk.injEq] at H
  obtain ⟨rfl, rfl, rfl⟩ := H
  go_enter Tryd.func16, Tryd.ntmps16
  try go_wp2_with (first | ((with_reducible refine gate_dst (N := 3) rfl ?_); refine box_event ?hg (N := 3) ?hd (cs := #[.int .i64 0, .int .i64 0]) (t := 34) ?hr ?_; (case hd => rfl); (case hg => rfl); (case hr => first | (go_simp; done) | (go_simp; rfl)); intro gb227 hg w16 hbox hb; have n0_ := A0_ (below_step (wb_ HB.out) hb); have n1_ := A0_ (hbox); have n2_ := A0_ ((by rw [hg]; exact (below_size (wb_ HB.out)) : w.heap.size ≤ gb227)); have n3_ := A0_ ((by rw [hg]; exact (below_size (wb_ HB.out)) : w.heap.size ≤ gb227)); clear HB; have HB := n0_; have BK227 := n1_; have GW227 := n2_; have GE227 := n3_; clear n0_ n1_ n2_ n3_; clear hb hbox hg) | ((with_reducible refine gate_callee (f := 10) rfl ?_); refine goesL_ (some 10) rfl rfl Tryd.func10 (by kernel_rfl) rfl #[.slice A0 l0.length c0] rfl wm_ ?_; (with_reducible refine (tree_Fold.calls _ _ l0 t228 t231 t232 _ ?side1 ?side2 ?side3 A2.out).mono ?_); (case side1 => exact A0_ (Tabs.below hT.out (wb1_ HB.out GE227.out))); (case side2 => exact wc_ (Kd.C_below HR0.out HB.out)); (case side3 => exact HC0.out); rintro e w17 ⟨v229, rfl, ho0, hb⟩; refine ⟨_, rfl, ?_⟩; have n0_ := A0_ (Kd.V_lower (Kd.V_mono (ok' := fun k_ => (w.heap.size ≤ k_) ∧ k_ ≠ gb227) ho0 (fun k_ hk_ => ⟨(Nat.le_trans (below_size (wb1_ HB.out GE227.out)) hk_), (Kd.freshB (g := gb227) (o := .cells #[.int .i64 0, .int .i64 0] 34 (0, 0)) (wB_ BK227.out) k_ hk_)⟩)) (below_size (wb1_ HB.out GE227.out))); have n1_ := A0_ (blk_below (g := gb227) (o := .cells #[.int .i64 0, .int .i64 0] 34 (0, 0)) (wB_ BK227.out) hb); have n2_ := A0_ (below_step (wb1_ HB.out GE227.out) hb); clear BK227; clear HB; have HO230 := n0_; have BK227 := n1_; have HB := n2_; clear n0_ n1_ n2_; (try clear hb); (try clear hb2); (try clear hk); (try clear hi); (try clear ho0)) | ((with_reducible refine gate_dst (N := 5) rfl ?_); refine box_event ?hg (N := 5) ?hd (cs := #[.int .i64 0, .int .i64 0]) (t := 34) ?hr ?_; (case hd => rfl); (case hg => rfl); (case hr => first | (go_simp; done) | (go_simp; rfl)); intro gb233 hg w18 hbox hb; have n0_ := A0_ (Vb_ (Kd.V_elderB (wV_ HO230.out) gb233 (Nat.le_of_eq hg.symm)) hb); have n1_ := A0_ (blk_below (g := gb227) (o := .cells #[.int .i64 0, .int .i64 0] 34 (0, 0)) (wB_ BK227.out) hb); have n2_ := A0_ (below_step (wb1_ HB.out GE227.out) hb); have n3_ := A0_ (hbox); have n4_ := A0_ ((by rw [hg]; exact (below_size (wb1_ HB.out GE227.out)) : w.heap.size ≤ gb233)); have n5_ := A0_ ((by rw [hg]; exact (below_size (wb1_ HB.out GE227.out)) : w.heap.size ≤ gb233)); have n6_ := A0_ ((by rw [hg]; exact Nat.ne_of_lt (blk_lt (g := gb227) (o := .cells #[.int .i64 0, .int .i64 0] 34 (0, 0)) (wB_ BK227.out)) : gb227 ≠ gb233)); have n7_ := A0_ ((by rw [hg]; exact Nat.ne_of_gt (blk_lt (g := gb227) (o := .cells #[.int .i64 0, .int .i64 0] 34 (0, 0)) (wB_ BK227.out)) : gb233 ≠ gb227)); clear HO230; clear BK227; clear HB; have HO230 := n0_; have BK227 := n1_; have HB := n2_; have BK233 := n3_; have GW233 := n4_; have GE233 := n5_; have NB227_233 := n6_; have NB233_227 := n7_; clear n0_ n1_ n2_ n3_ n4_ n5_ n6_ n7_; clear hb hbox hg; have hnb19 := NB233_227.out; have hnc19 := NB227_233.out; have hcz20_0 : w18.cell? ⟨gb233, 0, none⟩ = some (.int .i64 0) := (bc_ BK233.out 0).trans rfl; have hcz20_1 : w18.cell? ⟨gb233, 1, none⟩ = some (.int .i64 0) := (bc_ BK233.out 1).trans rfl; have hfz20_0 := bf_ BK233.out 0; have hfz20_1 := bf_ BK233.out 1))
  have n0_ : Aside0 (Kd.V k38 38 ((w18.setCell ⟨gb233, 0, none⟩ (.int .i64 t231)).setCell ⟨gb233, 1, none⟩ (.int .i64 t232)) w.heap.size (fun k_ => (w.heap.size ≤ k_) ∧ k_ ≠ gb227 ∧ k_ ≠ gb233) v229 t228) := ⟨by (with_reducible repeat (first | apply Va_ | apply VN_ | apply V1_)); exact Kd.V_mono (Kd.V_far (p := ⟨gb233, 1, none⟩) (Kd.V_far (p := ⟨gb233, 0, none⟩) (Kd.V_mono HO230.out (fun k_ hk => (⟨hk, hk.2⟩ : _ ∧ k_ ≠ gb233))) (fun _ hk => hk.2) (.int .i64 t231)) (fun _ hk => hk.2) (.int .i64 t232)) (fun _ hk => ⟨hk.1.1.1, ⟨hk.1.1.2, hk.1.2⟩⟩)⟩
  have n1_ : Aside0 (((w18.setCell ⟨gb233, 0, none⟩ (.int .i64 t231)).setCell ⟨gb233, 1, none⟩ (.int .i64 t232)).heap[gb227]? = some (.cells #[.int .i64 0, .int .i64 0] 34 (0, 0))) := ⟨by (with_reducible repeat (first | refine blk_drewN ?_ _ | refine blk_drew ?_ | refine blk_alloc ?_ _)); refine blk_far ?_ NB227_233.out _; (with_reducible repeat (first | refine blk_drewN ?_ _ | refine blk_drew ?_ | refine blk_alloc ?_ _)); refine blk_far ?_ NB227_233.out _; (with_reducible repeat (first | refine blk_drewN ?_ _ | refine blk_drew ?_ | refine blk_alloc ?_ _)); exact BK227.out⟩
  have n2_ : Aside0 (((w18.setCell ⟨gb233, 0, none⟩ (.int .i64 t231)).setCell ⟨gb233, 1, none⟩ (.int .i64 t232)).heap[gb233]? = some (.cells #[.int .i64 t231, .int .i64 t232] 34 (0, 0))) := ⟨by (with_reducible repeat (first | refine blk_drewN ?_ _ | refine blk_drew ?_ | refine blk_alloc ?_ _)); refine blk_put (cs := #[.int .i64 t231, .int .i64 0]) ?_ 1 _ rfl; (with_reducible repeat (first | refine blk_drewN ?_ _ | refine blk_drew ?_ | refine blk_alloc ?_ _)); refine blk_put (cs := #[.int .i64 0, .int .i64 0]) ?_ 0 _ rfl; (with_reducible repeat (first | refine blk_drewN ?_ _ | refine blk_drew ?_ | refine blk_alloc ?_ _)); exact BK233.out⟩
  have n3_ : Aside0 (Below w.heap.size w ((w18.setCell ⟨gb233, 0, none⟩ (.int .i64 t231)).setCell ⟨gb233, 1, none⟩ (.int .i64 t232))) := ⟨wb2_ HB.out GE227.out GE233.out⟩
  (try clear HO230)
  (try clear BK227)
  (try clear BK233)
  (try clear HB)
  generalize ((w18.setCell ⟨gb233, 0, none⟩ (.int .i64 t231)).setCell ⟨gb233, 1, none⟩ (.int .i64 t232)) = w21 at n0_ n1_ n2_ n3_ ⊢
  have HO230 := n0_
  have BK227 := n1_
  have BK233 := n2_
  have HB := n3_
  clear n0_ n1_ n2_ n3_
  have n0_ := A0_ (V1_ HO230.out)
  have n1_ := A0_ (blk_drew BK227.out)
  have n2_ := A0_ (blk_drew BK233.out)
  have n3_ := A0_ (b1_ HB.out)
  clear HO230
  clear BK227
  clear BK233
  clear HB
  have HO230 := n0_
  have BK227 := n1_
  have BK233 := n2_
  have HB := n3_
  clear n0_ n1_ n2_ n3_
  refine start_ (n := 3) (S := fun w' => w'.cell? ⟨gb233, 0, none⟩ = some (.int .i64 t231) ∧ w'.cell? ⟨gb233, 1, none⟩ = some (.int .i64 t232)) (ds := []) #[false, false, false] (by kernel_rfl) rfl rfl ⟨(bc_ BK233.out 0).trans rfl, (bc_ BK233.out 1).trans rfl⟩ (fun hHeld => ?_)
  generalize w21.drew = w22 at HO230 BK227 BK233 HB hHeld ⊢
  refine pur_ (i := 1) (N := some 2) #[false, true, false] (by kernel_rfl) ?_
  refine tak_ (i := 0) (N := some 16) #[true, true, false] (by kernel_rfl) hHeld ?_
  refine one_ (i := 2) (N := none) #[true, true, true] rfl rfl (by kernel_rfl) (by decide) (fun K hK => ?_)
  have hs23 : w22.cell? ⟨gb227, 0, none⟩ = some (.int .i64 0) := (bc_ BK227.out 0).trans rfl
  have hfs23 := bf_ BK227.out 0
  have hns23_1 := NB233_227.out
  have hms23_1 := NB227_233.out
  have hs24 : w22.cell? ⟨gb227, 1, none⟩ = some (.int .i64 0) := (bc_ BK227.out 1).trans rfl
  have hfs24 := bf_ BK227.out 1
  have hns24_1 := NB233_227.out
  have hms24_1 := NB227_233.out
  refine skip_ (w1 := ?_) (by rfl) rfl ?_ ?_
  rotate_left
  ·go_simp
   rfl
  refine hK.out _ _ ⟨((cF_ NB233_227.out).trans (((cF_ NB233_227.out).trans (hHeld.1)))), ((cF_ NB233_227.out).trans (((cF_ NB233_227.out).trans (hHeld.2))))⟩ (fun hHeld => ?_)
  clear hK K
  refine done_ (by kernel_rfl) ?_
  try go_wp2
  refine bodyPost_ret (results_tc rfl _ _ gb227 34 #[.int .i64 t231, .int .i64 t232] (0, 0) _ rfl (by (with_reducible repeat (first | refine blk_drewN ?_ _ | refine blk_drew ?_ | refine blk_alloc ?_ _)); refine blk_put (cs := #[.int .i64 t231, .int .i64 0]) ?_ 1 _ rfl; (with_reducible repeat (first | refine blk_drewN ?_ _ | refine blk_drew ?_ | refine blk_alloc ?_ _)); refine blk_put (cs := #[.int .i64 0, .int .i64 0]) ?_ 0 _ rfl; (with_reducible repeat (first | refine blk_drewN ?_ _ | refine blk_drew ?_ | refine blk_alloc ?_ _)); exact BK227.out) Tryd.underlying34 rfl (by kernel_rfl)) rfl ?_
  exact ⟨_, we_, (Kd.V_nil _ _ _ _ _), wb2_ HB.out GE227.out GE233.out⟩
 rw [if_pos c3] at H
 have c3b0 : (t231 == 0) = true := beq_iff_eq.mpr c3
 have c3b1 : (t231 != 0) = false := bne_eq_false_iff_eq.mpr c3
 clear c3
 replace H := Option.bind_eq_some_iff.mp H
 obtain ⟨t234, A40, H⟩ := H
 replace H : ((links_Members.f t228 t234).bind fun bt237 => (some (bt237.1, bt237.2, 0))) = some (r1, r2, r3) := H
 have A4 := A0_ A40
 clear A40
 replace H := Option.bind_eq_some_iff.mp H
 obtain ⟨⟨t237, t240⟩, A50, H⟩ := H
 replace H : (some (t237, t240, 0)) = some (r1, r2, r3) := H
 have A5 := A0_ A50
 clear A50
 simp only [Option.some.injEq, Prod.mk.injEq] at H
 obtain ⟨rfl, rfl, rfl⟩ := H
 go_enter Tryd.func16, Tryd.ntmps16
 go_wp2_with (first | ((with_reducible refine gate_dst (N := 3) rfl ?_); refine box_event ?hg (N := 3) ?hd (cs := #[.int .i64 0, .int .i64 0]) (t := 34) ?hr ?_; (case hd => rfl); (case hg => rfl); (case hr => first | (go_simp; done) | (go_simp; rfl)); intro gb227 hg w6 hbox hb; have n0_ := A0_ (below_step (wb_ HB.out) hb); have n1_ := A0_ (hbox); have n2_ := A0_ ((by rw [hg]; exact (below_size (wb_ HB.out)) : w.heap.size ≤ gb227)); have n3_ := A0_ ((by rw [hg]; exact (below_size (wb_ HB.out)) : w.heap.size ≤ gb227)); clear HB; have HB := n0_; have BK227 := n1_; have GW227 := n2_; have GE227 := n3_; clear n0_ n1_ n2_ n3_; clear hb hbox hg) | ((with_reducible refine gate_callee (f := 10) rfl ?_); refine goesL_ (some 10) rfl rfl Tryd.func10 (by kernel_rfl) rfl #[.slice A0 l0.length c0] rfl wm_ ?_; (with_reducible refine (tree_Fold.calls _ _ l0 t228 t231 t232 _ ?side1 ?side2 ?side3 A2.out).mono ?_); (case side1 => exact A0_ (Tabs.below hT.out (wb1_ HB.out GE227.out))); (case side2 => exact wc_ (Kd.C_below HR0.out HB.out)); (case side3 => exact HC0.out); rintro e w7 ⟨v229, rfl, ho0, hb⟩; refine ⟨_, rfl, ?_⟩; have n0_ := A0_ (Kd.V_lower (Kd.V_mono (ok' := fun k_ => (w.heap.size ≤ k_) ∧ k_ ≠ gb227) ho0 (fun k_ hk_ => ⟨(Nat.le_trans (below_size (wb1_ HB.out GE227.out)) hk_), (Kd.freshB (g := gb227) (o := .cells #[.int .i64 0, .int .i64 0] 34 (0, 0)) (wB_ BK227.out) k_ hk_)⟩)) (below_size (wb1_ HB.out GE227.out))); have n1_ := A0_ (blk_below (g := gb227) (o := .cells #[.int .i64 0, .int .i64 0] 34 (0, 0)) (wB_ BK227.out) hb); have n2_ := A0_ (below_step (wb1_ HB.out GE227.out) hb); clear BK227; clear HB; have HO230 := n0_; have BK227 := n1_; have HB := n2_; clear n0_ n1_ n2_; (try clear hb); (try clear hb2); (try clear hk); (try clear hi); (try clear ho0)) | ((with_reducible refine gate_dst (N := 5) rfl ?_); refine box_event ?hg (N := 5) ?hd (cs := #[.int .i64 0, .int .i64 0]) (t := 34) ?hr ?_; (case hd => rfl); (case hg => rfl); (case hr => first | (go_simp; done) | (go_simp; rfl)); intro gb233 hg w8 hbox hb; have n0_ := A0_ (Vb_ (Kd.V_elderB (wV_ HO230.out) gb233 (Nat.le_of_eq hg.symm)) hb); have n1_ := A0_ (blk_below (g := gb227) (o := .cells #[.int .i64 0, .int .i64 0] 34 (0, 0)) (wB_ BK227.out) hb); have n2_ := A0_ (below_step (wb1_ HB.out GE227.out) hb); have n3_ := A0_ (hbox); have n4_ := A0_ ((by rw [hg]; exact (below_size (wb1_ HB.out GE227.out)) : w.heap.size ≤ gb233)); have n5_ := A0_ ((by rw [hg]; exact (below_size (wb1_ HB.out GE227.out)) : w.heap.size ≤ gb233)); have n6_ := A0_ ((by rw [hg]; exact Nat.ne_of_lt (blk_lt (g := gb227) (o := .cells #[.int .i64 0, .int .i64 0] 34 (0, 0)) (wB_ BK227.out)) : gb227 ≠ gb233)); have n7_ := A0_ ((by rw [hg]; exact Nat.ne_of_gt (blk_lt (g := gb227) (o := .cells #[.int .i64 0, .int .i64 0] 34 (0, 0)) (wB_ BK227.out)) : gb233 ≠ gb227)); clear HO230; clear BK227; clear HB; have HO230 := n0_; have BK227 := n1_; have HB := n2_; have BK233 := n3_; have GW233 := n4_; have GE233 := n5_; have NB227_233 := n6_; have NB233_227 := n7_; clear n0_ n1_ n2_ n3_ n4_ n5_ n6_ n7_; clear hb hbox hg; have hnb9 := NB233_227.out; have hnc9 := NB227_233.out; have hcz10_0 : w8.cell? ⟨gb233, 0, none⟩ = some (.int .i64 0) := (bc_ BK233.out 0).trans rfl; have hcz10_1 : w8.cell? ⟨gb233, 1, none⟩ = some (.int .i64 0) := (bc_ BK233.out 1).trans rfl; have hfz10_0 := bf_ BK233.out 0; have hfz10_1 := bf_ BK233.out 1) | ((with_reducible refine gate_callee (f := 17) rfl ?_); refine goesL_ (some 20) rfl rfl Tryd.func17 (by kernel_rfl) rfl #[.slice A0 l0.length c0] rfl wm_ ?_; (with_reducible refine (flat_Order.calls _ _ l0 t234 _ ?side1 ?side2 A4.out).mono ?_); (case side1 => exact Kd.C_below HR0.out (wb2_ HB.out GE227.out GE233.out)); (case side2 => exact HC0.out); rintro e w11 ⟨v235, rfl, ho0, hb⟩; refine ⟨_, rfl, ?_⟩; have n0_ := A0_ (Kd.V_elder' (by (with_reducible repeat (first | apply Va_ | apply VN_ | apply V1_)); exact (Kd.V_mono (Kd.V_far (p := ⟨gb233, 1, none⟩) (Kd.V_far (p := ⟨gb233, 0, none⟩) (Kd.V_mono HO230.out (fun k_ hk => (⟨hk, hk.2⟩ : _ ∧ k_ ≠ gb233))) (fun _ hk => hk.2) (.int .i64 t231)) (fun _ hk => hk.2) (.int .i64 t232)) (fun _ h_ => h_.1))) (Kd.R_base ho0) hb); have n1_ := A0_ (Kd.R_lower (Kd.R_newM (M := fun k_ => (w.heap.size ≤ k_)) ho0 (below_size (wb2_ HB.out GE227.out GE233.out)) (fun k_ h_ => h_)) (below_size (wb2_ HB.out GE227.out GE233.out))); have n2_ := A0_ (blk_below (g := gb227) (o := .cells #[.int .i64 0, .int .i64 0] 34 (0, 0)) (by (with_reducible repeat (first | refine blk_drewN ?_ _ | refine blk_drew ?_ | refine blk_alloc ?_ _)); refine blk_far ?_ NB227_233.out _; (with_reducible repeat (first | refine blk_drewN ?_ _ | refine blk_drew ?_ | refine blk_alloc ?_ _)); refine blk_far ?_ NB227_233.out _; (with_reducible repeat (first | refine blk_drewN ?_ _ | refine blk_drew ?_ | refine blk_alloc ?_ _)); exact BK227.out) hb); have n3_ := A0_ (blk_below (g := gb233) (o := .cells #[.int .i64 t231, .int .i64 t232] 34 (0, 0)) (by (with_reducible repeat (first | refine blk_drewN ?_ _ | refine blk_drew ?_ | refine blk_alloc ?_ _)); refine blk_put (cs := #[.int .i64 t231, .int .i64 0]) ?_ 1 _ rfl; (with_reducible repeat (first | refine blk_drewN ?_ _ | refine blk_drew ?_ | refine blk_alloc ?_ _)); refine blk_put (cs := #[.int .i64 0, .int .i64 0]) ?_ 0 _ rfl; (with_reducible repeat (first | refine blk_drewN ?_ _ | refine blk_drew ?_ | refine blk_alloc ?_ _)); exact BK233.out) hb); have n4_ := A0_ (below_step (wb2_ HB.out GE227.out GE233.out) hb); clear HO230; clear BK227; clear BK233; clear HB; have HO230 := n0_; have HO236 := n1_; have BK227 := n2_; have BK233 := n3_; have HB := n4_; clear n0_ n1_ n2_ n3_ n4_; (try clear hb); (try clear hb2); (try clear hk); (try clear hi); (try clear ho0); obtain ⟨Ao12, co12, eo12⟩ := Kd.V_slice HO230.out; subst eo12; obtain ⟨Ao13, co13, eo13⟩ := Kd.R_slice HO236.out; subst eo13) | ((with_reducible refine gate_callee (f := 28) rfl ?_); refine goesL_ (some 21) rfl rfl Tryd.func28 (by kernel_rfl) rfl #[.slice Ao12 t228.length co12, .slice Ao13 t234.length co13] rfl wm_ ?_; (with_reducible refine (links_Members.calls _ _ t228 _ _ t234 t237 t240 _ ?side1 ?side2 ?side3 ?side4 A5.out).mono ?_); (case side1 => exact wc_ (Kd.V_reads' HO230.out).2.2); (case side2 => exact (Kd.V_reads' HO230.out).2.1); (case side3 => exact wc_ (Kd.R_reads' HO236.out).2.2); (case side4 => exact (Kd.R_reads' HO236.out).2.1); rintro e w14 ⟨v238, rfl, ho0, hb⟩; refine ⟨_, rfl, ?_⟩; have n0_ := A0_ (Vb_ (wV_ HO230.out) hb); have n1_ := A0_ (Rb_ (wR_ HO236.out) hb); have n2_ := A0_ (Kd.V_lower (Kd.V_mono (ok' := fun k_ => (w.heap.size ≤ k_) ∧ some k_ ≠ (.slice Ao13 t234.length co13 : Value).ownBlock ∧ k_ ≠ gb227 ∧ k_ ≠ gb233) ho0 (fun k_ hk_ => ⟨(Nat.le_trans (below_size (wb2_ HB.out GE227.out GE233.out)) hk_), (Kd.fresh' (Kd.R_lt (wR_ HO236.out)) k_ hk_), (Kd.freshB (g := gb227) (o := .cells #[.int .i64 0, .int .i64 0] 34 (0, 0)) (wB_ BK227.out) k_ hk_), (Kd.freshB (g := gb233) (o := .cells #[.int .i64 t231, .int .i64 t232] 34 (0, 0)) (wB_ BK233.out) k_ hk_)⟩)) (below_size (wb2_ HB.out GE227.out GE233.out))); have n3_ := A0_ (blk_below (g := gb227) (o := .cells #[.int .i64 0, .int .i64 0] 34 (0, 0)) (wB_ BK227.out) hb); have n4_ := A0_ (blk_below (g := gb233) (o := .cells #[.int .i64 t231, .int .i64 t232] 34 (0, 0)) (wB_ BK233.out) hb); have n5_ := A0_ (below_step (wb2_ HB.out GE227.out GE233.out) hb); clear HO230; clear HO236; clear BK227; clear BK233; clear HB; have HO230 := n0_; have HO236 := n1_; have HO239 := n2_; have BK227 := n3_; have BK233 := n4_; have HB := n5_; clear n0_ n1_ n2_ n3_ n4_ n5_; (try clear hb); (try clear hb2); (try clear hk); (try clear hi); (try clear ho0); have hcz15_0 : w14.cell? ⟨gb227, 0, none⟩ = some (.int .i64 0) := (bc_ BK227.out 0).trans rfl; have hcz15_1 : w14.cell? ⟨gb227, 1, none⟩ = some (.int .i64 0) := (bc_ BK227.out 1).trans rfl; have hfz15_0 := bf_ BK227.out 0; have hfz15_1 := bf_ BK227.out 1))
 refine bodyPost_ret (results_tc rfl _ _ gb227 34 #[.int .i64 t240, .int .i64 0] (0, 0) _ rfl (by (with_reducible repeat (first | refine blk_drewN ?_ _ | refine blk_drew ?_ | refine blk_alloc ?_ _)); refine blk_put (cs := #[.int .i64 t240, .int .i64 0]) ?_ 1 _ rfl; (with_reducible repeat (first | refine blk_drewN ?_ _ | refine blk_drew ?_ | refine blk_alloc ?_ _)); refine blk_put (cs := #[.int .i64 0, .int .i64 0]) ?_ 0 _ rfl; (with_reducible repeat (first | refine blk_drewN ?_ _ | refine blk_drew ?_ | refine blk_alloc ?_ _)); exact BK227.out) Tryd.underlying34 rfl (by kernel_rfl)) rfl ?_
 exact ⟨_, we_, by (with_reducible repeat (first | apply Va_ | apply VN_ | apply V1_)); exact Kd.V_mono (Kd.V_far (p := ⟨gb227, 1, none⟩) (Kd.V_far (p := ⟨gb227, 0, none⟩) (Kd.V_mono HO239.out (fun k_ hk => (⟨hk, hk.2.2.1⟩ : _ ∧ k_ ≠ gb227))) (fun _ hk => hk.2) (.int .i64 t240)) (fun _ hk => hk.2) (.int .i64 0)) (fun _ hk => hk.1.1), wb2_ HB.out GE227.out GE233.out⟩
end Go.Proofs.YtiijbmaamblidaaDoor.Print

namespace Go.Proofs.YtiijbmaamblidaaDoor
open Go.RowKit Go.Proofs.YtiijbmaamblidaaDoor.Print Go.Proofs.YtiijbmaamblidaaDoorW.PrintWords
set_option linter.unusedVariables false
theorem rdM_n (l : List Mem) (j : Nat) (h : j < l.length) : rd_T27 l (j : Int) = l[j] := by rw [rdM_at l j (by omega) (by omega)]; simp
def sizeM (m : Mem) : Nat := m.f4.length + m.f0.size + m.f1.size
def sumTo (l : List Mem) (i : Nat) : Nat := ((l.take i).map sizeM).sum
theorem sumTo_succ {l : List Mem} {i : Nat} (h : i < l.length) : sumTo l (i + 1) = sumTo l i + sizeM l[i] := by
 unfold sumTo
 rw [List.take_succ_eq_append_getElem h, List.map_append, List.sum_append]
 simp
theorem sumTo_le {l : List Mem} {i j : Nat} (h : i ≤ j) (hj : j ≤ l.length) : sumTo l i ≤ sumTo l j := by
 induction j with
 | zero =>
  obtain rfl : i = 0 := (by omega)
  exact Nat.le_refl _
 | succ j ih =>
  rcases Nat.lt_or_ge i (j + 1) with h1 | h1
  ·have := ih (by omega) (by omega)
   rw [sumTo_succ (by omega)]
   omega
  ·obtain rfl : i = j + 1 := by omega
   exact Nat.le_refl _
theorem light18_no (l : List Mem) (h60 : ¬ l.length ≤ 60) (hlen : l.length ≤ 140737488351232) : ∀ (d i : Nat) (s : Int), i + d = l.length → Ev (fun k => bindlelaw18_light.l0 k l s (i : Int)) false := by
 intro d
 induction d with
 | zero =>
  intro i s hi
  exact Ev.step (f := fun _ => some false) (fun k => by rw [bindlelaw18_light.l0, if_neg (by omega), if_neg (by omega)]) (Ev.now _)
 | succ d ih =>
  intro i s hi
  refine Ev.step (fun k => ?_) (ih (i + 1) (wrap64 ((wrap64 ((wrap64 (s + (((rd_T27 l (i : Int)).f4).length : Int))) + (((rd_T27 l (i : Int)).f0).size : Int))) + (((rd_T27 l (i : Int)).f1).size : Int))) (by omega))
  rw [bindlelaw18_light.l0, if_pos (by omega), if_pos (by omega), show wrap64 ((i : Int) + 1) = ((i + 1 : Nat) : Int) by unfold wrap64; omega]
theorem w_plus {a b : Nat} (h : a + b ≤ 4611686018427387904) : wrap64 ((a : Int) + (b : Int)) = ((a + b : Nat) : Int) := by unfold wrap64; omega
theorem light18_yes (l : List Mem) (h60 : l.length ≤ 60) (hz : ∀ x ∈ l, MemR x) : ∀ (d i : Nat), i + d = l.length → sumTo l i ≤ i * 600000000000000 → Ev (fun k => bindlelaw18_light.l0 k l (sumTo l i : Int) (i : Int)) (decide (sumTo l l.length ≤ 200000)) := by
 intro d
 induction d with
 | zero =>
  intro i hi hs
  obtain rfl : i = l.length := by omega
  refine Ev.step (f := fun _ => some (decide (sumTo l l.length ≤ 200000))) (fun k => ?_) (Ev.now _)
  rw [bindlelaw18_light.l0, if_neg (by omega), if_pos (by omega)]
  congr 1
  rw [decide_eq_decide]
  omega
 | succ d ih =>
  intro i hi hs
  have hil : i < l.length := by omega
  obtain ⟨z0, z1, z2⟩ := hz l[i] (List.getElem_mem hil)
  have hsz : sizeM l[i] = l[i].f4.length + l[i].f0.size + l[i].f1.size := rfl
  have h1 := sumTo_succ hil
  have hs' : sumTo l (i + 1) ≤ (i + 1) * 600000000000000 := by omega
  refine Ev.step (fun k => ?_) (ih (i + 1) (by omega) hs')
  rw [bindlelaw18_light.l0, if_pos (by omega), if_pos (by omega), rdM_n l i hil]
  rw [show wrap64 ((i : Int) + 1) = ((i + 1 : Nat) : Int) by unfold wrap64; omega]
  rw [w_plus (by omega), w_plus (by omega), w_plus (by omega), show sumTo l i + l[i].f4.length + l[i].f0.size + l[i].f1.size = sumTo l (i + 1) by omega]
theorem light18_eq (l : List Mem) (hz : ∀ x ∈ l, MemR x) (hlen : l.length ≤ 140737488351232) : ∃ b, Ev (fun k => bindlelaw18_light.f k l) b ∧ (b = true → l.length ≤ 60 ∧ MemsZ l ∧ sumTo l l.length ≤ 200000) := by
 by_cases h60 : l.length ≤ 60
 ·refine ⟨_, light18_yes l h60 hz l.length 0 (by omega) (by unfold sumTo; simp), fun h => ?_⟩
  have h := of_decide_eq_true h
  refine ⟨h60, ⟨by omega, fun x hx => ?_⟩, h⟩
  obtain ⟨i, hi, rfl⟩ := List.getElem_of_mem hx
  have h1 := sumTo_succ hi
  have h2 := sumTo_le (l := l) (i := i + 1) (j := l.length) (by omega) (Nat.le_refl _)
  have hsz : sizeM l[i] = l[i].f4.length + l[i].f0.size + l[i].f1.size := rfl
  exact ⟨by omega, by omega, by omega⟩
 ·exact ⟨false, light18_no l h60 hlen l.length 0 0 (by omega), fun h => by cases h⟩
end Go.Proofs.YtiijbmaamblidaaDoor
