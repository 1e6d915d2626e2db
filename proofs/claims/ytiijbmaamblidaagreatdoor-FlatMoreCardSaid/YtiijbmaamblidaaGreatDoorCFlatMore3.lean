/-
  Part of the proof that FlatMore answers true: texts put together (wip/bundle.py).
-/
import Derived.Test.YtiijbmaamblidaaGreatDoorCFlatMore2
import Derived.WalkKit
import Derived.LoopTactic
import Derived.WalkSpells
import Derived.Outline
import Derived.Deep.RegionHeld3
import Derived.Shelf.SlGeneric
import Derived.Shelf.SlIter.Nil
import Derived.Shelf.SortM.Plain
import Derived.Shelf.SortM.SortNone
import Derived.Ground.GgzProg
import Derived.Ground.SlgmProg
import Derived.Test.YtiijbmaamblidaaGreatDoorProg
import Derived.Laws.MakeOwn
namespace Go.Proofs.YtiijbmaamblidaaGreatDoor.Print
open Go.RowKit Go.Proofs.YtiijbmaamblidaaGreatDoorW.PrintWords Go.Proofs.YtiijbmaamblidaaGreatDoorW.PrintLast Go.Proofs.YtiijbmaamblidaaGreatDoorW.PrintMore
attribute [local go_sem] max2_int min2_int max_two min_two max_three min_three max_four min_four   -- for this text's walks alone
set_option linter.unusedVariables false
set_option linter.unusedSimpArgs false
mutual
def member_Good.j0 : Nat → Bool → ByteArray → ByteArray → Int → Int → Int → Int → Int → List Int → Option (Bool)
 | 0, _, _, _, _, _, _, _, _, _ => none
 | k + 1, x29, x340000, x340001, x340002, x340003, x340004, x340005, x340006, x340007 => if x29 = true then (some false) else (if x340002 = 48 then (member_Good.j1 k x340002 (x340002 == 48) x340000 x340001 x340002 x340003 x340004 x340005 x340006 x340007) else (member_Good.j1 k x340002 (x340002 == 53) x340000 x340001 x340002 x340003 x340004 x340005 x340006 x340007))
def member_Good.j1 : Nat → Int → Bool → ByteArray → ByteArray → Int → Int → Int → Int → Int → List Int → Option (Bool)
 | 0, _, _, _, _, _, _, _, _, _, _ => none
 | k + 1, x31, x32, x340000, x340001, x340002, x340003, x340004, x340005, x340006, x340007 => if x32 = true then (some (x340001.toList == ([] : List UInt8))) else (if x31 = 49 then ((member_clean.f x340001).bind fun t342 => (some t342)) else (if x31 = 50 then ((path_Target.f x340001).bind fun t343 => (some (t343 == 0))) else (some false)))
end
def member_Good.f (k : Nat) (a0_0 : ByteArray) (a0_1 : ByteArray) (a0_2 : Int) (a0_3 : Int) (a0_4 : Int) (a0_5 : Int) (a0_6 : Int) (l0_7 : List Int) : Option (Bool) := (member_clean.f a0_0).bind fun t340 => (if t340 = true then ((member_meta.f a0_3 a0_4 a0_5 a0_6).bind fun t341 => (if t341 = true then (if (l0_7.length : Int) > 1048576 then (member_Good.j0 k true a0_0 a0_1 a0_2 a0_3 a0_4 a0_5 a0_6 l0_7) else (if a0_2 = 48 then (member_Good.j0 k false a0_0 a0_1 a0_2 a0_3 a0_4 a0_5 a0_6 l0_7) else (member_Good.j0 k (decide ((l0_7.length : Int) > 0)) a0_0 a0_1 a0_2 a0_3 a0_4 a0_5 a0_6 l0_7))) else (member_Good.j0 k true a0_0 a0_1 a0_2 a0_3 a0_4 a0_5 a0_6 l0_7))) else (member_Good.j0 k true a0_0 a0_1 a0_2 a0_3 a0_4 a0_5 a0_6 l0_7))
set_option maxHeartbeats 8000000 in
set_option maxRecDepth 100000 in
theorem member_Good.calls (k : Nat) (a0_0 : ByteArray) (a0_1 : ByteArray) (a0_2 : Int) (a0_3 : Int) (a0_4 : Int) (a0_5 : Int) (a0_6 : Int) (A0_7 : Option Addr) (c0_7 : Nat) (l0_7 : List Int) (r : Bool) (w : World) (hT : Aside0 (Tabs w)) (hr0_7 : Kd.C (Kd.int .u8) w A0_7 l0_7.length l0_7) (hc0_7 : l0_7.length ≤ c0_7) (h : member_Good.f k a0_0 a0_1 a0_2 a0_3 a0_4 a0_5 a0_6 l0_7 = some r) :
  Calls Tryz.prog 29 #[.agg #[.string a0_0, .string a0_1, .int .u8 a0_2, .int .i64 a0_3, .int .i64 a0_4, .int .i64 a0_5, .int .i64 a0_6, .slice A0_7 l0_7.length c0_7]] w fun e w' => e = .returned (.bool r) ∧ Below w.heap.size w w' := by
 have hu43 := Tryz.underlying43
 have hu40 := Tryz.underlying40
 have HR0_7 := A0_ hr0_7
 have HC0_7 := A0_ hc0_7
 clear hr0_7 hc0_7
 have HB := A0_ (Below.refl w.heap.size w)
 have H : ((member_clean.f a0_0).bind fun t340 => (if t340 = true then ((member_meta.f a0_3 a0_4 a0_5 a0_6).bind fun t341 => (if t341 = true then (if (l0_7.length : Int) > 1048576 then (member_Good.j0 k true a0_0 a0_1 a0_2 a0_3 a0_4 a0_5 a0_6 l0_7) else (if a0_2 = 48 then (member_Good.j0 k false a0_0 a0_1 a0_2 a0_3 a0_4 a0_5 a0_6 l0_7) else (member_Good.j0 k (decide ((l0_7.length : Int) > 0)) a0_0 a0_1 a0_2 a0_3 a0_4 a0_5 a0_6 l0_7))) else (member_Good.j0 k true a0_0 a0_1 a0_2 a0_3 a0_4 a0_5 a0_6 l0_7))) else (member_Good.j0 k true a0_0 a0_1 a0_2 a0_3 a0_4 a0_5 a0_6 l0_7))) = some r := h
 clear h
 have HC2 := A0_ H
 clear H
 go_enter Tryz.func29, Tryz.ntmps29
 go_upto_region 1 with (first | ((with_reducible refine gate_dst (N := 1) rfl ?_); (try (refine gate_guard (by rfl) ?_; dsimp only)); refine box_event ?hg (N := 1) ?hd (cs := #[.string a0_0, .string a0_1, .int .u8 a0_2, .int .i64 a0_3, .int .i64 a0_4, .int .i64 a0_5, .int .i64 a0_6, .slice A0_7 l0_7.length c0_7]) (t := 43) ?hr ?_; (case hd => rfl); (case hg => rfl); (case hr => first | (go_simp; done) | (go_simp; rfl)); intro gb339 hg w3 hbox hb; have n0_ := A0_ (below_step (wb_ HB.out) hb); have n1_ := A0_ (hbox); have n2_ := A0_ ((by rw [hg]; exact (below_size (wb_ HB.out)) : w.heap.size ≤ gb339)); have n3_ := A0_ ((by rw [hg]; exact (below_size (wb_ HB.out)) : w.heap.size ≤ gb339)); clear HB; have HB := n0_; have BK339 := n1_; have GW339 := n2_; have GE339 := n3_; clear n0_ n1_ n2_ n3_; clear hb hbox hg))
 (try simp only [Act.put, List.setIfInBounds_toArray, List.set_cons_zero, List.set_cons_succ])
 go_cut [29] (fun v29 wc => ∃ (kq : Nat) (x29_1 : Bool), v29 = .bool x29_1 ∧ Aside0 (member_Good.j0 kq x29_1 a0_0 a0_1 a0_2 a0_3 a0_4 a0_5 a0_6 l0_7 = some r) ∧ Aside0 (kq ≤ k) ∧ Aside0 (wc.heap[gb339]? = some (.cells #[.string a0_0, .string a0_1, .int .u8 a0_2, .int .i64 a0_3, .int .i64 a0_4, .int .i64 a0_5, .int .i64 a0_6, (.slice A0_7 l0_7.length c0_7)] 43 (0, 0))) ∧ Aside0 (Below w.heap.size w wc))
 case first =>
  have H := HC2.out
  clear HC2
  replace H := Option.bind_eq_some_iff.mp H
  obtain ⟨t340, A40, H⟩ := H
  replace H : (if t340 = true then ((member_meta.f a0_3 a0_4 a0_5 a0_6).bind fun t341 => (if t341 = true then (if (l0_7.length : Int) > 1048576 then (member_Good.j0 k true a0_0 a0_1 a0_2 a0_3 a0_4 a0_5 a0_6 l0_7) else (if a0_2 = 48 then (member_Good.j0 k false a0_0 a0_1 a0_2 a0_3 a0_4 a0_5 a0_6 l0_7) else (member_Good.j0 k (decide ((l0_7.length : Int) > 0)) a0_0 a0_1 a0_2 a0_3 a0_4 a0_5 a0_6 l0_7))) else (member_Good.j0 k true a0_0 a0_1 a0_2 a0_3 a0_4 a0_5 a0_6 l0_7))) else (member_Good.j0 k true a0_0 a0_1 a0_2 a0_3 a0_4 a0_5 a0_6 l0_7)) = some r := H
  have A4 := A0_ A40
  clear A40
  by_cases c5 : t340 = true
  rotate_left
  ·replace c5 := Bool.eq_false_iff.mpr c5
   subst c5
   have H1 : (member_Good.j0 k true a0_0 a0_1 a0_2 a0_3 a0_4 a0_5 a0_6 l0_7) = some r := by rw [if_neg (show ¬ (false = true) by decide)] at H; exact H
   clear H
   have H := H1
   clear H1
   have H' := A0_ H
   clear H
   have hcz29_0 : w3.cell? ⟨gb339, 0, none⟩ = some (.string a0_0) := (bc_ BK339.out 0).trans rfl
   have hcz29_1 : w3.cell? ⟨gb339, 1, none⟩ = some (.string a0_1) := (bc_ BK339.out 1).trans rfl
   have hcz29_2 : w3.cell? ⟨gb339, 2, none⟩ = some (.int .u8 a0_2) := (bc_ BK339.out 2).trans rfl
   have hcz29_3 : w3.cell? ⟨gb339, 3, none⟩ = some (.int .i64 a0_3) := (bc_ BK339.out 3).trans rfl
   have hcz29_4 : w3.cell? ⟨gb339, 4, none⟩ = some (.int .i64 a0_4) := (bc_ BK339.out 4).trans rfl
   have hcz29_5 : w3.cell? ⟨gb339, 5, none⟩ = some (.int .i64 a0_5) := (bc_ BK339.out 5).trans rfl
   have hcz29_6 : w3.cell? ⟨gb339, 6, none⟩ = some (.int .i64 a0_6) := (bc_ BK339.out 6).trans rfl
   have hcz29_7 : w3.cell? ⟨gb339, 7, none⟩ = some (.slice A0_7 l0_7.length c0_7) := (bc_ BK339.out 7).trans rfl
   have hfz29_0 := bf_ BK339.out 0
   have hfz29_1 := bf_ BK339.out 1
   have hfz29_2 := bf_ BK339.out 2
   have hfz29_3 := bf_ BK339.out 3
   have hfz29_4 := bf_ BK339.out 4
   have hfz29_5 := bf_ BK339.out 5
   have hfz29_6 := bf_ BK339.out 6
   have hfz29_7 := bf_ BK339.out 7
   go_wp2_with (first | ((with_reducible refine gate_callee (f := 40) rfl ?_); refine goesL_ (some 5) rfl rfl Tryz.func40 (by kernel_rfl) rfl #[.string a0_0] rfl wm_ ?_; (with_reducible refine (member_clean.calls a0_0 false _ ?side1 A4.out).mono ?_); (case side1 => exact A0_ (Tabs.below hT.out (wb1_ HB.out GE339.out))); rintro e w30 ⟨rfl, hb⟩; refine ⟨_, rfl, ?_⟩; have n0_ := A0_ (blk_below (g := gb339) (o := .cells #[.string a0_0, .string a0_1, .int .u8 a0_2, .int .i64 a0_3, .int .i64 a0_4, .int .i64 a0_5, .int .i64 a0_6, .slice A0_7 l0_7.length c0_7] 43 (0, 0)) (wB_ BK339.out) hb); have n1_ := A0_ (below_step (wb1_ HB.out GE339.out) hb); clear BK339; clear HB; have BK339 := n0_; have HB := n1_; clear n0_ n1_; (try clear hb); (try clear hb2); (try clear hk); (try clear hi)))
   go_meet
   case rel => exact ⟨_, (true), wr_, H', ⟨by first | omega | exact Nat.le_refl _⟩, ⟨wB_ BK339.out⟩, ⟨wb1_ HB.out GE339.out⟩⟩
  subst c5
  have H1 : ((member_meta.f a0_3 a0_4 a0_5 a0_6).bind fun t341 => (if t341 = true then (if (l0_7.length : Int) > 1048576 then (member_Good.j0 k true a0_0 a0_1 a0_2 a0_3 a0_4 a0_5 a0_6 l0_7) else (if a0_2 = 48 then (member_Good.j0 k false a0_0 a0_1 a0_2 a0_3 a0_4 a0_5 a0_6 l0_7) else (member_Good.j0 k (decide ((l0_7.length : Int) > 0)) a0_0 a0_1 a0_2 a0_3 a0_4 a0_5 a0_6 l0_7))) else (member_Good.j0 k true a0_0 a0_1 a0_2 a0_3 a0_4 a0_5 a0_6 l0_7))) = some r := by rw [if_pos rfl] at H; exact H
  clear H
  have H := H1
  clear H1
  replace H := Option.bind_eq_some_iff.mp H
  obtain ⟨t341, A60, H⟩ := H
  replace H : (if t341 = true then (if (l0_7.length : Int) > 1048576 then (member_Good.j0 k true a0_0 a0_1 a0_2 a0_3 a0_4 a0_5 a0_6 l0_7) else (if a0_2 = 48 then (member_Good.j0 k false a0_0 a0_1 a0_2 a0_3 a0_4 a0_5 a0_6 l0_7) else (member_Good.j0 k (decide ((l0_7.length : Int) > 0)) a0_0 a0_1 a0_2 a0_3 a0_4 a0_5 a0_6 l0_7))) else (member_Good.j0 k true a0_0 a0_1 a0_2 a0_3 a0_4 a0_5 a0_6 l0_7)) = some r := H
  have A6 := A0_ A60
  clear A60
  by_cases c7 : t341 = true
  rotate_left
  ·replace c7 := Bool.eq_false_iff.mpr c7
   subst c7
   have H1 : (member_Good.j0 k true a0_0 a0_1 a0_2 a0_3 a0_4 a0_5 a0_6 l0_7) = some r := by rw [if_neg (show ¬ (false = true) by decide)] at H; exact H
   clear H
   have H := H1
   clear H1
   have H' := A0_ H
   clear H
   have hcz25_0 : w3.cell? ⟨gb339, 0, none⟩ = some (.string a0_0) := (bc_ BK339.out 0).trans rfl
   have hcz25_1 : w3.cell? ⟨gb339, 1, none⟩ = some (.string a0_1) := (bc_ BK339.out 1).trans rfl
   have hcz25_2 : w3.cell? ⟨gb339, 2, none⟩ = some (.int .u8 a0_2) := (bc_ BK339.out 2).trans rfl
   have hcz25_3 : w3.cell? ⟨gb339, 3, none⟩ = some (.int .i64 a0_3) := (bc_ BK339.out 3).trans rfl
   have hcz25_4 : w3.cell? ⟨gb339, 4, none⟩ = some (.int .i64 a0_4) := (bc_ BK339.out 4).trans rfl
   have hcz25_5 : w3.cell? ⟨gb339, 5, none⟩ = some (.int .i64 a0_5) := (bc_ BK339.out 5).trans rfl
   have hcz25_6 : w3.cell? ⟨gb339, 6, none⟩ = some (.int .i64 a0_6) := (bc_ BK339.out 6).trans rfl
   have hcz25_7 : w3.cell? ⟨gb339, 7, none⟩ = some (.slice A0_7 l0_7.length c0_7) := (bc_ BK339.out 7).trans rfl
   have hfz25_0 := bf_ BK339.out 0
   have hfz25_1 := bf_ BK339.out 1
   have hfz25_2 := bf_ BK339.out 2
   have hfz25_3 := bf_ BK339.out 3
   have hfz25_4 := bf_ BK339.out 4
   have hfz25_5 := bf_ BK339.out 5
   have hfz25_6 := bf_ BK339.out 6
   have hfz25_7 := bf_ BK339.out 7
   go_wp2_with (first | ((with_reducible refine gate_callee (f := 40) rfl ?_); refine goesL_ (some 5) rfl rfl Tryz.func40 (by kernel_rfl) rfl #[.string a0_0] rfl wm_ ?_; (with_reducible refine (member_clean.calls a0_0 true _ ?side1 A4.out).mono ?_); (case side1 => exact A0_ (Tabs.below hT.out (wb1_ HB.out GE339.out))); rintro e w26 ⟨rfl, hb⟩; refine ⟨_, rfl, ?_⟩; have n0_ := A0_ (blk_below (g := gb339) (o := .cells #[.string a0_0, .string a0_1, .int .u8 a0_2, .int .i64 a0_3, .int .i64 a0_4, .int .i64 a0_5, .int .i64 a0_6, .slice A0_7 l0_7.length c0_7] 43 (0, 0)) (wB_ BK339.out) hb); have n1_ := A0_ (below_step (wb1_ HB.out GE339.out) hb); clear BK339; clear HB; have BK339 := n0_; have HB := n1_; clear n0_ n1_; (try clear hb); (try clear hb2); (try clear hk); (try clear hi); have hcz27_0 : w26.cell? ⟨gb339, 0, none⟩ = some (.string a0_0) := (bc_ BK339.out 0).trans rfl; have hcz27_1 : w26.cell? ⟨gb339, 1, none⟩ = some (.string a0_1) := (bc_ BK339.out 1).trans rfl; have hcz27_2 : w26.cell? ⟨gb339, 2, none⟩ = some (.int .u8 a0_2) := (bc_ BK339.out 2).trans rfl; have hcz27_3 : w26.cell? ⟨gb339, 3, none⟩ = some (.int .i64 a0_3) := (bc_ BK339.out 3).trans rfl; have hcz27_4 : w26.cell? ⟨gb339, 4, none⟩ = some (.int .i64 a0_4) := (bc_ BK339.out 4).trans rfl; have hcz27_5 : w26.cell? ⟨gb339, 5, none⟩ = some (.int .i64 a0_5) := (bc_ BK339.out 5).trans rfl; have hcz27_6 : w26.cell? ⟨gb339, 6, none⟩ = some (.int .i64 a0_6) := (bc_ BK339.out 6).trans rfl; have hcz27_7 : w26.cell? ⟨gb339, 7, none⟩ = some (.slice A0_7 l0_7.length c0_7) := (bc_ BK339.out 7).trans rfl; have hfz27_0 := bf_ BK339.out 0; have hfz27_1 := bf_ BK339.out 1; have hfz27_2 := bf_ BK339.out 2; have hfz27_3 := bf_ BK339.out 3; have hfz27_4 := bf_ BK339.out 4; have hfz27_5 := bf_ BK339.out 5; have hfz27_6 := bf_ BK339.out 6; have hfz27_7 := bf_ BK339.out 7) | (go_at_call 41; (with_reducible refine (member_meta.calls a0_3 a0_4 a0_5 a0_6 false _ A6.out).mono ?_); rintro e w28 ⟨rfl, hb⟩; have n0_ := A0_ (blk_below (g := gb339) (o := .cells #[.string a0_0, .string a0_1, .int .u8 a0_2, .int .i64 a0_3, .int .i64 a0_4, .int .i64 a0_5, .int .i64 a0_6, .slice A0_7 l0_7.length c0_7] 43 (0, 0)) (wB_ BK339.out) hb); have n1_ := A0_ (below_step (wb1_ HB.out GE339.out) hb); clear BK339; clear HB; have BK339 := n0_; have HB := n1_; clear n0_ n1_; (try clear hb); (try clear hb2); (try clear hk); (try clear hi)))
   go_meet
   case rel => exact ⟨_, (true), wr_, H', ⟨by first | omega | exact Nat.le_refl _⟩, ⟨wB_ BK339.out⟩, ⟨wb1_ HB.out GE339.out⟩⟩
  subst c7
  have H1 : (if (l0_7.length : Int) > 1048576 then (member_Good.j0 k true a0_0 a0_1 a0_2 a0_3 a0_4 a0_5 a0_6 l0_7) else (if a0_2 = 48 then (member_Good.j0 k false a0_0 a0_1 a0_2 a0_3 a0_4 a0_5 a0_6 l0_7) else (member_Good.j0 k (decide ((l0_7.length : Int) > 0)) a0_0 a0_1 a0_2 a0_3 a0_4 a0_5 a0_6 l0_7))) = some r := by rw [if_pos rfl] at H; exact H
  clear H
  have H := H1
  clear H1
  by_cases c8 : (l0_7.length : Int) > 1048576
  ·rw [if_pos c8] at H
   have c8b0 : decide (1048576 < (l0_7.length : Int)) = true := decide_eq_true c8
   have c8b1 : decide (1048576 < l0_7.length) = true := decide_eq_true (by omega)
   clear c8
   (first | rw [c8b0] | (simp only [i64_w, i32_w]; rw [c8b0]) | skip)
   have H' := A0_ H
   clear H
   have hcz9_0 : w3.cell? ⟨gb339, 0, none⟩ = some (.string a0_0) := (bc_ BK339.out 0).trans rfl
   have hcz9_1 : w3.cell? ⟨gb339, 1, none⟩ = some (.string a0_1) := (bc_ BK339.out 1).trans rfl
   have hcz9_2 : w3.cell? ⟨gb339, 2, none⟩ = some (.int .u8 a0_2) := (bc_ BK339.out 2).trans rfl
   have hcz9_3 : w3.cell? ⟨gb339, 3, none⟩ = some (.int .i64 a0_3) := (bc_ BK339.out 3).trans rfl
   have hcz9_4 : w3.cell? ⟨gb339, 4, none⟩ = some (.int .i64 a0_4) := (bc_ BK339.out 4).trans rfl
   have hcz9_5 : w3.cell? ⟨gb339, 5, none⟩ = some (.int .i64 a0_5) := (bc_ BK339.out 5).trans rfl
   have hcz9_6 : w3.cell? ⟨gb339, 6, none⟩ = some (.int .i64 a0_6) := (bc_ BK339.out 6).trans rfl
   have hcz9_7 : w3.cell? ⟨gb339, 7, none⟩ = some (.slice A0_7 l0_7.length c0_7) := (bc_ BK339.out 7).trans rfl
   have hfz9_0 := bf_ BK339.out 0
   have hfz9_1 := bf_ BK339.out 1
   have hfz9_2 := bf_ BK339.out 2
   have hfz9_3 := bf_ BK339.out 3
   have hfz9_4 := bf_ BK339.out 4
   have hfz9_5 := bf_ BK339.out 5
   have hfz9_6 := bf_ BK339.out 6
   have hfz9_7 := bf_ BK339.out 7
   go_wp2_with (first | ((with_reducible refine gate_callee (f := 40) rfl ?_); refine goesL_ (some 5) rfl rfl Tryz.func40 (by kernel_rfl) rfl #[.string a0_0] rfl wm_ ?_; (with_reducible refine (member_clean.calls a0_0 true _ ?side1 A4.out).mono ?_); (case side1 => exact A0_ (Tabs.below hT.out (wb1_ HB.out GE339.out))); rintro e w10 ⟨rfl, hb⟩; refine ⟨_, rfl, ?_⟩; have n0_ := A0_ (blk_below (g := gb339) (o := .cells #[.string a0_0, .string a0_1, .int .u8 a0_2, .int .i64 a0_3, .int .i64 a0_4, .int .i64 a0_5, .int .i64 a0_6, .slice A0_7 l0_7.length c0_7] 43 (0, 0)) (wB_ BK339.out) hb); have n1_ := A0_ (below_step (wb1_ HB.out GE339.out) hb); clear BK339; clear HB; have BK339 := n0_; have HB := n1_; clear n0_ n1_; (try clear hb); (try clear hb2); (try clear hk); (try clear hi); have hcz11_0 : w10.cell? ⟨gb339, 0, none⟩ = some (.string a0_0) := (bc_ BK339.out 0).trans rfl; have hcz11_1 : w10.cell? ⟨gb339, 1, none⟩ = some (.string a0_1) := (bc_ BK339.out 1).trans rfl; have hcz11_2 : w10.cell? ⟨gb339, 2, none⟩ = some (.int .u8 a0_2) := (bc_ BK339.out 2).trans rfl; have hcz11_3 : w10.cell? ⟨gb339, 3, none⟩ = some (.int .i64 a0_3) := (bc_ BK339.out 3).trans rfl; have hcz11_4 : w10.cell? ⟨gb339, 4, none⟩ = some (.int .i64 a0_4) := (bc_ BK339.out 4).trans rfl; have hcz11_5 : w10.cell? ⟨gb339, 5, none⟩ = some (.int .i64 a0_5) := (bc_ BK339.out 5).trans rfl; have hcz11_6 : w10.cell? ⟨gb339, 6, none⟩ = some (.int .i64 a0_6) := (bc_ BK339.out 6).trans rfl; have hcz11_7 : w10.cell? ⟨gb339, 7, none⟩ = some (.slice A0_7 l0_7.length c0_7) := (bc_ BK339.out 7).trans rfl; have hfz11_0 := bf_ BK339.out 0; have hfz11_1 := bf_ BK339.out 1; have hfz11_2 := bf_ BK339.out 2; have hfz11_3 := bf_ BK339.out 3; have hfz11_4 := bf_ BK339.out 4; have hfz11_5 := bf_ BK339.out 5; have hfz11_6 := bf_ BK339.out 6; have hfz11_7 := bf_ BK339.out 7) | (go_at_call 41; (with_reducible refine (member_meta.calls a0_3 a0_4 a0_5 a0_6 true _ A6.out).mono ?_); rintro e w12 ⟨rfl, hb⟩; have n0_ := A0_ (blk_below (g := gb339) (o := .cells #[.string a0_0, .string a0_1, .int .u8 a0_2, .int .i64 a0_3, .int .i64 a0_4, .int .i64 a0_5, .int .i64 a0_6, .slice A0_7 l0_7.length c0_7] 43 (0, 0)) (wB_ BK339.out) hb); have n1_ := A0_ (below_step (wb1_ HB.out GE339.out) hb); clear BK339; clear HB; have BK339 := n0_; have HB := n1_; clear n0_ n1_; (try clear hb); (try clear hb2); (try clear hk); (try clear hi); have hcz13_0 : w12.cell? ⟨gb339, 0, none⟩ = some (.string a0_0) := (bc_ BK339.out 0).trans rfl; have hcz13_1 : w12.cell? ⟨gb339, 1, none⟩ = some (.string a0_1) := (bc_ BK339.out 1).trans rfl; have hcz13_2 : w12.cell? ⟨gb339, 2, none⟩ = some (.int .u8 a0_2) := (bc_ BK339.out 2).trans rfl; have hcz13_3 : w12.cell? ⟨gb339, 3, none⟩ = some (.int .i64 a0_3) := (bc_ BK339.out 3).trans rfl; have hcz13_4 : w12.cell? ⟨gb339, 4, none⟩ = some (.int .i64 a0_4) := (bc_ BK339.out 4).trans rfl; have hcz13_5 : w12.cell? ⟨gb339, 5, none⟩ = some (.int .i64 a0_5) := (bc_ BK339.out 5).trans rfl; have hcz13_6 : w12.cell? ⟨gb339, 6, none⟩ = some (.int .i64 a0_6) := (bc_ BK339.out 6).trans rfl; have hcz13_7 : w12.cell? ⟨gb339, 7, none⟩ = some (.slice A0_7 l0_7.length c0_7) := (bc_ BK339.out 7).trans rfl; have hfz13_0 := bf_ BK339.out 0; have hfz13_1 := bf_ BK339.out 1; have hfz13_2 := bf_ BK339.out 2; have hfz13_3 := bf_ BK339.out 3; have hfz13_4 := bf_ BK339.out 4; have hfz13_5 := bf_ BK339.out 5; have hfz13_6 := bf_ BK339.out 6; have hfz13_7 := bf_ BK339.out 7))
   go_meet
   case rel => exact ⟨_, (true), wr_, H', ⟨by first | omega | exact Nat.le_refl _⟩, ⟨wB_ BK339.out⟩, ⟨wb1_ HB.out GE339.out⟩⟩
  rw [if_neg c8] at H
  have c8b0 : decide (1048576 < (l0_7.length : Int)) = false := decide_eq_false c8
  have c8b1 : decide (1048576 < l0_7.length) = false := decide_eq_false (by omega)
  clear c8
  (first | rw [c8b0] | (simp only [i64_w, i32_w]; rw [c8b0]) | skip)
  by_cases c14 : a0_2 = 48
  ·rw [if_pos c14] at H
   have c14b0 : (a0_2 == 48) = true := beq_iff_eq.mpr c14
   have c14b1 : (a0_2 != 48) = false := bne_eq_false_iff_eq.mpr c14
   clear c14
   have H' := A0_ H
   clear H
   have hcz15_0 : w3.cell? ⟨gb339, 0, none⟩ = some (.string a0_0) := (bc_ BK339.out 0).trans rfl
   have hcz15_1 : w3.cell? ⟨gb339, 1, none⟩ = some (.string a0_1) := (bc_ BK339.out 1).trans rfl
   have hcz15_2 : w3.cell? ⟨gb339, 2, none⟩ = some (.int .u8 a0_2) := (bc_ BK339.out 2).trans rfl
   have hcz15_3 : w3.cell? ⟨gb339, 3, none⟩ = some (.int .i64 a0_3) := (bc_ BK339.out 3).trans rfl
   have hcz15_4 : w3.cell? ⟨gb339, 4, none⟩ = some (.int .i64 a0_4) := (bc_ BK339.out 4).trans rfl
   have hcz15_5 : w3.cell? ⟨gb339, 5, none⟩ = some (.int .i64 a0_5) := (bc_ BK339.out 5).trans rfl
   have hcz15_6 : w3.cell? ⟨gb339, 6, none⟩ = some (.int .i64 a0_6) := (bc_ BK339.out 6).trans rfl
   have hcz15_7 : w3.cell? ⟨gb339, 7, none⟩ = some (.slice A0_7 l0_7.length c0_7) := (bc_ BK339.out 7).trans rfl
   have hfz15_0 := bf_ BK339.out 0
   have hfz15_1 := bf_ BK339.out 1
   have hfz15_2 := bf_ BK339.out 2
   have hfz15_3 := bf_ BK339.out 3
   have hfz15_4 := bf_ BK339.out 4
   have hfz15_5 := bf_ BK339.out 5
   have hfz15_6 := bf_ BK339.out 6
   have hfz15_7 := bf_ BK339.out 7
   go_wp2_with (first | ((with_reducible refine gate_callee (f := 40) rfl ?_); refine goesL_ (some 5) rfl rfl Tryz.func40 (by kernel_rfl) rfl #[.string a0_0] rfl wm_ ?_; (with_reducible refine (member_clean.calls a0_0 true _ ?side1 A4.out).mono ?_); (case side1 => exact A0_ (Tabs.below hT.out (wb1_ HB.out GE339.out))); rintro e w16 ⟨rfl, hb⟩; refine ⟨_, rfl, ?_⟩; have n0_ := A0_ (blk_below (g := gb339) (o := .cells #[.string a0_0, .string a0_1, .int .u8 a0_2, .int .i64 a0_3, .int .i64 a0_4, .int .i64 a0_5, .int .i64 a0_6, .slice A0_7 l0_7.length c0_7] 43 (0, 0)) (wB_ BK339.out) hb); have n1_ := A0_ (below_step (wb1_ HB.out GE339.out) hb); clear BK339; clear HB; have BK339 := n0_; have HB := n1_; clear n0_ n1_; (try clear hb); (try clear hb2); (try clear hk); (try clear hi); have hcz17_0 : w16.cell? ⟨gb339, 0, none⟩ = some (.string a0_0) := (bc_ BK339.out 0).trans rfl; have hcz17_1 : w16.cell? ⟨gb339, 1, none⟩ = some (.string a0_1) := (bc_ BK339.out 1).trans rfl; have hcz17_2 : w16.cell? ⟨gb339, 2, none⟩ = some (.int .u8 a0_2) := (bc_ BK339.out 2).trans rfl; have hcz17_3 : w16.cell? ⟨gb339, 3, none⟩ = some (.int .i64 a0_3) := (bc_ BK339.out 3).trans rfl; have hcz17_4 : w16.cell? ⟨gb339, 4, none⟩ = some (.int .i64 a0_4) := (bc_ BK339.out 4).trans rfl; have hcz17_5 : w16.cell? ⟨gb339, 5, none⟩ = some (.int .i64 a0_5) := (bc_ BK339.out 5).trans rfl; have hcz17_6 : w16.cell? ⟨gb339, 6, none⟩ = some (.int .i64 a0_6) := (bc_ BK339.out 6).trans rfl; have hcz17_7 : w16.cell? ⟨gb339, 7, none⟩ = some (.slice A0_7 l0_7.length c0_7) := (bc_ BK339.out 7).trans rfl; have hfz17_0 := bf_ BK339.out 0; have hfz17_1 := bf_ BK339.out 1; have hfz17_2 := bf_ BK339.out 2; have hfz17_3 := bf_ BK339.out 3; have hfz17_4 := bf_ BK339.out 4; have hfz17_5 := bf_ BK339.out 5; have hfz17_6 := bf_ BK339.out 6; have hfz17_7 := bf_ BK339.out 7) | (go_at_call 41; (with_reducible refine (member_meta.calls a0_3 a0_4 a0_5 a0_6 true _ A6.out).mono ?_); rintro e w18 ⟨rfl, hb⟩; have n0_ := A0_ (blk_below (g := gb339) (o := .cells #[.string a0_0, .string a0_1, .int .u8 a0_2, .int .i64 a0_3, .int .i64 a0_4, .int .i64 a0_5, .int .i64 a0_6, .slice A0_7 l0_7.length c0_7] 43 (0, 0)) (wB_ BK339.out) hb); have n1_ := A0_ (below_step (wb1_ HB.out GE339.out) hb); clear BK339; clear HB; have BK339 := n0_; have HB := n1_; clear n0_ n1_; (try clear hb); (try clear hb2); (try clear hk); (try clear hi); have hcz19_0 : w18.cell? ⟨gb339, 0, none⟩ = some (.string a0_0) := (bc_ BK339.out 0).trans rfl; have hcz19_1 : w18.cell? ⟨gb339, 1, none⟩ = some (.string a0_1) := (bc_ BK339.out 1).trans rfl; have hcz19_2 : w18.cell? ⟨gb339, 2, none⟩ = some (.int .u8 a0_2) := (bc_ BK339.out 2).trans rfl; have hcz19_3 : w18.cell? ⟨gb339, 3, none⟩ = some (.int .i64 a0_3) := (bc_ BK339.out 3).trans rfl; have hcz19_4 : w18.cell? ⟨gb339, 4, none⟩ = some (.int .i64 a0_4) := (bc_ BK339.out 4).trans rfl; have hcz19_5 : w18.cell? ⟨gb339, 5, none⟩ = some (.int .i64 a0_5) := (bc_ BK339.out 5).trans rfl; have hcz19_6 : w18.cell? ⟨gb339, 6, none⟩ = some (.int .i64 a0_6) := (bc_ BK339.out 6).trans rfl; have hcz19_7 : w18.cell? ⟨gb339, 7, none⟩ = some (.slice A0_7 l0_7.length c0_7) := (bc_ BK339.out 7).trans rfl; have hfz19_0 := bf_ BK339.out 0; have hfz19_1 := bf_ BK339.out 1; have hfz19_2 := bf_ BK339.out 2; have hfz19_3 := bf_ BK339.out 3; have hfz19_4 := bf_ BK339.out 4; have hfz19_5 := bf_ BK339.out 5; have hfz19_6 := bf_ BK339.out 6; have hfz19_7 := bf_ BK339.out 7))
   go_meet
   case rel => exact ⟨_, (false), wr_, H', ⟨by first | omega | exact Nat.le_refl _⟩, ⟨wB_ BK339.out⟩, ⟨wb1_ HB.out GE339.out⟩⟩
  rw [if_neg c14] at H
  have c14b0 : (a0_2 == 48) = false := beq_eq_false_iff_ne.mpr c14
  have c14b1 : (a0_2 != 48) = true := bne_iff_ne.mpr c14
  have H' := A0_ H
  clear H
  have hcz20_0 : w3.cell? ⟨gb339, 0, none⟩ = some (.string a0_0) := (bc_ BK339.out 0).trans rfl
  have hcz20_1 : w3.cell? ⟨gb339, 1, none⟩ = some (.string a0_1) := (bc_ BK339.out 1).trans rfl
  have hcz20_2 : w3.cell? ⟨gb339, 2, none⟩ = some (.int .u8 a0_2) := (bc_ BK339.out 2).trans rfl
  have hcz20_3 : w3.cell? ⟨gb339, 3, none⟩ = some (.int .i64 a0_3) := (bc_ BK339.out 3).trans rfl
  have hcz20_4 : w3.cell? ⟨gb339, 4, none⟩ = some (.int .i64 a0_4) := (bc_ BK339.out 4).trans rfl
  have hcz20_5 : w3.cell? ⟨gb339, 5, none⟩ = some (.int .i64 a0_5) := (bc_ BK339.out 5).trans rfl
  have hcz20_6 : w3.cell? ⟨gb339, 6, none⟩ = some (.int .i64 a0_6) := (bc_ BK339.out 6).trans rfl
  have hcz20_7 : w3.cell? ⟨gb339, 7, none⟩ = some (.slice A0_7 l0_7.length c0_7) := (bc_ BK339.out 7).trans rfl
  have hfz20_0 := bf_ BK339.out 0
  have hfz20_1 := bf_ BK339.out 1
  have hfz20_2 := bf_ BK339.out 2
  have hfz20_3 := bf_ BK339.out 3
  have hfz20_4 := bf_ BK339.out 4
  have hfz20_5 := bf_ BK339.out 5
  have hfz20_6 := bf_ BK339.out 6
  have hfz20_7 := bf_ BK339.out 7
  go_wp2_with (first | ((with_reducible refine gate_callee (f := 40) rfl ?_); refine goesL_ (some 5) rfl rfl Tryz.func40 (by kernel_rfl) rfl #[.string a0_0] rfl wm_ ?_; (with_reducible refine (member_clean.calls a0_0 true _ ?side1 A4.out).mono ?_); (case side1 => exact A0_ (Tabs.below hT.out (wb1_ HB.out GE339.out))); rintro e w21 ⟨rfl, hb⟩; refine ⟨_, rfl, ?_⟩; have n0_ := A0_ (blk_below (g := gb339) (o := .cells #[.string a0_0, .string a0_1, .int .u8 a0_2, .int .i64 a0_3, .int .i64 a0_4, .int .i64 a0_5, .int .i64 a0_6, .slice A0_7 l0_7.length c0_7] 43 (0, 0)) (wB_ BK339.out) hb); have n1_ := A0_ (below_step (wb1_ HB.out GE339.out) hb); clear BK339; clear HB; have BK339 := n0_; have HB := n1_; clear n0_ n1_; (try clear hb); (try clear hb2); (try clear hk); (try clear hi); have hcz22_0 : w21.cell? ⟨gb339, 0, none⟩ = some (.string a0_0) := (bc_ BK339.out 0).trans rfl; have hcz22_1 : w21.cell? ⟨gb339, 1, none⟩ = some (.string a0_1) := (bc_ BK339.out 1).trans rfl; have hcz22_2 : w21.cell? ⟨gb339, 2, none⟩ = some (.int .u8 a0_2) := (bc_ BK339.out 2).trans rfl; have hcz22_3 : w21.cell? ⟨gb339, 3, none⟩ = some (.int .i64 a0_3) := (bc_ BK339.out 3).trans rfl; have hcz22_4 : w21.cell? ⟨gb339, 4, none⟩ = some (.int .i64 a0_4) := (bc_ BK339.out 4).trans rfl; have hcz22_5 : w21.cell? ⟨gb339, 5, none⟩ = some (.int .i64 a0_5) := (bc_ BK339.out 5).trans rfl; have hcz22_6 : w21.cell? ⟨gb339, 6, none⟩ = some (.int .i64 a0_6) := (bc_ BK339.out 6).trans rfl; have hcz22_7 : w21.cell? ⟨gb339, 7, none⟩ = some (.slice A0_7 l0_7.length c0_7) := (bc_ BK339.out 7).trans rfl; have hfz22_0 := bf_ BK339.out 0; have hfz22_1 := bf_ BK339.out 1; have hfz22_2 := bf_ BK339.out 2; have hfz22_3 := bf_ BK339.out 3; have hfz22_4 := bf_ BK339.out 4; have hfz22_5 := bf_ BK339.out 5; have hfz22_6 := bf_ BK339.out 6; have hfz22_7 := bf_ BK339.out 7) | (go_at_call 41; (with_reducible refine (member_meta.calls a0_3 a0_4 a0_5 a0_6 true _ A6.out).mono ?_); rintro e w23 ⟨rfl, hb⟩; have n0_ := A0_ (blk_below (g := gb339) (o := .cells #[.string a0_0, .string a0_1, .int .u8 a0_2, .int .i64 a0_3, .int .i64 a0_4, .int .i64 a0_5, .int .i64 a0_6, .slice A0_7 l0_7.length c0_7] 43 (0, 0)) (wB_ BK339.out) hb); have n1_ := A0_ (below_step (wb1_ HB.out GE339.out) hb); clear BK339; clear HB; have BK339 := n0_; have HB := n1_; clear n0_ n1_; (try clear hb); (try clear hb2); (try clear hk); (try clear hi); have hcz24_0 : w23.cell? ⟨gb339, 0, none⟩ = some (.string a0_0) := (bc_ BK339.out 0).trans rfl; have hcz24_1 : w23.cell? ⟨gb339, 1, none⟩ = some (.string a0_1) := (bc_ BK339.out 1).trans rfl; have hcz24_2 : w23.cell? ⟨gb339, 2, none⟩ = some (.int .u8 a0_2) := (bc_ BK339.out 2).trans rfl; have hcz24_3 : w23.cell? ⟨gb339, 3, none⟩ = some (.int .i64 a0_3) := (bc_ BK339.out 3).trans rfl; have hcz24_4 : w23.cell? ⟨gb339, 4, none⟩ = some (.int .i64 a0_4) := (bc_ BK339.out 4).trans rfl; have hcz24_5 : w23.cell? ⟨gb339, 5, none⟩ = some (.int .i64 a0_5) := (bc_ BK339.out 5).trans rfl; have hcz24_6 : w23.cell? ⟨gb339, 6, none⟩ = some (.int .i64 a0_6) := (bc_ BK339.out 6).trans rfl; have hcz24_7 : w23.cell? ⟨gb339, 7, none⟩ = some (.slice A0_7 l0_7.length c0_7) := (bc_ BK339.out 7).trans rfl; have hfz24_0 := bf_ BK339.out 0; have hfz24_1 := bf_ BK339.out 1; have hfz24_2 := bf_ BK339.out 2; have hfz24_3 := bf_ BK339.out 3; have hfz24_4 := bf_ BK339.out 4; have hfz24_5 := bf_ BK339.out 5; have hfz24_6 := bf_ BK339.out 6; have hfz24_7 := bf_ BK339.out 7))
  go_meet
  case rel => exact ⟨_, (decide ((l0_7.length : Int) > 0)), wr_, H', ⟨by first | omega | exact Nat.le_refl _⟩, ⟨wB_ BK339.out⟩, ⟨wb1_ HB.out GE339.out⟩⟩
 case rest =>
  clear HC2
  try clear c1
  try clear c2
  try clear p2
  try clear c4
  try clear c5
  try clear c7
  try clear c8
  try clear c8b0
  try clear c8b1
  try clear c14
  try clear c14b0
  try clear c14b1
  try clear c29
  try clear hcz11_0
  try clear hcz11_1
  try clear hcz11_2
  try clear hcz11_3
  try clear hcz11_4
  try clear hcz11_5
  try clear hcz11_6
  try clear hcz11_7
  try clear hcz13_0
  try clear hcz13_1
  try clear hcz13_2
  try clear hcz13_3
  try clear hcz13_4
  try clear hcz13_5
  try clear hcz13_6
  try clear hcz13_7
  try clear hcz15_0
  try clear hcz15_1
  try clear hcz15_2
  try clear hcz15_3
  try clear hcz15_4
  try clear hcz15_5
  try clear hcz15_6
  try clear hcz15_7
  try clear hcz17_0
  try clear hcz17_1
  try clear hcz17_2
  try clear hcz17_3
  try clear hcz17_4
  try clear hcz17_5
  try clear hcz17_6
  try clear hcz17_7
  try clear hcz19_0
  try clear hcz19_1
  try clear hcz19_2
  try clear hcz19_3
  try clear hcz19_4
  try clear hcz19_5
  try clear hcz19_6
  try clear hcz19_7
  try clear hcz20_0
  try clear hcz20_1
  try clear hcz20_2
  try clear hcz20_3
  try clear hcz20_4
  try clear hcz20_5
  try clear hcz20_6
  try clear hcz20_7
  try clear hcz22_0
  try clear hcz22_1
  try clear hcz22_2
  try clear hcz22_3
  try clear hcz22_4
  try clear hcz22_5
  try clear hcz22_6
  try clear hcz22_7
  try clear hcz24_0
  try clear hcz24_1
  try clear hcz24_2
  try clear hcz24_3
  try clear hcz24_4
  try clear hcz24_5
  try clear hcz24_6
  try clear hcz24_7
  try clear hcz25_0
  try clear hcz25_1
  try clear hcz25_2
  try clear hcz25_3
  try clear hcz25_4
  try clear hcz25_5
  try clear hcz25_6
  try clear hcz25_7
  try clear hcz27_0
  try clear hcz27_1
  try clear hcz27_2
  try clear hcz27_3
  try clear hcz27_4
  try clear hcz27_5
  try clear hcz27_6
  try clear hcz27_7
  try clear hcz29_0
  try clear hcz29_1
  try clear hcz29_2
  try clear hcz29_3
  try clear hcz29_4
  try clear hcz29_5
  try clear hcz29_6
  try clear hcz29_7
  try clear hcz9_0
  try clear hcz9_1
  try clear hcz9_2
  try clear hcz9_3
  try clear hcz9_4
  try clear hcz9_5
  try clear hcz9_6
  try clear hcz9_7
  try clear hfz11_0
  try clear hfz11_1
  try clear hfz11_2
  try clear hfz11_3
  try clear hfz11_4
  try clear hfz11_5
  try clear hfz11_6
  try clear hfz11_7
  try clear hfz13_0
  try clear hfz13_1
  try clear hfz13_2
  try clear hfz13_3
  try clear hfz13_4
  try clear hfz13_5
  try clear hfz13_6
  try clear hfz13_7
  try clear hfz15_0
  try clear hfz15_1
  try clear hfz15_2
  try clear hfz15_3
  try clear hfz15_4
  try clear hfz15_5
  try clear hfz15_6
  try clear hfz15_7
  try clear hfz17_0
  try clear hfz17_1
  try clear hfz17_2
  try clear hfz17_3
  try clear hfz17_4
  try clear hfz17_5
  try clear hfz17_6
  try clear hfz17_7
  try clear hfz19_0
  try clear hfz19_1
  try clear hfz19_2
  try clear hfz19_3
  try clear hfz19_4
  try clear hfz19_5
  try clear hfz19_6
  try clear hfz19_7
  try clear hfz20_0
  try clear hfz20_1
  try clear hfz20_2
  try clear hfz20_3
  try clear hfz20_4
  try clear hfz20_5
  try clear hfz20_6
  try clear hfz20_7
  try clear hfz22_0
  try clear hfz22_1
  try clear hfz22_2
  try clear hfz22_3
  try clear hfz22_4
  try clear hfz22_5
  try clear hfz22_6
  try clear hfz22_7
  try clear hfz24_0
  try clear hfz24_1
  try clear hfz24_2
  try clear hfz24_3
  try clear hfz24_4
  try clear hfz24_5
  try clear hfz24_6
  try clear hfz24_7
  try clear hfz25_0
  try clear hfz25_1
  try clear hfz25_2
  try clear hfz25_3
  try clear hfz25_4
  try clear hfz25_5
  try clear hfz25_6
  try clear hfz25_7
  try clear hfz27_0
  try clear hfz27_1
  try clear hfz27_2
  try clear hfz27_3
  try clear hfz27_4
  try clear hfz27_5
  try clear hfz27_6
  try clear hfz27_7
  try clear hfz29_0
  try clear hfz29_1
  try clear hfz29_2
  try clear hfz29_3
  try clear hfz29_4
  try clear hfz29_5
  try clear hfz29_6
  try clear hfz29_7
  try clear hfz9_0
  try clear hfz9_1
  try clear hfz9_2
  try clear hfz9_3
  try clear hfz9_4
  try clear hfz9_5
  try clear hfz9_6
  try clear hfz9_7
  obtain ⟨kq, x29_1, rfl, HA, HJ1, BK339, HB⟩ := hcut
  cases kq with
  | zero => exact absurd HA.out (by simp [member_Good.j0])
  | succ kj1 =>
   have H := HA.out
   clear HA
   simp only [member_Good.j0] at H
   by_cases c31 : x29_1 = true
   ·subst c31
    have H1 : (some false) = some r := by rw [if_pos rfl] at H; exact H
    clear H
    have H := H1
    clear H1
    obtain rfl := Option.some.inj H
    go_wp2
    go_ret
    exact ⟨we_, wb1_ HB.out GE339.out⟩
   replace c31 := Bool.eq_false_iff.mpr c31
   subst c31
   have H1 : (if a0_2 = 48 then (member_Good.j1 kj1 a0_2 (a0_2 == 48) a0_0 a0_1 a0_2 a0_3 a0_4 a0_5 a0_6 l0_7) else (member_Good.j1 kj1 a0_2 (a0_2 == 53) a0_0 a0_1 a0_2 a0_3 a0_4 a0_5 a0_6 l0_7)) = some r := by rw [if_neg (show ¬ (false = true) by decide)] at H; exact H
   clear H
   have H := H1
   clear H1
   have HC32 := A0_ H
   clear H
   have hcz33_0 : wc.cell? ⟨gb339, 0, none⟩ = some (.string a0_0) := (bc_ BK339.out 0).trans rfl
   have hcz33_1 : wc.cell? ⟨gb339, 1, none⟩ = some (.string a0_1) := (bc_ BK339.out 1).trans rfl
   have hcz33_2 : wc.cell? ⟨gb339, 2, none⟩ = some (.int .u8 a0_2) := (bc_ BK339.out 2).trans rfl
   have hcz33_3 : wc.cell? ⟨gb339, 3, none⟩ = some (.int .i64 a0_3) := (bc_ BK339.out 3).trans rfl
   have hcz33_4 : wc.cell? ⟨gb339, 4, none⟩ = some (.int .i64 a0_4) := (bc_ BK339.out 4).trans rfl
   have hcz33_5 : wc.cell? ⟨gb339, 5, none⟩ = some (.int .i64 a0_5) := (bc_ BK339.out 5).trans rfl
   have hcz33_6 : wc.cell? ⟨gb339, 6, none⟩ = some (.int .i64 a0_6) := (bc_ BK339.out 6).trans rfl
   have hcz33_7 : wc.cell? ⟨gb339, 7, none⟩ = some (.slice A0_7 l0_7.length c0_7) := (bc_ BK339.out 7).trans rfl
   have hfz33_0 := bf_ BK339.out 0
   have hfz33_1 := bf_ BK339.out 1
   have hfz33_2 := bf_ BK339.out 2
   have hfz33_3 := bf_ BK339.out 3
   have hfz33_4 := bf_ BK339.out 4
   have hfz33_5 := bf_ BK339.out 5
   have hfz33_6 := bf_ BK339.out 6
   have hfz33_7 := bf_ BK339.out 7
   go_upto_if 32 with (fail)
   go_cut [32] (fun v32 wc => ∃ (kq : Nat) (x32_31 : Bool), v32 = .bool x32_31 ∧ Aside0 (member_Good.j1 kq a0_2 x32_31 a0_0 a0_1 a0_2 a0_3 a0_4 a0_5 a0_6 l0_7 = some r) ∧ Aside0 (kq ≤ kj1) ∧ Aside0 (wc.heap[gb339]? = some (.cells #[.string a0_0, .string a0_1, .int .u8 a0_2, .int .i64 a0_3, .int .i64 a0_4, .int .i64 a0_5, .int .i64 a0_6, (.slice A0_7 l0_7.length c0_7)] 43 (0, 0))) ∧ Aside0 (Below w.heap.size w wc))
   case first =>
    have H := HC32.out
    clear HC32
    by_cases c34 : a0_2 = 48
    rotate_left
    ·rw [if_neg c34] at H
     have c34b0 : (a0_2 == 48) = false := beq_eq_false_iff_ne.mpr c34
     have c34b1 : (a0_2 != 48) = true := bne_iff_ne.mpr c34
     (first | rw [c34b0] | (simp only [i64_w, i32_w]; rw [c34b0]) | skip)
     have H' := A0_ H
     clear H
     go_wp2
     go_meet
     case rel => exact ⟨_, ((a0_2 == 53)), wr_, H', ⟨by have := HJ1.out; first | omega | exact Nat.le_refl _⟩, ⟨wB_ BK339.out⟩, ⟨wb1_ HB.out GE339.out⟩⟩
    rw [if_pos c34] at H
    have c34b0 : (a0_2 == 48) = true := beq_iff_eq.mpr c34
    have c34b1 : (a0_2 != 48) = false := bne_eq_false_iff_eq.mpr c34
    clear c34
    (first | rw [c34b0] | (simp only [i64_w, i32_w]; rw [c34b0]) | skip)
    have H' := A0_ H
    clear H
    go_wp2
    go_meet
    case rel => exact ⟨_, ((a0_2 == 48)), wr_, H', ⟨by have := HJ1.out; first | omega | exact Nat.le_refl _⟩, ⟨wB_ BK339.out⟩, ⟨wb1_ HB.out GE339.out⟩⟩
   case rest =>
    clear HC32
    try clear c1
    try clear c2
    try clear p2
    try clear c3
    try clear c4
    try clear c5
    try clear c7
    try clear c8
    try clear c8b0
    try clear c8b1
    try clear c14
    try clear c14b0
    try clear c14b1
    try clear c29
    try clear c31
    try clear c34
    try clear c34b0
    try clear c34b1
    try clear hcz11_0
    try clear hcz11_1
    try clear hcz11_2
    try clear hcz11_3
    try clear hcz11_4
    try clear hcz11_5
    try clear hcz11_6
    try clear hcz11_7
    try clear hcz13_0
    try clear hcz13_1
    try clear hcz13_2
    try clear hcz13_3
    try clear hcz13_4
    try clear hcz13_5
    try clear hcz13_6
    try clear hcz13_7
    try clear hcz15_0
    try clear hcz15_1
    try clear hcz15_2
    try clear hcz15_3
    try clear hcz15_4
    try clear hcz15_5
    try clear hcz15_6
    try clear hcz15_7
    try clear hcz17_0
    try clear hcz17_1
    try clear hcz17_2
    try clear hcz17_3
    try clear hcz17_4
    try clear hcz17_5
    try clear hcz17_6
    try clear hcz17_7
    try clear hcz19_0
    try clear hcz19_1
    try clear hcz19_2
    try clear hcz19_3
    try clear hcz19_4
    try clear hcz19_5
    try clear hcz19_6
    try clear hcz19_7
    try clear hcz20_0
    try clear hcz20_1
    try clear hcz20_2
    try clear hcz20_3
    try clear hcz20_4
    try clear hcz20_5
    try clear hcz20_6
    try clear hcz20_7
    try clear hcz22_0
    try clear hcz22_1
    try clear hcz22_2
    try clear hcz22_3
    try clear hcz22_4
    try clear hcz22_5
    try clear hcz22_6
    try clear hcz22_7
    try clear hcz24_0
    try clear hcz24_1
    try clear hcz24_2
    try clear hcz24_3
    try clear hcz24_4
    try clear hcz24_5
    try clear hcz24_6
    try clear hcz24_7
    try clear hcz25_0
    try clear hcz25_1
    try clear hcz25_2
    try clear hcz25_3
    try clear hcz25_4
    try clear hcz25_5
    try clear hcz25_6
    try clear hcz25_7
    try clear hcz27_0
    try clear hcz27_1
    try clear hcz27_2
    try clear hcz27_3
    try clear hcz27_4
    try clear hcz27_5
    try clear hcz27_6
    try clear hcz27_7
    try clear hcz29_0
    try clear hcz29_1
    try clear hcz29_2
    try clear hcz29_3
    try clear hcz29_4
    try clear hcz29_5
    try clear hcz29_6
    try clear hcz29_7
    try clear hcz33_0
    try clear hcz33_1
    try clear hcz33_2
    try clear hcz33_3
    try clear hcz33_4
    try clear hcz33_5
    try clear hcz33_6
    try clear hcz33_7
    try clear hcz9_0
    try clear hcz9_1
    try clear hcz9_2
    try clear hcz9_3
    try clear hcz9_4
    try clear hcz9_5
    try clear hcz9_6
    try clear hcz9_7
    try clear hfz11_0
    try clear hfz11_1
    try clear hfz11_2
    try clear hfz11_3
    try clear hfz11_4
    try clear hfz11_5
    try clear hfz11_6
    try clear hfz11_7
    try clear hfz13_0
    try clear hfz13_1
    try clear hfz13_2
    try clear hfz13_3
    try clear hfz13_4
    try clear hfz13_5
    try clear hfz13_6
    try clear hfz13_7
    try clear hfz15_0
    try clear hfz15_1
    try clear hfz15_2
    try clear hfz15_3
    try clear hfz15_4
    try clear hfz15_5
    try clear hfz15_6
    try clear hfz15_7
    try clear hfz17_0
    try clear hfz17_1
    try clear hfz17_2
    try clear hfz17_3
    try clear hfz17_4
    try clear hfz17_5
    try clear hfz17_6
    try clear hfz17_7
    try clear hfz19_0
    try clear hfz19_1
    try clear hfz19_2
    try clear hfz19_3
    try clear hfz19_4
    try clear hfz19_5
    try clear hfz19_6
    try clear hfz19_7
    try clear hfz20_0
    try clear hfz20_1
    try clear hfz20_2
    try clear hfz20_3
    try clear hfz20_4
    try clear hfz20_5
    try clear hfz20_6
    try clear hfz20_7
    try clear hfz22_0
    try clear hfz22_1
    try clear hfz22_2
    try clear hfz22_3
    try clear hfz22_4
    try clear hfz22_5
    try clear hfz22_6
    try clear hfz22_7
    try clear hfz24_0
    try clear hfz24_1
    try clear hfz24_2
    try clear hfz24_3
    try clear hfz24_4
    try clear hfz24_5
    try clear hfz24_6
    try clear hfz24_7
    try clear hfz25_0
    try clear hfz25_1
    try clear hfz25_2
    try clear hfz25_3
    try clear hfz25_4
    try clear hfz25_5
    try clear hfz25_6
    try clear hfz25_7
    try clear hfz27_0
    try clear hfz27_1
    try clear hfz27_2
    try clear hfz27_3
    try clear hfz27_4
    try clear hfz27_5
    try clear hfz27_6
    try clear hfz27_7
    try clear hfz29_0
    try clear hfz29_1
    try clear hfz29_2
    try clear hfz29_3
    try clear hfz29_4
    try clear hfz29_5
    try clear hfz29_6
    try clear hfz29_7
    try clear hfz33_0
    try clear hfz33_1
    try clear hfz33_2
    try clear hfz33_3
    try clear hfz33_4
    try clear hfz33_5
    try clear hfz33_6
    try clear hfz33_7
    try clear hfz9_0
    try clear hfz9_1
    try clear hfz9_2
    try clear hfz9_3
    try clear hfz9_4
    try clear hfz9_5
    try clear hfz9_6
    try clear hfz9_7
    try clear p2
    obtain ⟨kq, x32_31, rfl, HA, HJ31, BK339, HB⟩ := hcut
    cases kq with
    | zero => exact absurd HA.out (by simp [member_Good.j1])
    | succ kj31 =>
     have H := HA.out
     clear HA
     simp only [member_Good.j1] at H
     by_cases c35 : x32_31 = true
     ·subst c35
      have H1 : (some (a0_1.toList == ([] : List UInt8))) = some r := by rw [if_pos rfl] at H; exact H
      clear H
      have H := H1
      clear H1
      obtain rfl := Option.some.inj H
      have hcz36_0 : wc.cell? ⟨gb339, 0, none⟩ = some (.string a0_0) := (bc_ BK339.out 0).trans rfl
      have hcz36_1 : wc.cell? ⟨gb339, 1, none⟩ = some (.string a0_1) := (bc_ BK339.out 1).trans rfl
      have hcz36_2 : wc.cell? ⟨gb339, 2, none⟩ = some (.int .u8 a0_2) := (bc_ BK339.out 2).trans rfl
      have hcz36_3 : wc.cell? ⟨gb339, 3, none⟩ = some (.int .i64 a0_3) := (bc_ BK339.out 3).trans rfl
      have hcz36_4 : wc.cell? ⟨gb339, 4, none⟩ = some (.int .i64 a0_4) := (bc_ BK339.out 4).trans rfl
      have hcz36_5 : wc.cell? ⟨gb339, 5, none⟩ = some (.int .i64 a0_5) := (bc_ BK339.out 5).trans rfl
      have hcz36_6 : wc.cell? ⟨gb339, 6, none⟩ = some (.int .i64 a0_6) := (bc_ BK339.out 6).trans rfl
      have hcz36_7 : wc.cell? ⟨gb339, 7, none⟩ = some (.slice A0_7 l0_7.length c0_7) := (bc_ BK339.out 7).trans rfl
      have hfz36_0 := bf_ BK339.out 0
      have hfz36_1 := bf_ BK339.out 1
      have hfz36_2 := bf_ BK339.out 2
      have hfz36_3 := bf_ BK339.out 3
      have hfz36_4 := bf_ BK339.out 4
      have hfz36_5 := bf_ BK339.out 5
      have hfz36_6 := bf_ BK339.out 6
      have hfz36_7 := bf_ BK339.out 7
      go_wp2
      go_ret
      exact ⟨we_, wb1_ HB.out GE339.out⟩
     replace c35 := Bool.eq_false_iff.mpr c35
     subst c35
     have H1 : (if a0_2 = 49 then ((member_clean.f a0_1).bind fun t342 => (some t342)) else (if a0_2 = 50 then ((path_Target.f a0_1).bind fun t343 => (some (t343 == 0))) else (some false))) = some r := by rw [if_neg (show ¬ (false = true) by decide)] at H; exact H
     clear H
     have H := H1
     clear H1
     by_cases c37 : a0_2 = 49
     ·rw [if_pos c37] at H
      have c37b0 : (a0_2 == 49) = true := beq_iff_eq.mpr c37
      have c37b1 : (a0_2 != 49) = false := bne_eq_false_iff_eq.mpr c37
      clear c37
      replace H := Option.bind_eq_some_iff.mp H
      obtain ⟨t342, A380, H⟩ := H
      replace H : (some t342) = some r := H
      have A38 := A0_ A380
      clear A380
      obtain rfl := Option.some.inj H
      have hcz39_0 : wc.cell? ⟨gb339, 0, none⟩ = some (.string a0_0) := (bc_ BK339.out 0).trans rfl
      have hcz39_1 : wc.cell? ⟨gb339, 1, none⟩ = some (.string a0_1) := (bc_ BK339.out 1).trans rfl
      have hcz39_2 : wc.cell? ⟨gb339, 2, none⟩ = some (.int .u8 a0_2) := (bc_ BK339.out 2).trans rfl
      have hcz39_3 : wc.cell? ⟨gb339, 3, none⟩ = some (.int .i64 a0_3) := (bc_ BK339.out 3).trans rfl
      have hcz39_4 : wc.cell? ⟨gb339, 4, none⟩ = some (.int .i64 a0_4) := (bc_ BK339.out 4).trans rfl
      have hcz39_5 : wc.cell? ⟨gb339, 5, none⟩ = some (.int .i64 a0_5) := (bc_ BK339.out 5).trans rfl
      have hcz39_6 : wc.cell? ⟨gb339, 6, none⟩ = some (.int .i64 a0_6) := (bc_ BK339.out 6).trans rfl
      have hcz39_7 : wc.cell? ⟨gb339, 7, none⟩ = some (.slice A0_7 l0_7.length c0_7) := (bc_ BK339.out 7).trans rfl
      have hfz39_0 := bf_ BK339.out 0
      have hfz39_1 := bf_ BK339.out 1
      have hfz39_2 := bf_ BK339.out 2
      have hfz39_3 := bf_ BK339.out 3
      have hfz39_4 := bf_ BK339.out 4
      have hfz39_5 := bf_ BK339.out 5
      have hfz39_6 := bf_ BK339.out 6
      have hfz39_7 := bf_ BK339.out 7
      go_wp2_with (first | ((with_reducible refine gate_callee (f := 40) rfl ?_); refine goesL_ (some 42) rfl rfl Tryz.func40 (by kernel_rfl) rfl #[.string a0_1] rfl wm_ ?_; (with_reducible refine (member_clean.calls a0_1 t342 _ ?side1 A38.out).mono ?_); (case side1 => exact A0_ (Tabs.below hT.out (wb1_ HB.out GE339.out))); rintro e w40 ⟨rfl, hb⟩; refine ⟨_, rfl, ?_⟩; have n0_ := A0_ (blk_below (g := gb339) (o := .cells #[.string a0_0, .string a0_1, .int .u8 a0_2, .int .i64 a0_3, .int .i64 a0_4, .int .i64 a0_5, .int .i64 a0_6, .slice A0_7 l0_7.length c0_7] 43 (0, 0)) (wB_ BK339.out) hb); have n1_ := A0_ (below_step (wb1_ HB.out GE339.out) hb); clear BK339; clear HB; have BK339 := n0_; have HB := n1_; clear n0_ n1_; (try clear hb); (try clear hb2); (try clear hk); (try clear hi)))
      go_ret
      exact ⟨we_, wb1_ HB.out GE339.out⟩
     rw [if_neg c37] at H
     have c37b0 : (a0_2 == 49) = false := beq_eq_false_iff_ne.mpr c37
     have c37b1 : (a0_2 != 49) = true := bne_iff_ne.mpr c37
     by_cases c41 : a0_2 = 50
     rotate_left
     ·rw [if_neg c41] at H
      have c41b0 : (a0_2 == 50) = false := beq_eq_false_iff_ne.mpr c41
      have c41b1 : (a0_2 != 50) = true := bne_iff_ne.mpr c41
      obtain rfl := Option.some.inj H
      go_wp2
      go_ret
      exact ⟨we_, wb1_ HB.out GE339.out⟩
     rw [if_pos c41] at H
     have c41b0 : (a0_2 == 50) = true := beq_iff_eq.mpr c41
     have c41b1 : (a0_2 != 50) = false := bne_eq_false_iff_eq.mpr c41
     clear c41
     replace H := Option.bind_eq_some_iff.mp H
     obtain ⟨t343, A420, H⟩ := H
     replace H : (some (t343 == 0)) = some r := H
     have A42 := A0_ A420
     clear A420
     obtain rfl := Option.some.inj H
     have hcz43_0 : wc.cell? ⟨gb339, 0, none⟩ = some (.string a0_0) := (bc_ BK339.out 0).trans rfl
     have hcz43_1 : wc.cell? ⟨gb339, 1, none⟩ = some (.string a0_1) := (bc_ BK339.out 1).trans rfl
     have hcz43_2 : wc.cell? ⟨gb339, 2, none⟩ = some (.int .u8 a0_2) := (bc_ BK339.out 2).trans rfl
     have hcz43_3 : wc.cell? ⟨gb339, 3, none⟩ = some (.int .i64 a0_3) := (bc_ BK339.out 3).trans rfl
     have hcz43_4 : wc.cell? ⟨gb339, 4, none⟩ = some (.int .i64 a0_4) := (bc_ BK339.out 4).trans rfl
     have hcz43_5 : wc.cell? ⟨gb339, 5, none⟩ = some (.int .i64 a0_5) := (bc_ BK339.out 5).trans rfl
     have hcz43_6 : wc.cell? ⟨gb339, 6, none⟩ = some (.int .i64 a0_6) := (bc_ BK339.out 6).trans rfl
     have hcz43_7 : wc.cell? ⟨gb339, 7, none⟩ = some (.slice A0_7 l0_7.length c0_7) := (bc_ BK339.out 7).trans rfl
     have hfz43_0 := bf_ BK339.out 0
     have hfz43_1 := bf_ BK339.out 1
     have hfz43_2 := bf_ BK339.out 2
     have hfz43_3 := bf_ BK339.out 3
     have hfz43_4 := bf_ BK339.out 4
     have hfz43_5 := bf_ BK339.out 5
     have hfz43_6 := bf_ BK339.out 6
     have hfz43_7 := bf_ BK339.out 7
     go_wp2_with (first | ((with_reducible refine gate_callee (f := 42) rfl ?_); refine goesL_ (some 47) rfl rfl Tryz.func42 (by kernel_rfl) rfl #[.string a0_1] rfl wm_ ?_; (with_reducible refine (path_Target.calls a0_1 t343 _ ?side1 A42.out).mono ?_); (case side1 => exact A0_ (Tabs.below hT.out (wb1_ HB.out GE339.out))); rintro e w44 ⟨rfl, hb⟩; refine ⟨_, rfl, ?_⟩; have n0_ := A0_ (blk_below (g := gb339) (o := .cells #[.string a0_0, .string a0_1, .int .u8 a0_2, .int .i64 a0_3, .int .i64 a0_4, .int .i64 a0_5, .int .i64 a0_6, .slice A0_7 l0_7.length c0_7] 43 (0, 0)) (wB_ BK339.out) hb); have n1_ := A0_ (below_step (wb1_ HB.out GE339.out) hb); clear BK339; clear HB; have BK339 := n0_; have HB := n1_; clear n0_ n1_; (try clear hb); (try clear hb2); (try clear hk); (try clear hi)))
     go_ret
     exact ⟨we_, wb1_ HB.out GE339.out⟩
end Go.Proofs.YtiijbmaamblidaaGreatDoor.Print

namespace Go.Proofs.YtiijbmaamblidaaGreatDoor.Print
open Go.RowKit Go.Proofs.YtiijbmaamblidaaGreatDoorW.PrintWords Go.Proofs.YtiijbmaamblidaaGreatDoorW.PrintLast Go.Proofs.YtiijbmaamblidaaGreatDoorW.PrintMore
attribute [local go_sem] max2_int min2_int max_two min_two max_three min_three max_four min_four   -- for this text's walks alone
set_option linter.unusedVariables false
set_option linter.unusedSimpArgs false
def bindleref08_clean.f (k : Nat) (a0 : ByteArray) : Option (Bool) := (bindleref01_Clean.f k a0).bind fun bt346 => (if bt346.2 = 0 then (some (a0.toList == bt346.1.toList)) else (some false))
set_option maxHeartbeats 8000000 in
set_option maxRecDepth 100000 in
theorem bindleref08_clean.calls (k : Nat) (a0 : ByteArray) (r : Bool) (w : World) (h : bindleref08_clean.f k a0 = some r) :
  Calls Tryz.prog 34 #[.string a0] w fun e w' => e = .returned (.bool r) ∧ Drawn0 w w' := by
 have H : ((bindleref01_Clean.f k a0).bind fun bt346 => (if bt346.2 = 0 then (some (a0.toList == bt346.1.toList)) else (some false))) = some r := h
 clear h
 replace H := Option.bind_eq_some_iff.mp H
 obtain ⟨⟨t346, t347⟩, A20, H⟩ := H
 replace H : (if t347 = 0 then (some (a0.toList == t346.toList)) else (some false)) = some r := H
 have A2 := A0_ A20
 clear A20
 by_cases c3 : t347 = 0
 rotate_left
 ·rw [if_neg c3] at H
  have c3b0 : (t347 == 0) = false := beq_eq_false_iff_ne.mpr c3
  have c3b1 : (t347 != 0) = true := bne_iff_ne.mpr c3
  obtain rfl := Option.some.inj H
  go_enter Tryz.func34, Tryz.ntmps34
  go_wp2_with (first | ((with_reducible refine gate_callee (f := 49) rfl ?_); refine goesL_ (some 7) rfl rfl Tryz.func49 (by kernel_rfl) rfl #[.string a0] rfl wm_ ?_; (with_reducible refine (bindleref01_Clean.calls k a0 t346 t347 _ A2.out).mono ?_); rintro e w' ⟨rfl, ⟨nd, rfl⟩⟩; refine ⟨_, rfl, ?_⟩))
  go_ret
  exact ⟨by first | rfl | (simp; done) | (simp [*]; done), by repeat (first | exact Drawn0.refl _ | apply Drawn0.step)⟩
 rw [if_pos c3] at H
 have c3b0 : (t347 == 0) = true := beq_iff_eq.mpr c3
 have c3b1 : (t347 != 0) = false := bne_eq_false_iff_eq.mpr c3
 clear c3
 obtain rfl := Option.some.inj H
 go_enter Tryz.func34, Tryz.ntmps34
 go_wp2_with (first | ((with_reducible refine gate_callee (f := 49) rfl ?_); refine goesL_ (some 7) rfl rfl Tryz.func49 (by kernel_rfl) rfl #[.string a0] rfl wm_ ?_; (with_reducible refine (bindleref01_Clean.calls k a0 t346 t347 _ A2.out).mono ?_); rintro e w' ⟨rfl, ⟨nd, rfl⟩⟩; refine ⟨_, rfl, ?_⟩))
 go_ret
 exact ⟨by first | rfl | (simp; done) | (simp [*]; done), by repeat (first | exact Drawn0.refl _ | apply Drawn0.step)⟩
end Go.Proofs.YtiijbmaamblidaaGreatDoor.Print

namespace Go.Proofs.YtiijbmaamblidaaGreatDoor.Print
open Go.RowKit Go.Proofs.YtiijbmaamblidaaGreatDoorW.PrintWords Go.Proofs.YtiijbmaamblidaaGreatDoorW.PrintLast Go.Proofs.YtiijbmaamblidaaGreatDoorW.PrintMore
attribute [local go_sem] max2_int min2_int max_two min_two max_three min_three max_four min_four   -- for this text's walks alone
set_option linter.unusedVariables false
set_option linter.unusedSimpArgs false
def bindleref08_Meta.f (a0_0 : Int) (a0_1 : Int) (a0_2 : Int) (a0_3 : Int) : Option (Bool) := if a0_0 ≥ 0 then (if a0_0 ≤ 4095 then (if a0_1 ≥ 0 then (if a0_1 < 2147483648 then (if a0_2 ≥ 0 then (if a0_2 < 2147483648 then (if a0_3 ≥ 0 then (some (decide (a0_3 ≤ 1099511627776))) else (some false)) else (some false)) else (some false)) else (some false)) else (some false)) else (some false)) else (some false)
set_option maxHeartbeats 8000000 in
set_option maxRecDepth 100000 in
theorem bindleref08_Meta.calls (a0_0 : Int) (a0_1 : Int) (a0_2 : Int) (a0_3 : Int) (r : Bool) (w : World) (h : bindleref08_Meta.f a0_0 a0_1 a0_2 a0_3 = some r) :
  Calls Tryz.prog 35 #[.agg #[.int .i64 a0_0, .int .i64 a0_1, .int .i64 a0_2, .int .i64 a0_3]] w fun e w' => e = .returned (.bool r) ∧ Below w.heap.size w w' := by
 have hu40 := Tryz.underlying40
 have HB := A0_ (Below.refl w.heap.size w)
 have H : (if a0_0 ≥ 0 then (if a0_0 ≤ 4095 then (if a0_1 ≥ 0 then (if a0_1 < 2147483648 then (if a0_2 ≥ 0 then (if a0_2 < 2147483648 then (if a0_3 ≥ 0 then (some (decide (a0_3 ≤ 1099511627776))) else (some false)) else (some false)) else (some false)) else (some false)) else (some false)) else (some false)) else (some false)) = some r := h
 clear h
 by_cases c2 : a0_0 ≥ 0
 rotate_left
 ·rw [if_neg c2] at H
  have c2b0 : decide (0 ≤ a0_0) = false := decide_eq_false c2
  clear c2
  obtain rfl := Option.some.inj H
  go_enter Tryz.func35, Tryz.ntmps35
  go_wp2_with (first | ((with_reducible refine gate_dst (N := 1) rfl ?_); refine box_event ?hg (N := 1) ?hd (cs := #[.int .i64 a0_0, .int .i64 a0_1, .int .i64 a0_2, .int .i64 a0_3]) (t := 40) ?hr ?_; (case hd => rfl); (case hg => rfl); (case hr => first | (go_simp; done) | (go_simp; rfl)); intro gb348 hg w23 hbox hb; have n0_ := A0_ (below_step (wb_ HB.out) hb); have n1_ := A0_ (hbox); have n2_ := A0_ ((by rw [hg]; exact (below_size (wb_ HB.out)) : w.heap.size ≤ gb348)); have n3_ := A0_ ((by rw [hg]; exact (below_size (wb_ HB.out)) : w.heap.size ≤ gb348)); clear HB; have HB := n0_; have BK348 := n1_; have GW348 := n2_; have GE348 := n3_; clear n0_ n1_ n2_ n3_; clear hb hbox hg; have hcz24_0 : w23.cell? ⟨gb348, 0, none⟩ = some (.int .i64 a0_0) := (bc_ BK348.out 0).trans rfl; have hcz24_1 : w23.cell? ⟨gb348, 1, none⟩ = some (.int .i64 a0_1) := (bc_ BK348.out 1).trans rfl; have hcz24_2 : w23.cell? ⟨gb348, 2, none⟩ = some (.int .i64 a0_2) := (bc_ BK348.out 2).trans rfl; have hcz24_3 : w23.cell? ⟨gb348, 3, none⟩ = some (.int .i64 a0_3) := (bc_ BK348.out 3).trans rfl; have hfz24_0 := bf_ BK348.out 0; have hfz24_1 := bf_ BK348.out 1; have hfz24_2 := bf_ BK348.out 2; have hfz24_3 := bf_ BK348.out 3))
  go_ret
  exact ⟨we_, wb1_ HB.out GE348.out⟩
 rw [if_pos c2] at H
 have c2b0 : decide (0 ≤ a0_0) = true := decide_eq_true c2
 clear c2
 by_cases c3 : a0_0 ≤ 4095
 rotate_left
 ·rw [if_neg c3] at H
  have c3b0 : decide (a0_0 ≤ 4095) = false := decide_eq_false c3
  clear c3
  obtain rfl := Option.some.inj H
  go_enter Tryz.func35, Tryz.ntmps35
  go_wp2_with (first | ((with_reducible refine gate_dst (N := 1) rfl ?_); refine box_event ?hg (N := 1) ?hd (cs := #[.int .i64 a0_0, .int .i64 a0_1, .int .i64 a0_2, .int .i64 a0_3]) (t := 40) ?hr ?_; (case hd => rfl); (case hg => rfl); (case hr => first | (go_simp; done) | (go_simp; rfl)); intro gb348 hg w21 hbox hb; have n0_ := A0_ (below_step (wb_ HB.out) hb); have n1_ := A0_ (hbox); have n2_ := A0_ ((by rw [hg]; exact (below_size (wb_ HB.out)) : w.heap.size ≤ gb348)); have n3_ := A0_ ((by rw [hg]; exact (below_size (wb_ HB.out)) : w.heap.size ≤ gb348)); clear HB; have HB := n0_; have BK348 := n1_; have GW348 := n2_; have GE348 := n3_; clear n0_ n1_ n2_ n3_; clear hb hbox hg; have hcz22_0 : w21.cell? ⟨gb348, 0, none⟩ = some (.int .i64 a0_0) := (bc_ BK348.out 0).trans rfl; have hcz22_1 : w21.cell? ⟨gb348, 1, none⟩ = some (.int .i64 a0_1) := (bc_ BK348.out 1).trans rfl; have hcz22_2 : w21.cell? ⟨gb348, 2, none⟩ = some (.int .i64 a0_2) := (bc_ BK348.out 2).trans rfl; have hcz22_3 : w21.cell? ⟨gb348, 3, none⟩ = some (.int .i64 a0_3) := (bc_ BK348.out 3).trans rfl; have hfz22_0 := bf_ BK348.out 0; have hfz22_1 := bf_ BK348.out 1; have hfz22_2 := bf_ BK348.out 2; have hfz22_3 := bf_ BK348.out 3))
  go_ret
  exact ⟨we_, wb1_ HB.out GE348.out⟩
 rw [if_pos c3] at H
 have c3b0 : decide (a0_0 ≤ 4095) = true := decide_eq_true c3
 clear c3
 by_cases c4 : a0_1 ≥ 0
 rotate_left
 ·rw [if_neg c4] at H
  have c4b0 : decide (0 ≤ a0_1) = false := decide_eq_false c4
  clear c4
  obtain rfl := Option.some.inj H
  go_enter Tryz.func35, Tryz.ntmps35
  go_wp2_with (first | ((with_reducible refine gate_dst (N := 1) rfl ?_); refine box_event ?hg (N := 1) ?hd (cs := #[.int .i64 a0_0, .int .i64 a0_1, .int .i64 a0_2, .int .i64 a0_3]) (t := 40) ?hr ?_; (case hd => rfl); (case hg => rfl); (case hr => first | (go_simp; done) | (go_simp; rfl)); intro gb348 hg w19 hbox hb; have n0_ := A0_ (below_step (wb_ HB.out) hb); have n1_ := A0_ (hbox); have n2_ := A0_ ((by rw [hg]; exact (below_size (wb_ HB.out)) : w.heap.size ≤ gb348)); have n3_ := A0_ ((by rw [hg]; exact (below_size (wb_ HB.out)) : w.heap.size ≤ gb348)); clear HB; have HB := n0_; have BK348 := n1_; have GW348 := n2_; have GE348 := n3_; clear n0_ n1_ n2_ n3_; clear hb hbox hg; have hcz20_0 : w19.cell? ⟨gb348, 0, none⟩ = some (.int .i64 a0_0) := (bc_ BK348.out 0).trans rfl; have hcz20_1 : w19.cell? ⟨gb348, 1, none⟩ = some (.int .i64 a0_1) := (bc_ BK348.out 1).trans rfl; have hcz20_2 : w19.cell? ⟨gb348, 2, none⟩ = some (.int .i64 a0_2) := (bc_ BK348.out 2).trans rfl; have hcz20_3 : w19.cell? ⟨gb348, 3, none⟩ = some (.int .i64 a0_3) := (bc_ BK348.out 3).trans rfl; have hfz20_0 := bf_ BK348.out 0; have hfz20_1 := bf_ BK348.out 1; have hfz20_2 := bf_ BK348.out 2; have hfz20_3 := bf_ BK348.out 3))
  go_ret
  exact ⟨we_, wb1_ HB.out GE348.out⟩
 rw [if_pos c4] at H
 have c4b0 : decide (0 ≤ a0_1) = true := decide_eq_true c4
 clear c4
 by_cases c5 : a0_1 < 2147483648
 rotate_left
 ·rw [if_neg c5] at H
  have c5b0 : decide (a0_1 < 2147483648) = false := decide_eq_false c5
  clear c5
  obtain rfl := Option.some.inj H
  go_enter Tryz.func35, Tryz.ntmps35
  go_wp2_with (first | ((with_reducible refine gate_dst (N := 1) rfl ?_); refine box_event ?hg (N := 1) ?hd (cs := #[.int .i64 a0_0, .int .i64 a0_1, .int .i64 a0_2, .int .i64 a0_3]) (t := 40) ?hr ?_; (case hd => rfl); (case hg => rfl); (case hr => first | (go_simp; done) | (go_simp; rfl)); intro gb348 hg w17 hbox hb; have n0_ := A0_ (below_step (wb_ HB.out) hb); have n1_ := A0_ (hbox); have n2_ := A0_ ((by rw [hg]; exact (below_size (wb_ HB.out)) : w.heap.size ≤ gb348)); have n3_ := A0_ ((by rw [hg]; exact (below_size (wb_ HB.out)) : w.heap.size ≤ gb348)); clear HB; have HB := n0_; have BK348 := n1_; have GW348 := n2_; have GE348 := n3_; clear n0_ n1_ n2_ n3_; clear hb hbox hg; have hcz18_0 : w17.cell? ⟨gb348, 0, none⟩ = some (.int .i64 a0_0) := (bc_ BK348.out 0).trans rfl; have hcz18_1 : w17.cell? ⟨gb348, 1, none⟩ = some (.int .i64 a0_1) := (bc_ BK348.out 1).trans rfl; have hcz18_2 : w17.cell? ⟨gb348, 2, none⟩ = some (.int .i64 a0_2) := (bc_ BK348.out 2).trans rfl; have hcz18_3 : w17.cell? ⟨gb348, 3, none⟩ = some (.int .i64 a0_3) := (bc_ BK348.out 3).trans rfl; have hfz18_0 := bf_ BK348.out 0; have hfz18_1 := bf_ BK348.out 1; have hfz18_2 := bf_ BK348.out 2; have hfz18_3 := bf_ BK348.out 3))
  go_ret
  exact ⟨we_, wb1_ HB.out GE348.out⟩
 rw [if_pos c5] at H
 have c5b0 : decide (a0_1 < 2147483648) = true := decide_eq_true c5
 clear c5
 by_cases c6 : a0_2 ≥ 0
 rotate_left
 ·rw [if_neg c6] at H
  have c6b0 : decide (0 ≤ a0_2) = false := decide_eq_false c6
  clear c6
  obtain rfl := Option.some.inj H
  go_enter Tryz.func35, Tryz.ntmps35
  go_wp2_with (first | ((with_reducible refine gate_dst (N := 1) rfl ?_); refine box_event ?hg (N := 1) ?hd (cs := #[.int .i64 a0_0, .int .i64 a0_1, .int .i64 a0_2, .int .i64 a0_3]) (t := 40) ?hr ?_; (case hd => rfl); (case hg => rfl); (case hr => first | (go_simp; done) | (go_simp; rfl)); intro gb348 hg w15 hbox hb; have n0_ := A0_ (below_step (wb_ HB.out) hb); have n1_ := A0_ (hbox); have n2_ := A0_ ((by rw [hg]; exact (below_size (wb_ HB.out)) : w.heap.size ≤ gb348)); have n3_ := A0_ ((by rw [hg]; exact (below_size (wb_ HB.out)) : w.heap.size ≤ gb348)); clear HB; have HB := n0_; have BK348 := n1_; have GW348 := n2_; have GE348 := n3_; clear n0_ n1_ n2_ n3_; clear hb hbox hg; have hcz16_0 : w15.cell? ⟨gb348, 0, none⟩ = some (.int .i64 a0_0) := (bc_ BK348.out 0).trans rfl; have hcz16_1 : w15.cell? ⟨gb348, 1, none⟩ = some (.int .i64 a0_1) := (bc_ BK348.out 1).trans rfl; have hcz16_2 : w15.cell? ⟨gb348, 2, none⟩ = some (.int .i64 a0_2) := (bc_ BK348.out 2).trans rfl; have hcz16_3 : w15.cell? ⟨gb348, 3, none⟩ = some (.int .i64 a0_3) := (bc_ BK348.out 3).trans rfl; have hfz16_0 := bf_ BK348.out 0; have hfz16_1 := bf_ BK348.out 1; have hfz16_2 := bf_ BK348.out 2; have hfz16_3 := bf_ BK348.out 3))
  go_ret
  exact ⟨we_, wb1_ HB.out GE348.out⟩
 rw [if_pos c6] at H
 have c6b0 : decide (0 ≤ a0_2) = true := decide_eq_true c6
 clear c6
 by_cases c7 : a0_2 < 2147483648
 rotate_left
 ·rw [if_neg c7] at H
  have c7b0 : decide (a0_2 < 2147483648) = false := decide_eq_false c7
  clear c7
  obtain rfl := Option.some.inj H
  go_enter Tryz.func35, Tryz.ntmps35
  go_wp2_with (first | ((with_reducible refine gate_dst (N := 1) rfl ?_); refine box_event ?hg (N := 1) ?hd (cs := #[.int .i64 a0_0, .int .i64 a0_1, .int .i64 a0_2, .int .i64 a0_3]) (t := 40) ?hr ?_; (case hd => rfl); (case hg => rfl); (case hr => first | (go_simp; done) | (go_simp; rfl)); intro gb348 hg w13 hbox hb; have n0_ := A0_ (below_step (wb_ HB.out) hb); have n1_ := A0_ (hbox); have n2_ := A0_ ((by rw [hg]; exact (below_size (wb_ HB.out)) : w.heap.size ≤ gb348)); have n3_ := A0_ ((by rw [hg]; exact (below_size (wb_ HB.out)) : w.heap.size ≤ gb348)); clear HB; have HB := n0_; have BK348 := n1_; have GW348 := n2_; have GE348 := n3_; clear n0_ n1_ n2_ n3_; clear hb hbox hg; have hcz14_0 : w13.cell? ⟨gb348, 0, none⟩ = some (.int .i64 a0_0) := (bc_ BK348.out 0).trans rfl; have hcz14_1 : w13.cell? ⟨gb348, 1, none⟩ = some (.int .i64 a0_1) := (bc_ BK348.out 1).trans rfl; have hcz14_2 : w13.cell? ⟨gb348, 2, none⟩ = some (.int .i64 a0_2) := (bc_ BK348.out 2).trans rfl; have hcz14_3 : w13.cell? ⟨gb348, 3, none⟩ = some (.int .i64 a0_3) := (bc_ BK348.out 3).trans rfl; have hfz14_0 := bf_ BK348.out 0; have hfz14_1 := bf_ BK348.out 1; have hfz14_2 := bf_ BK348.out 2; have hfz14_3 := bf_ BK348.out 3))
  go_ret
  exact ⟨we_, wb1_ HB.out GE348.out⟩
 rw [if_pos c7] at H
 have c7b0 : decide (a0_2 < 2147483648) = true := decide_eq_true c7
 clear c7
 by_cases c8 : a0_3 ≥ 0
 ·rw [if_pos c8] at H
  have c8b0 : decide (0 ≤ a0_3) = true := decide_eq_true c8
  clear c8
  obtain rfl := Option.some.inj H
  go_enter Tryz.func35, Tryz.ntmps35
  go_wp2_with (first | ((with_reducible refine gate_dst (N := 1) rfl ?_); refine box_event ?hg (N := 1) ?hd (cs := #[.int .i64 a0_0, .int .i64 a0_1, .int .i64 a0_2, .int .i64 a0_3]) (t := 40) ?hr ?_; (case hd => rfl); (case hg => rfl); (case hr => first | (go_simp; done) | (go_simp; rfl)); intro gb348 hg w9 hbox hb; have n0_ := A0_ (below_step (wb_ HB.out) hb); have n1_ := A0_ (hbox); have n2_ := A0_ ((by rw [hg]; exact (below_size (wb_ HB.out)) : w.heap.size ≤ gb348)); have n3_ := A0_ ((by rw [hg]; exact (below_size (wb_ HB.out)) : w.heap.size ≤ gb348)); clear HB; have HB := n0_; have BK348 := n1_; have GW348 := n2_; have GE348 := n3_; clear n0_ n1_ n2_ n3_; clear hb hbox hg; have hcz10_0 : w9.cell? ⟨gb348, 0, none⟩ = some (.int .i64 a0_0) := (bc_ BK348.out 0).trans rfl; have hcz10_1 : w9.cell? ⟨gb348, 1, none⟩ = some (.int .i64 a0_1) := (bc_ BK348.out 1).trans rfl; have hcz10_2 : w9.cell? ⟨gb348, 2, none⟩ = some (.int .i64 a0_2) := (bc_ BK348.out 2).trans rfl; have hcz10_3 : w9.cell? ⟨gb348, 3, none⟩ = some (.int .i64 a0_3) := (bc_ BK348.out 3).trans rfl; have hfz10_0 := bf_ BK348.out 0; have hfz10_1 := bf_ BK348.out 1; have hfz10_2 := bf_ BK348.out 2; have hfz10_3 := bf_ BK348.out 3))
  go_ret
  exact ⟨we_, wb1_ HB.out GE348.out⟩
 rw [if_neg c8] at H
 have c8b0 : decide (0 ≤ a0_3) = false := decide_eq_false c8
 clear c8
 obtain rfl := Option.some.inj H
 go_enter Tryz.func35, Tryz.ntmps35
 go_wp2_with (first | ((with_reducible refine gate_dst (N := 1) rfl ?_); refine box_event ?hg (N := 1) ?hd (cs := #[.int .i64 a0_0, .int .i64 a0_1, .int .i64 a0_2, .int .i64 a0_3]) (t := 40) ?hr ?_; (case hd => rfl); (case hg => rfl); (case hr => first | (go_simp; done) | (go_simp; rfl)); intro gb348 hg w11 hbox hb; have n0_ := A0_ (below_step (wb_ HB.out) hb); have n1_ := A0_ (hbox); have n2_ := A0_ ((by rw [hg]; exact (below_size (wb_ HB.out)) : w.heap.size ≤ gb348)); have n3_ := A0_ ((by rw [hg]; exact (below_size (wb_ HB.out)) : w.heap.size ≤ gb348)); clear HB; have HB := n0_; have BK348 := n1_; have GW348 := n2_; have GE348 := n3_; clear n0_ n1_ n2_ n3_; clear hb hbox hg; have hcz12_0 : w11.cell? ⟨gb348, 0, none⟩ = some (.int .i64 a0_0) := (bc_ BK348.out 0).trans rfl; have hcz12_1 : w11.cell? ⟨gb348, 1, none⟩ = some (.int .i64 a0_1) := (bc_ BK348.out 1).trans rfl; have hcz12_2 : w11.cell? ⟨gb348, 2, none⟩ = some (.int .i64 a0_2) := (bc_ BK348.out 2).trans rfl; have hcz12_3 : w11.cell? ⟨gb348, 3, none⟩ = some (.int .i64 a0_3) := (bc_ BK348.out 3).trans rfl; have hfz12_0 := bf_ BK348.out 0; have hfz12_1 := bf_ BK348.out 1; have hfz12_2 := bf_ BK348.out 2; have hfz12_3 := bf_ BK348.out 3))
 go_ret
 exact ⟨we_, wb1_ HB.out GE348.out⟩
end Go.Proofs.YtiijbmaamblidaaGreatDoor.Print

namespace Go.Proofs.YtiijbmaamblidaaGreatDoor.Print
open Go.RowKit Go.Proofs.YtiijbmaamblidaaGreatDoorW.PrintWords Go.Proofs.YtiijbmaamblidaaGreatDoorW.PrintLast Go.Proofs.YtiijbmaamblidaaGreatDoorW.PrintMore
attribute [local go_sem] max2_int min2_int max_two min_two max_three min_three max_four min_four   -- for this text's walks alone
set_option linter.unusedVariables false
set_option linter.unusedSimpArgs false
def bindleref08_Target.f (k : Nat) (a0 : ByteArray) : Option (Int) := (bindleref01_Text.f k a0).bind fun t349 => (if t349 = true then (if a0.toList = ([] : List UInt8) then (some 6) else (if (a0.size : Int) > 200 then (some 6) else (some 0))) else (some 9))
set_option maxHeartbeats 8000000 in
set_option maxRecDepth 100000 in
theorem bindleref08_Target.calls (k : Nat) (a0 : ByteArray) (r : Int) (w : World) (h : bindleref08_Target.f k a0 = some r) :
  Calls Tryz.prog 36 #[.string a0] w fun e w' => e = .returned (.int .i64 r) ∧ Drawn0 w w' := by
 have H : ((bindleref01_Text.f k a0).bind fun t349 => (if t349 = true then (if a0.toList = ([] : List UInt8) then (some 6) else (if (a0.size : Int) > 200 then (some 6) else (some 0))) else (some 9))) = some r := h
 clear h
 replace H := Option.bind_eq_some_iff.mp H
 obtain ⟨t349, A20, H⟩ := H
 replace H : (if t349 = true then (if a0.toList = ([] : List UInt8) then (some 6) else (if (a0.size : Int) > 200 then (some 6) else (some 0))) else (some 9)) = some r := H
 have A2 := A0_ A20
 clear A20
 by_cases c3 : t349 = true
 rotate_left
 ·replace c3 := Bool.eq_false_iff.mpr c3
  subst c3
  have H1 : (some 9) = some r := by rw [if_neg (show ¬ (false = true) by decide)] at H; exact H
  clear H
  have H := H1
  clear H1
  obtain rfl := Option.some.inj H
  go_enter Tryz.func36, Tryz.ntmps36
  go_wp2_with (first | ((with_reducible refine gate_callee (f := 50) rfl ?_); refine goesL_ (some 4) rfl rfl Tryz.func50 (by kernel_rfl) rfl #[.string a0] rfl wm_ ?_; (with_reducible refine (bindleref01_Text.calls k a0 false _ A2.out).mono ?_); rintro e w' ⟨rfl, ⟨nd, rfl⟩⟩; refine ⟨_, rfl, ?_⟩))
  go_ret
  exact ⟨by first | rfl | (simp; done) | (simp [*]; done), by repeat (first | exact Drawn0.refl _ | apply Drawn0.step)⟩
 subst c3
 have H1 : (if a0.toList = ([] : List UInt8) then (some 6) else (if (a0.size : Int) > 200 then (some 6) else (some 0))) = some r := by rw [if_pos rfl] at H; exact H
 clear H
 have H := H1
 clear H1
 by_cases c4 : a0.toList = ([] : List UInt8)
 ·rw [if_pos c4] at H
  have c4b0 : (a0.toList == ([] : List UInt8)) = true := beq_iff_eq.mpr c4
  have c4b1 : (a0.toList != ([] : List UInt8)) = false := bne_eq_false_iff_eq.mpr c4
  clear c4
  obtain rfl := Option.some.inj H
  go_enter Tryz.func36, Tryz.ntmps36
  go_wp2_with (first | ((with_reducible refine gate_callee (f := 50) rfl ?_); refine goesL_ (some 4) rfl rfl Tryz.func50 (by kernel_rfl) rfl #[.string a0] rfl wm_ ?_; (with_reducible refine (bindleref01_Text.calls k a0 true _ A2.out).mono ?_); rintro e w' ⟨rfl, ⟨nd, rfl⟩⟩; refine ⟨_, rfl, ?_⟩))
  go_ret
  exact ⟨by first | rfl | (simp; done) | (simp [*]; done), by repeat (first | exact Drawn0.refl _ | apply Drawn0.step)⟩
 rw [if_neg c4] at H
 have c4b0 : (a0.toList == ([] : List UInt8)) = false := beq_eq_false_iff_ne.mpr c4
 have c4b1 : (a0.toList != ([] : List UInt8)) = true := bne_iff_ne.mpr c4
 by_cases c5 : (a0.size : Int) > 200
 ·rw [if_pos c5] at H
  have c5b0 : decide (200 < (a0.size : Int)) = true := decide_eq_true c5
  have c5b1 : decide (200 < a0.size) = true := decide_eq_true (by omega)
  clear c5
  obtain rfl := Option.some.inj H
  go_enter Tryz.func36, Tryz.ntmps36
  go_wp2_with (first | ((with_reducible refine gate_callee (f := 50) rfl ?_); refine goesL_ (some 4) rfl rfl Tryz.func50 (by kernel_rfl) rfl #[.string a0] rfl wm_ ?_; (with_reducible refine (bindleref01_Text.calls k a0 true _ A2.out).mono ?_); rintro e w' ⟨rfl, ⟨nd, rfl⟩⟩; refine ⟨_, rfl, ?_⟩))
  go_ret
  exact ⟨by first | rfl | (simp; done) | (simp [*]; done), by repeat (first | exact Drawn0.refl _ | apply Drawn0.step)⟩
 rw [if_neg c5] at H
 have c5b0 : decide (200 < (a0.size : Int)) = false := decide_eq_false c5
 have c5b1 : decide (200 < a0.size) = false := decide_eq_false (by omega)
 clear c5
 obtain rfl := Option.some.inj H
 go_enter Tryz.func36, Tryz.ntmps36
 go_wp2_with (first | ((with_reducible refine gate_callee (f := 50) rfl ?_); refine goesL_ (some 4) rfl rfl Tryz.func50 (by kernel_rfl) rfl #[.string a0] rfl wm_ ?_; (with_reducible refine (bindleref01_Text.calls k a0 true _ A2.out).mono ?_); rintro e w' ⟨rfl, ⟨nd, rfl⟩⟩; refine ⟨_, rfl, ?_⟩))
 go_ret
 exact ⟨by first | rfl | (simp; done) | (simp [*]; done), by repeat (first | exact Drawn0.refl _ | apply Drawn0.step)⟩
end Go.Proofs.YtiijbmaamblidaaGreatDoor.Print

namespace Go.Proofs.YtiijbmaamblidaaGreatDoor.Print
open Go.RowKit Go.Proofs.YtiijbmaamblidaaGreatDoorW.PrintWords Go.Proofs.YtiijbmaamblidaaGreatDoorW.PrintLast Go.Proofs.YtiijbmaamblidaaGreatDoorW.PrintMore
attribute [local go_sem] max2_int min2_int max_two min_two max_three min_three max_four min_four   -- for this text's walks alone
set_option linter.unusedVariables false
set_option linter.unusedSimpArgs false
mutual
def bindleref08_Good.j0 : Nat → Bool → ByteArray → ByteArray → Int → Int → Int → Int → Int → List Int → Option (Bool)
 | 0, _, _, _, _, _, _, _, _, _ => none
 | k + 1, x29, x351000, x351001, x351002, x351003, x351004, x351005, x351006, x351007 => if x29 = true then (some false) else (if x351002 = 48 then (bindleref08_Good.j1 k x351002 (x351002 == 48) x351000 x351001 x351002 x351003 x351004 x351005 x351006 x351007) else (bindleref08_Good.j1 k x351002 (x351002 == 53) x351000 x351001 x351002 x351003 x351004 x351005 x351006 x351007))
def bindleref08_Good.j1 : Nat → Int → Bool → ByteArray → ByteArray → Int → Int → Int → Int → Int → List Int → Option (Bool)
 | 0, _, _, _, _, _, _, _, _, _, _ => none
 | k + 1, x31, x32, x351000, x351001, x351002, x351003, x351004, x351005, x351006, x351007 => if x32 = true then (some (x351001.toList == ([] : List UInt8))) else (if x31 = 49 then ((bindleref08_clean.f k x351001).bind fun t353 => (some t353)) else (if x31 = 50 then ((bindleref08_Target.f k x351001).bind fun t354 => (some (t354 == 0))) else (some false)))
end
def bindleref08_Good.f (k : Nat) (a0_0 : ByteArray) (a0_1 : ByteArray) (a0_2 : Int) (a0_3 : Int) (a0_4 : Int) (a0_5 : Int) (a0_6 : Int) (l0_7 : List Int) : Option (Bool) := (bindleref08_clean.f k a0_0).bind fun t351 => (if t351 = true then ((bindleref08_Meta.f a0_3 a0_4 a0_5 a0_6).bind fun t352 => (if t352 = true then (if (l0_7.length : Int) > 1048576 then (bindleref08_Good.j0 k true a0_0 a0_1 a0_2 a0_3 a0_4 a0_5 a0_6 l0_7) else (if a0_2 = 48 then (bindleref08_Good.j0 k false a0_0 a0_1 a0_2 a0_3 a0_4 a0_5 a0_6 l0_7) else (bindleref08_Good.j0 k (decide ((l0_7.length : Int) > 0)) a0_0 a0_1 a0_2 a0_3 a0_4 a0_5 a0_6 l0_7))) else (bindleref08_Good.j0 k true a0_0 a0_1 a0_2 a0_3 a0_4 a0_5 a0_6 l0_7))) else (bindleref08_Good.j0 k true a0_0 a0_1 a0_2 a0_3 a0_4 a0_5 a0_6 l0_7))
set_option maxHeartbeats 8000000 in
set_option maxRecDepth 100000 in
theorem bindleref08_Good.calls (k : Nat) (a0_0 : ByteArray) (a0_1 : ByteArray) (a0_2 : Int) (a0_3 : Int) (a0_4 : Int) (a0_5 : Int) (a0_6 : Int) (A0_7 : Option Addr) (c0_7 : Nat) (l0_7 : List Int) (r : Bool) (w : World) (hr0_7 : Kd.C (Kd.int .u8) w A0_7 l0_7.length l0_7) (hc0_7 : l0_7.length ≤ c0_7) (h : bindleref08_Good.f k a0_0 a0_1 a0_2 a0_3 a0_4 a0_5 a0_6 l0_7 = some r) :
  Calls Tryz.prog 18 #[.agg #[.string a0_0, .string a0_1, .int .u8 a0_2, .int .i64 a0_3, .int .i64 a0_4, .int .i64 a0_5, .int .i64 a0_6, .slice A0_7 l0_7.length c0_7]] w fun e w' => e = .returned (.bool r) ∧ Below w.heap.size w w' := by
 have hu43 := Tryz.underlying43
 have hu40 := Tryz.underlying40
 have HR0_7 := A0_ hr0_7
 have HC0_7 := A0_ hc0_7
 clear hr0_7 hc0_7
 have HB := A0_ (Below.refl w.heap.size w)
 have H : ((bindleref08_clean.f k a0_0).bind fun t351 => (if t351 = true then ((bindleref08_Meta.f a0_3 a0_4 a0_5 a0_6).bind fun t352 => (if t352 = true then (if (l0_7.length : Int) > 1048576 then (bindleref08_Good.j0 k true a0_0 a0_1 a0_2 a0_3 a0_4 a0_5 a0_6 l0_7) else (if a0_2 = 48 then (bindleref08_Good.j0 k false a0_0 a0_1 a0_2 a0_3 a0_4 a0_5 a0_6 l0_7) else (bindleref08_Good.j0 k (decide ((l0_7.length : Int) > 0)) a0_0 a0_1 a0_2 a0_3 a0_4 a0_5 a0_6 l0_7))) else (bindleref08_Good.j0 k true a0_0 a0_1 a0_2 a0_3 a0_4 a0_5 a0_6 l0_7))) else (bindleref08_Good.j0 k true a0_0 a0_1 a0_2 a0_3 a0_4 a0_5 a0_6 l0_7))) = some r := h
 clear h
 have HC2 := A0_ H
 clear H
 go_enter Tryz.func18, Tryz.ntmps18
 go_upto_region 1 with (first | ((with_reducible refine gate_dst (N := 1) rfl ?_); (try (refine gate_guard (by rfl) ?_; dsimp only)); refine box_event ?hg (N := 1) ?hd (cs := #[.string a0_0, .string a0_1, .int .u8 a0_2, .int .i64 a0_3, .int .i64 a0_4, .int .i64 a0_5, .int .i64 a0_6, .slice A0_7 l0_7.length c0_7]) (t := 43) ?hr ?_; (case hd => rfl); (case hg => rfl); (case hr => first | (go_simp; done) | (go_simp; rfl)); intro gb350 hg w3 hbox hb; have n0_ := A0_ (below_step (wb_ HB.out) hb); have n1_ := A0_ (hbox); have n2_ := A0_ ((by rw [hg]; exact (below_size (wb_ HB.out)) : w.heap.size ≤ gb350)); have n3_ := A0_ ((by rw [hg]; exact (below_size (wb_ HB.out)) : w.heap.size ≤ gb350)); clear HB; have HB := n0_; have BK350 := n1_; have GW350 := n2_; have GE350 := n3_; clear n0_ n1_ n2_ n3_; clear hb hbox hg))
 (try simp only [Act.put, List.setIfInBounds_toArray, List.set_cons_zero, List.set_cons_succ])
 go_cut [29] (fun v29 wc => ∃ (kq : Nat) (x29_1 : Bool), v29 = .bool x29_1 ∧ Aside0 (bindleref08_Good.j0 kq x29_1 a0_0 a0_1 a0_2 a0_3 a0_4 a0_5 a0_6 l0_7 = some r) ∧ Aside0 (kq ≤ k) ∧ Aside0 (wc.heap[gb350]? = some (.cells #[.string a0_0, .string a0_1, .int .u8 a0_2, .int .i64 a0_3, .int .i64 a0_4, .int .i64 a0_5, .int .i64 a0_6, (.slice A0_7 l0_7.length c0_7)] 43 (0, 0))) ∧ Aside0 (Below w.heap.size w wc))
 case first =>
  have H := HC2.out
  clear HC2
  replace H := Option.bind_eq_some_iff.mp H
  obtain ⟨t351, A40, H⟩ := H
  replace H : (if t351 = true then ((bindleref08_Meta.f a0_3 a0_4 a0_5 a0_6).bind fun t352 => (if t352 = true then (if (l0_7.length : Int) > 1048576 then (bindleref08_Good.j0 k true a0_0 a0_1 a0_2 a0_3 a0_4 a0_5 a0_6 l0_7) else (if a0_2 = 48 then (bindleref08_Good.j0 k false a0_0 a0_1 a0_2 a0_3 a0_4 a0_5 a0_6 l0_7) else (bindleref08_Good.j0 k (decide ((l0_7.length : Int) > 0)) a0_0 a0_1 a0_2 a0_3 a0_4 a0_5 a0_6 l0_7))) else (bindleref08_Good.j0 k true a0_0 a0_1 a0_2 a0_3 a0_4 a0_5 a0_6 l0_7))) else (bindleref08_Good.j0 k true a0_0 a0_1 a0_2 a0_3 a0_4 a0_5 a0_6 l0_7)) = some r := H
  have A4 := A0_ A40
  clear A40
  by_cases c5 : t351 = true
  rotate_left
  ·replace c5 := Bool.eq_false_iff.mpr c5
   subst c5
   have H1 : (bindleref08_Good.j0 k true a0_0 a0_1 a0_2 a0_3 a0_4 a0_5 a0_6 l0_7) = some r := by rw [if_neg (show ¬ (false = true) by decide)] at H; exact H
   clear H
   have H := H1
   clear H1
   have H' := A0_ H
   clear H
   have hcz21_0 : w3.cell? ⟨gb350, 0, none⟩ = some (.string a0_0) := (bc_ BK350.out 0).trans rfl
   have hcz21_1 : w3.cell? ⟨gb350, 1, none⟩ = some (.string a0_1) := (bc_ BK350.out 1).trans rfl
   have hcz21_2 : w3.cell? ⟨gb350, 2, none⟩ = some (.int .u8 a0_2) := (bc_ BK350.out 2).trans rfl
   have hcz21_3 : w3.cell? ⟨gb350, 3, none⟩ = some (.int .i64 a0_3) := (bc_ BK350.out 3).trans rfl
   have hcz21_4 : w3.cell? ⟨gb350, 4, none⟩ = some (.int .i64 a0_4) := (bc_ BK350.out 4).trans rfl
   have hcz21_5 : w3.cell? ⟨gb350, 5, none⟩ = some (.int .i64 a0_5) := (bc_ BK350.out 5).trans rfl
   have hcz21_6 : w3.cell? ⟨gb350, 6, none⟩ = some (.int .i64 a0_6) := (bc_ BK350.out 6).trans rfl
   have hcz21_7 : w3.cell? ⟨gb350, 7, none⟩ = some (.slice A0_7 l0_7.length c0_7) := (bc_ BK350.out 7).trans rfl
   have hfz21_0 := bf_ BK350.out 0
   have hfz21_1 := bf_ BK350.out 1
   have hfz21_2 := bf_ BK350.out 2
   have hfz21_3 := bf_ BK350.out 3
   have hfz21_4 := bf_ BK350.out 4
   have hfz21_5 := bf_ BK350.out 5
   have hfz21_6 := bf_ BK350.out 6
   have hfz21_7 := bf_ BK350.out 7
   go_wp2_with (first | ((with_reducible refine gate_callee (f := 34) rfl ?_); refine goesL_ (some 5) rfl rfl Tryz.func34 (by kernel_rfl) rfl #[.string a0_0] rfl wm_ ?_; (with_reducible refine (bindleref08_clean.calls k a0_0 false _ A4.out).mono ?_); rintro e w' ⟨rfl, ⟨nd, rfl⟩⟩; refine ⟨_, rfl, ?_⟩))
   go_meet
   case rel => exact ⟨_, (true), wr_, H', ⟨by first | omega | exact Nat.le_refl _⟩, ⟨wB_ BK350.out⟩, ⟨wb1_ HB.out GE350.out⟩⟩
  subst c5
  have H1 : ((bindleref08_Meta.f a0_3 a0_4 a0_5 a0_6).bind fun t352 => (if t352 = true then (if (l0_7.length : Int) > 1048576 then (bindleref08_Good.j0 k true a0_0 a0_1 a0_2 a0_3 a0_4 a0_5 a0_6 l0_7) else (if a0_2 = 48 then (bindleref08_Good.j0 k false a0_0 a0_1 a0_2 a0_3 a0_4 a0_5 a0_6 l0_7) else (bindleref08_Good.j0 k (decide ((l0_7.length : Int) > 0)) a0_0 a0_1 a0_2 a0_3 a0_4 a0_5 a0_6 l0_7))) else (bindleref08_Good.j0 k true a0_0 a0_1 a0_2 a0_3 a0_4 a0_5 a0_6 l0_7))) = some r := by rw [if_pos rfl] at H; exact H
  clear H
  have H := H1
  clear H1
  replace H := Option.bind_eq_some_iff.mp H
  obtain ⟨t352, A60, H⟩ := H
  replace H : (if t352 = true then (if (l0_7.length : Int) > 1048576 then (bindleref08_Good.j0 k true a0_0 a0_1 a0_2 a0_3 a0_4 a0_5 a0_6 l0_7) else (if a0_2 = 48 then (bindleref08_Good.j0 k false a0_0 a0_1 a0_2 a0_3 a0_4 a0_5 a0_6 l0_7) else (bindleref08_Good.j0 k (decide ((l0_7.length : Int) > 0)) a0_0 a0_1 a0_2 a0_3 a0_4 a0_5 a0_6 l0_7))) else (bindleref08_Good.j0 k true a0_0 a0_1 a0_2 a0_3 a0_4 a0_5 a0_6 l0_7)) = some r := H
  have A6 := A0_ A60
  clear A60
  by_cases c7 : t352 = true
  rotate_left
  ·replace c7 := Bool.eq_false_iff.mpr c7
   subst c7
   have H1 : (bindleref08_Good.j0 k true a0_0 a0_1 a0_2 a0_3 a0_4 a0_5 a0_6 l0_7) = some r := by rw [if_neg (show ¬ (false = true) by decide)] at H; exact H
   clear H
   have H := H1
   clear H1
   have H' := A0_ H
   clear H
   have hcz19_0 : w3.cell? ⟨gb350, 0, none⟩ = some (.string a0_0) := (bc_ BK350.out 0).trans rfl
   have hcz19_1 : w3.cell? ⟨gb350, 1, none⟩ = some (.string a0_1) := (bc_ BK350.out 1).trans rfl
   have hcz19_2 : w3.cell? ⟨gb350, 2, none⟩ = some (.int .u8 a0_2) := (bc_ BK350.out 2).trans rfl
   have hcz19_3 : w3.cell? ⟨gb350, 3, none⟩ = some (.int .i64 a0_3) := (bc_ BK350.out 3).trans rfl
   have hcz19_4 : w3.cell? ⟨gb350, 4, none⟩ = some (.int .i64 a0_4) := (bc_ BK350.out 4).trans rfl
   have hcz19_5 : w3.cell? ⟨gb350, 5, none⟩ = some (.int .i64 a0_5) := (bc_ BK350.out 5).trans rfl
   have hcz19_6 : w3.cell? ⟨gb350, 6, none⟩ = some (.int .i64 a0_6) := (bc_ BK350.out 6).trans rfl
   have hcz19_7 : w3.cell? ⟨gb350, 7, none⟩ = some (.slice A0_7 l0_7.length c0_7) := (bc_ BK350.out 7).trans rfl
   have hfz19_0 := bf_ BK350.out 0
   have hfz19_1 := bf_ BK350.out 1
   have hfz19_2 := bf_ BK350.out 2
   have hfz19_3 := bf_ BK350.out 3
   have hfz19_4 := bf_ BK350.out 4
   have hfz19_5 := bf_ BK350.out 5
   have hfz19_6 := bf_ BK350.out 6
   have hfz19_7 := bf_ BK350.out 7
   go_wp2_with (first | ((with_reducible refine gate_callee (f := 34) rfl ?_); refine goesL_ (some 5) rfl rfl Tryz.func34 (by kernel_rfl) rfl #[.string a0_0] rfl wm_ ?_; (with_reducible refine (bindleref08_clean.calls k a0_0 true _ A4.out).mono ?_); rintro e w' ⟨rfl, ⟨nd, rfl⟩⟩; refine ⟨_, rfl, ?_⟩) | (go_at_call 35; (with_reducible refine (bindleref08_Meta.calls a0_3 a0_4 a0_5 a0_6 false _ A6.out).mono ?_); rintro e w20 ⟨rfl, hb⟩; have n0_ := A0_ (blk_below (g := gb350) (o := .cells #[.string a0_0, .string a0_1, .int .u8 a0_2, .int .i64 a0_3, .int .i64 a0_4, .int .i64 a0_5, .int .i64 a0_6, .slice A0_7 l0_7.length c0_7] 43 (0, 0)) (wB_ BK350.out) hb); have n1_ := A0_ (below_step (wb1_ HB.out GE350.out) hb); clear BK350; clear HB; have BK350 := n0_; have HB := n1_; clear n0_ n1_; (try clear hb); (try clear hb2); (try clear hk); (try clear hi)))
   go_meet
   case rel => exact ⟨_, (true), wr_, H', ⟨by first | omega | exact Nat.le_refl _⟩, ⟨wB_ BK350.out⟩, ⟨wb1_ HB.out GE350.out⟩⟩
  subst c7
  have H1 : (if (l0_7.length : Int) > 1048576 then (bindleref08_Good.j0 k true a0_0 a0_1 a0_2 a0_3 a0_4 a0_5 a0_6 l0_7) else (if a0_2 = 48 then (bindleref08_Good.j0 k false a0_0 a0_1 a0_2 a0_3 a0_4 a0_5 a0_6 l0_7) else (bindleref08_Good.j0 k (decide ((l0_7.length : Int) > 0)) a0_0 a0_1 a0_2 a0_3 a0_4 a0_5 a0_6 l0_7))) = some r := by rw [if_pos rfl] at H; exact H
  clear H
  have H := H1
  clear H1
  by_cases c8 : (l0_7.length : Int) > 1048576
  ·rw [if_pos c8] at H
   have c8b0 : decide (1048576 < (l0_7.length : Int)) = true := decide_eq_true c8
   have c8b1 : decide (1048576 < l0_7.length) = true := decide_eq_true (by omega)
   clear c8
   (first | rw [c8b0] | (simp only [i64_w, i32_w]; rw [c8b0]) | skip)
   have H' := A0_ H
   clear H
   have hcz9_0 : w3.cell? ⟨gb350, 0, none⟩ = some (.string a0_0) := (bc_ BK350.out 0).trans rfl
   have hcz9_1 : w3.cell? ⟨gb350, 1, none⟩ = some (.string a0_1) := (bc_ BK350.out 1).trans rfl
   have hcz9_2 : w3.cell? ⟨gb350, 2, none⟩ = some (.int .u8 a0_2) := (bc_ BK350.out 2).trans rfl
   have hcz9_3 : w3.cell? ⟨gb350, 3, none⟩ = some (.int .i64 a0_3) := (bc_ BK350.out 3).trans rfl
   have hcz9_4 : w3.cell? ⟨gb350, 4, none⟩ = some (.int .i64 a0_4) := (bc_ BK350.out 4).trans rfl
   have hcz9_5 : w3.cell? ⟨gb350, 5, none⟩ = some (.int .i64 a0_5) := (bc_ BK350.out 5).trans rfl
   have hcz9_6 : w3.cell? ⟨gb350, 6, none⟩ = some (.int .i64 a0_6) := (bc_ BK350.out 6).trans rfl
   have hcz9_7 : w3.cell? ⟨gb350, 7, none⟩ = some (.slice A0_7 l0_7.length c0_7) := (bc_ BK350.out 7).trans rfl
   have hfz9_0 := bf_ BK350.out 0
   have hfz9_1 := bf_ BK350.out 1
   have hfz9_2 := bf_ BK350.out 2
   have hfz9_3 := bf_ BK350.out 3
   have hfz9_4 := bf_ BK350.out 4
   have hfz9_5 := bf_ BK350.out 5
   have hfz9_6 := bf_ BK350.out 6
   have hfz9_7 := bf_ BK350.out 7
   go_wp2_with (first | ((with_reducible refine gate_callee (f := 34) rfl ?_); refine goesL_ (some 5) rfl rfl Tryz.func34 (by kernel_rfl) rfl #[.string a0_0] rfl wm_ ?_; (with_reducible refine (bindleref08_clean.calls k a0_0 true _ A4.out).mono ?_); rintro e w' ⟨rfl, ⟨nd, rfl⟩⟩; refine ⟨_, rfl, ?_⟩) | (go_at_call 35; (with_reducible refine (bindleref08_Meta.calls a0_3 a0_4 a0_5 a0_6 true _ A6.out).mono ?_); rintro e w10 ⟨rfl, hb⟩; have n0_ := A0_ (blk_below (g := gb350) (o := .cells #[.string a0_0, .string a0_1, .int .u8 a0_2, .int .i64 a0_3, .int .i64 a0_4, .int .i64 a0_5, .int .i64 a0_6, .slice A0_7 l0_7.length c0_7] 43 (0, 0)) (wB_ BK350.out) hb); have n1_ := A0_ (below_step (wb1_ HB.out GE350.out) hb); clear BK350; clear HB; have BK350 := n0_; have HB := n1_; clear n0_ n1_; (try clear hb); (try clear hb2); (try clear hk); (try clear hi); have hcz11_0 : w10.cell? ⟨gb350, 0, none⟩ = some (.string a0_0) := (bc_ BK350.out 0).trans rfl; have hcz11_1 : w10.cell? ⟨gb350, 1, none⟩ = some (.string a0_1) := (bc_ BK350.out 1).trans rfl; have hcz11_2 : w10.cell? ⟨gb350, 2, none⟩ = some (.int .u8 a0_2) := (bc_ BK350.out 2).trans rfl; have hcz11_3 : w10.cell? ⟨gb350, 3, none⟩ = some (.int .i64 a0_3) := (bc_ BK350.out 3).trans rfl; have hcz11_4 : w10.cell? ⟨gb350, 4, none⟩ = some (.int .i64 a0_4) := (bc_ BK350.out 4).trans rfl; have hcz11_5 : w10.cell? ⟨gb350, 5, none⟩ = some (.int .i64 a0_5) := (bc_ BK350.out 5).trans rfl; have hcz11_6 : w10.cell? ⟨gb350, 6, none⟩ = some (.int .i64 a0_6) := (bc_ BK350.out 6).trans rfl; have hcz11_7 : w10.cell? ⟨gb350, 7, none⟩ = some (.slice A0_7 l0_7.length c0_7) := (bc_ BK350.out 7).trans rfl; have hfz11_0 := bf_ BK350.out 0; have hfz11_1 := bf_ BK350.out 1; have hfz11_2 := bf_ BK350.out 2; have hfz11_3 := bf_ BK350.out 3; have hfz11_4 := bf_ BK350.out 4; have hfz11_5 := bf_ BK350.out 5; have hfz11_6 := bf_ BK350.out 6; have hfz11_7 := bf_ BK350.out 7))
   go_meet
   case rel => exact ⟨_, (true), wr_, H', ⟨by first | omega | exact Nat.le_refl _⟩, ⟨wB_ BK350.out⟩, ⟨wb1_ HB.out GE350.out⟩⟩
  rw [if_neg c8] at H
  have c8b0 : decide (1048576 < (l0_7.length : Int)) = false := decide_eq_false c8
  have c8b1 : decide (1048576 < l0_7.length) = false := decide_eq_false (by omega)
  clear c8
  (first | rw [c8b0] | (simp only [i64_w, i32_w]; rw [c8b0]) | skip)
  by_cases c12 : a0_2 = 48
  ·rw [if_pos c12] at H
   have c12b0 : (a0_2 == 48) = true := beq_iff_eq.mpr c12
   have c12b1 : (a0_2 != 48) = false := bne_eq_false_iff_eq.mpr c12
   clear c12
   have H' := A0_ H
   clear H
   have hcz13_0 : w3.cell? ⟨gb350, 0, none⟩ = some (.string a0_0) := (bc_ BK350.out 0).trans rfl
   have hcz13_1 : w3.cell? ⟨gb350, 1, none⟩ = some (.string a0_1) := (bc_ BK350.out 1).trans rfl
   have hcz13_2 : w3.cell? ⟨gb350, 2, none⟩ = some (.int .u8 a0_2) := (bc_ BK350.out 2).trans rfl
   have hcz13_3 : w3.cell? ⟨gb350, 3, none⟩ = some (.int .i64 a0_3) := (bc_ BK350.out 3).trans rfl
   have hcz13_4 : w3.cell? ⟨gb350, 4, none⟩ = some (.int .i64 a0_4) := (bc_ BK350.out 4).trans rfl
   have hcz13_5 : w3.cell? ⟨gb350, 5, none⟩ = some (.int .i64 a0_5) := (bc_ BK350.out 5).trans rfl
   have hcz13_6 : w3.cell? ⟨gb350, 6, none⟩ = some (.int .i64 a0_6) := (bc_ BK350.out 6).trans rfl
   have hcz13_7 : w3.cell? ⟨gb350, 7, none⟩ = some (.slice A0_7 l0_7.length c0_7) := (bc_ BK350.out 7).trans rfl
   have hfz13_0 := bf_ BK350.out 0
   have hfz13_1 := bf_ BK350.out 1
   have hfz13_2 := bf_ BK350.out 2
   have hfz13_3 := bf_ BK350.out 3
   have hfz13_4 := bf_ BK350.out 4
   have hfz13_5 := bf_ BK350.out 5
   have hfz13_6 := bf_ BK350.out 6
   have hfz13_7 := bf_ BK350.out 7
   go_wp2_with (first | ((with_reducible refine gate_callee (f := 34) rfl ?_); refine goesL_ (some 5) rfl rfl Tryz.func34 (by kernel_rfl) rfl #[.string a0_0] rfl wm_ ?_; (with_reducible refine (bindleref08_clean.calls k a0_0 true _ A4.out).mono ?_); rintro e w' ⟨rfl, ⟨nd, rfl⟩⟩; refine ⟨_, rfl, ?_⟩) | (go_at_call 35; (with_reducible refine (bindleref08_Meta.calls a0_3 a0_4 a0_5 a0_6 true _ A6.out).mono ?_); rintro e w14 ⟨rfl, hb⟩; have n0_ := A0_ (blk_below (g := gb350) (o := .cells #[.string a0_0, .string a0_1, .int .u8 a0_2, .int .i64 a0_3, .int .i64 a0_4, .int .i64 a0_5, .int .i64 a0_6, .slice A0_7 l0_7.length c0_7] 43 (0, 0)) (wB_ BK350.out) hb); have n1_ := A0_ (below_step (wb1_ HB.out GE350.out) hb); clear BK350; clear HB; have BK350 := n0_; have HB := n1_; clear n0_ n1_; (try clear hb); (try clear hb2); (try clear hk); (try clear hi); have hcz15_0 : w14.cell? ⟨gb350, 0, none⟩ = some (.string a0_0) := (bc_ BK350.out 0).trans rfl; have hcz15_1 : w14.cell? ⟨gb350, 1, none⟩ = some (.string a0_1) := (bc_ BK350.out 1).trans rfl; have hcz15_2 : w14.cell? ⟨gb350, 2, none⟩ = some (.int .u8 a0_2) := (bc_ BK350.out 2).trans rfl; have hcz15_3 : w14.cell? ⟨gb350, 3, none⟩ = some (.int .i64 a0_3) := (bc_ BK350.out 3).trans rfl; have hcz15_4 : w14.cell? ⟨gb350, 4, none⟩ = some (.int .i64 a0_4) := (bc_ BK350.out 4).trans rfl; have hcz15_5 : w14.cell? ⟨gb350, 5, none⟩ = some (.int .i64 a0_5) := (bc_ BK350.out 5).trans rfl; have hcz15_6 : w14.cell? ⟨gb350, 6, none⟩ = some (.int .i64 a0_6) := (bc_ BK350.out 6).trans rfl; have hcz15_7 : w14.cell? ⟨gb350, 7, none⟩ = some (.slice A0_7 l0_7.length c0_7) := (bc_ BK350.out 7).trans rfl; have hfz15_0 := bf_ BK350.out 0; have hfz15_1 := bf_ BK350.out 1; have hfz15_2 := bf_ BK350.out 2; have hfz15_3 := bf_ BK350.out 3; have hfz15_4 := bf_ BK350.out 4; have hfz15_5 := bf_ BK350.out 5; have hfz15_6 := bf_ BK350.out 6; have hfz15_7 := bf_ BK350.out 7))
   go_meet
   case rel => exact ⟨_, (false), wr_, H', ⟨by first | omega | exact Nat.le_refl _⟩, ⟨wB_ BK350.out⟩, ⟨wb1_ HB.out GE350.out⟩⟩
  rw [if_neg c12] at H
  have c12b0 : (a0_2 == 48) = false := beq_eq_false_iff_ne.mpr c12
  have c12b1 : (a0_2 != 48) = true := bne_iff_ne.mpr c12
  have H' := A0_ H
  clear H
  have hcz16_0 : w3.cell? ⟨gb350, 0, none⟩ = some (.string a0_0) := (bc_ BK350.out 0).trans rfl
  have hcz16_1 : w3.cell? ⟨gb350, 1, none⟩ = some (.string a0_1) := (bc_ BK350.out 1).trans rfl
  have hcz16_2 : w3.cell? ⟨gb350, 2, none⟩ = some (.int .u8 a0_2) := (bc_ BK350.out 2).trans rfl
  have hcz16_3 : w3.cell? ⟨gb350, 3, none⟩ = some (.int .i64 a0_3) := (bc_ BK350.out 3).trans rfl
  have hcz16_4 : w3.cell? ⟨gb350, 4, none⟩ = some (.int .i64 a0_4) := (bc_ BK350.out 4).trans rfl
  have hcz16_5 : w3.cell? ⟨gb350, 5, none⟩ = some (.int .i64 a0_5) := (bc_ BK350.out 5).trans rfl
  have hcz16_6 : w3.cell? ⟨gb350, 6, none⟩ = some (.int .i64 a0_6) := (bc_ BK350.out 6).trans rfl
  have hcz16_7 : w3.cell? ⟨gb350, 7, none⟩ = some (.slice A0_7 l0_7.length c0_7) := (bc_ BK350.out 7).trans rfl
  have hfz16_0 := bf_ BK350.out 0
  have hfz16_1 := bf_ BK350.out 1
  have hfz16_2 := bf_ BK350.out 2
  have hfz16_3 := bf_ BK350.out 3
  have hfz16_4 := bf_ BK350.out 4
  have hfz16_5 := bf_ BK350.out 5
  have hfz16_6 := bf_ BK350.out 6
  have hfz16_7 := bf_ BK350.out 7
  go_wp2_with (first | ((with_reducible refine gate_callee (f := 34) rfl ?_); refine goesL_ (some 5) rfl rfl Tryz.func34 (by kernel_rfl) rfl #[.string a0_0] rfl wm_ ?_; (with_reducible refine (bindleref08_clean.calls k a0_0 true _ A4.out).mono ?_); rintro e w' ⟨rfl, ⟨nd, rfl⟩⟩; refine ⟨_, rfl, ?_⟩) | (go_at_call 35; (with_reducible refine (bindleref08_Meta.calls a0_3 a0_4 a0_5 a0_6 true _ A6.out).mono ?_); rintro e w17 ⟨rfl, hb⟩; have n0_ := A0_ (blk_below (g := gb350) (o := .cells #[.string a0_0, .string a0_1, .int .u8 a0_2, .int .i64 a0_3, .int .i64 a0_4, .int .i64 a0_5, .int .i64 a0_6, .slice A0_7 l0_7.length c0_7] 43 (0, 0)) (wB_ BK350.out) hb); have n1_ := A0_ (below_step (wb1_ HB.out GE350.out) hb); clear BK350; clear HB; have BK350 := n0_; have HB := n1_; clear n0_ n1_; (try clear hb); (try clear hb2); (try clear hk); (try clear hi); have hcz18_0 : w17.cell? ⟨gb350, 0, none⟩ = some (.string a0_0) := (bc_ BK350.out 0).trans rfl; have hcz18_1 : w17.cell? ⟨gb350, 1, none⟩ = some (.string a0_1) := (bc_ BK350.out 1).trans rfl; have hcz18_2 : w17.cell? ⟨gb350, 2, none⟩ = some (.int .u8 a0_2) := (bc_ BK350.out 2).trans rfl; have hcz18_3 : w17.cell? ⟨gb350, 3, none⟩ = some (.int .i64 a0_3) := (bc_ BK350.out 3).trans rfl; have hcz18_4 : w17.cell? ⟨gb350, 4, none⟩ = some (.int .i64 a0_4) := (bc_ BK350.out 4).trans rfl; have hcz18_5 : w17.cell? ⟨gb350, 5, none⟩ = some (.int .i64 a0_5) := (bc_ BK350.out 5).trans rfl; have hcz18_6 : w17.cell? ⟨gb350, 6, none⟩ = some (.int .i64 a0_6) := (bc_ BK350.out 6).trans rfl; have hcz18_7 : w17.cell? ⟨gb350, 7, none⟩ = some (.slice A0_7 l0_7.length c0_7) := (bc_ BK350.out 7).trans rfl; have hfz18_0 := bf_ BK350.out 0; have hfz18_1 := bf_ BK350.out 1; have hfz18_2 := bf_ BK350.out 2; have hfz18_3 := bf_ BK350.out 3; have hfz18_4 := bf_ BK350.out 4; have hfz18_5 := bf_ BK350.out 5; have hfz18_6 := bf_ BK350.out 6; have hfz18_7 := bf_ BK350.out 7))
  go_meet
  case rel => exact ⟨_, (decide ((l0_7.length : Int) > 0)), wr_, H', ⟨by first | omega | exact Nat.le_refl _⟩, ⟨wB_ BK350.out⟩, ⟨wb1_ HB.out GE350.out⟩⟩
 case rest =>
  clear HC2
  try clear c1
  try clear p2
  try clear c3
  try clear c5
  try clear c7
  try clear c8
  try clear c8b0
  try clear c8b1
  try clear c12
  try clear c12b0
  try clear c12b1
  try clear c18
  try clear hcz11_0
  try clear hcz11_1
  try clear hcz11_2
  try clear hcz11_3
  try clear hcz11_4
  try clear hcz11_5
  try clear hcz11_6
  try clear hcz11_7
  try clear hcz13_0
  try clear hcz13_1
  try clear hcz13_2
  try clear hcz13_3
  try clear hcz13_4
  try clear hcz13_5
  try clear hcz13_6
  try clear hcz13_7
  try clear hcz15_0
  try clear hcz15_1
  try clear hcz15_2
  try clear hcz15_3
  try clear hcz15_4
  try clear hcz15_5
  try clear hcz15_6
  try clear hcz15_7
  try clear hcz16_0
  try clear hcz16_1
  try clear hcz16_2
  try clear hcz16_3
  try clear hcz16_4
  try clear hcz16_5
  try clear hcz16_6
  try clear hcz16_7
  try clear hcz18_0
  try clear hcz18_1
  try clear hcz18_2
  try clear hcz18_3
  try clear hcz18_4
  try clear hcz18_5
  try clear hcz18_6
  try clear hcz18_7
  try clear hcz19_0
  try clear hcz19_1
  try clear hcz19_2
  try clear hcz19_3
  try clear hcz19_4
  try clear hcz19_5
  try clear hcz19_6
  try clear hcz19_7
  try clear hcz21_0
  try clear hcz21_1
  try clear hcz21_2
  try clear hcz21_3
  try clear hcz21_4
  try clear hcz21_5
  try clear hcz21_6
  try clear hcz21_7
  try clear hcz9_0
  try clear hcz9_1
  try clear hcz9_2
  try clear hcz9_3
  try clear hcz9_4
  try clear hcz9_5
  try clear hcz9_6
  try clear hcz9_7
  try clear hfz11_0
  try clear hfz11_1
  try clear hfz11_2
  try clear hfz11_3
  try clear hfz11_4
  try clear hfz11_5
  try clear hfz11_6
  try clear hfz11_7
  try clear hfz13_0
  try clear hfz13_1
  try clear hfz13_2
  try clear hfz13_3
  try clear hfz13_4
  try clear hfz13_5
  try clear hfz13_6
  try clear hfz13_7
  try clear hfz15_0
  try clear hfz15_1
  try clear hfz15_2
  try clear hfz15_3
  try clear hfz15_4
  try clear hfz15_5
  try clear hfz15_6
  try clear hfz15_7
  try clear hfz16_0
  try clear hfz16_1
  try clear hfz16_2
  try clear hfz16_3
  try clear hfz16_4
  try clear hfz16_5
  try clear hfz16_6
  try clear hfz16_7
  try clear hfz18_0
  try clear hfz18_1
  try clear hfz18_2
  try clear hfz18_3
  try clear hfz18_4
  try clear hfz18_5
  try clear hfz18_6
  try clear hfz18_7
  try clear hfz19_0
  try clear hfz19_1
  try clear hfz19_2
  try clear hfz19_3
  try clear hfz19_4
  try clear hfz19_5
  try clear hfz19_6
  try clear hfz19_7
  try clear hfz21_0
  try clear hfz21_1
  try clear hfz21_2
  try clear hfz21_3
  try clear hfz21_4
  try clear hfz21_5
  try clear hfz21_6
  try clear hfz21_7
  try clear hfz9_0
  try clear hfz9_1
  try clear hfz9_2
  try clear hfz9_3
  try clear hfz9_4
  try clear hfz9_5
  try clear hfz9_6
  try clear hfz9_7
  obtain ⟨kq, x29_1, rfl, HA, HJ1, BK350, HB⟩ := hcut
  cases kq with
  | zero => exact absurd HA.out (by simp [bindleref08_Good.j0])
  | succ kj1 =>
   have H := HA.out
   clear HA
   simp only [bindleref08_Good.j0] at H
   by_cases c22 : x29_1 = true
   ·subst c22
    have H1 : (some false) = some r := by rw [if_pos rfl] at H; exact H
    clear H
    have H := H1
    clear H1
    obtain rfl := Option.some.inj H
    go_wp2
    go_ret
    exact ⟨we_, wb1_ HB.out GE350.out⟩
   replace c22 := Bool.eq_false_iff.mpr c22
   subst c22
   have H1 : (if a0_2 = 48 then (bindleref08_Good.j1 kj1 a0_2 (a0_2 == 48) a0_0 a0_1 a0_2 a0_3 a0_4 a0_5 a0_6 l0_7) else (bindleref08_Good.j1 kj1 a0_2 (a0_2 == 53) a0_0 a0_1 a0_2 a0_3 a0_4 a0_5 a0_6 l0_7)) = some r := by rw [if_neg (show ¬ (false = true) by decide)] at H; exact H
   clear H
   have H := H1
   clear H1
   have HC23 := A0_ H
   clear H
   have hcz24_0 : wc.cell? ⟨gb350, 0, none⟩ = some (.string a0_0) := (bc_ BK350.out 0).trans rfl
   have hcz24_1 : wc.cell? ⟨gb350, 1, none⟩ = some (.string a0_1) := (bc_ BK350.out 1).trans rfl
   have hcz24_2 : wc.cell? ⟨gb350, 2, none⟩ = some (.int .u8 a0_2) := (bc_ BK350.out 2).trans rfl
   have hcz24_3 : wc.cell? ⟨gb350, 3, none⟩ = some (.int .i64 a0_3) := (bc_ BK350.out 3).trans rfl
   have hcz24_4 : wc.cell? ⟨gb350, 4, none⟩ = some (.int .i64 a0_4) := (bc_ BK350.out 4).trans rfl
   have hcz24_5 : wc.cell? ⟨gb350, 5, none⟩ = some (.int .i64 a0_5) := (bc_ BK350.out 5).trans rfl
   have hcz24_6 : wc.cell? ⟨gb350, 6, none⟩ = some (.int .i64 a0_6) := (bc_ BK350.out 6).trans rfl
   have hcz24_7 : wc.cell? ⟨gb350, 7, none⟩ = some (.slice A0_7 l0_7.length c0_7) := (bc_ BK350.out 7).trans rfl
   have hfz24_0 := bf_ BK350.out 0
   have hfz24_1 := bf_ BK350.out 1
   have hfz24_2 := bf_ BK350.out 2
   have hfz24_3 := bf_ BK350.out 3
   have hfz24_4 := bf_ BK350.out 4
   have hfz24_5 := bf_ BK350.out 5
   have hfz24_6 := bf_ BK350.out 6
   have hfz24_7 := bf_ BK350.out 7
   go_upto_if 32 with (fail)
   go_cut [32] (fun v32 wc => ∃ (kq : Nat) (x32_22 : Bool), v32 = .bool x32_22 ∧ Aside0 (bindleref08_Good.j1 kq a0_2 x32_22 a0_0 a0_1 a0_2 a0_3 a0_4 a0_5 a0_6 l0_7 = some r) ∧ Aside0 (kq ≤ kj1) ∧ Aside0 (wc.heap[gb350]? = some (.cells #[.string a0_0, .string a0_1, .int .u8 a0_2, .int .i64 a0_3, .int .i64 a0_4, .int .i64 a0_5, .int .i64 a0_6, (.slice A0_7 l0_7.length c0_7)] 43 (0, 0))) ∧ Aside0 (Below w.heap.size w wc))
   case first =>
    have H := HC23.out
    clear HC23
    by_cases c25 : a0_2 = 48
    rotate_left
    ·rw [if_neg c25] at H
     have c25b0 : (a0_2 == 48) = false := beq_eq_false_iff_ne.mpr c25
     have c25b1 : (a0_2 != 48) = true := bne_iff_ne.mpr c25
     (first | rw [c25b0] | (simp only [i64_w, i32_w]; rw [c25b0]) | skip)
     have H' := A0_ H
     clear H
     go_wp2
     go_meet
     case rel => exact ⟨_, ((a0_2 == 53)), wr_, H', ⟨by have := HJ1.out; first | omega | exact Nat.le_refl _⟩, ⟨wB_ BK350.out⟩, ⟨wb1_ HB.out GE350.out⟩⟩
    rw [if_pos c25] at H
    have c25b0 : (a0_2 == 48) = true := beq_iff_eq.mpr c25
    have c25b1 : (a0_2 != 48) = false := bne_eq_false_iff_eq.mpr c25
    clear c25
    (first | rw [c25b0] | (simp only [i64_w, i32_w]; rw [c25b0]) | skip)
    have H' := A0_ H
    clear H
    go_wp2
    go_meet
    case rel => exact ⟨_, ((a0_2 == 48)), wr_, H', ⟨by have := HJ1.out; first | omega | exact Nat.le_refl _⟩, ⟨wB_ BK350.out⟩, ⟨wb1_ HB.out GE350.out⟩⟩
   case rest =>
    clear HC23
    try clear c1
    try clear c2
    try clear p2
    try clear c3
    try clear c5
    try clear c7
    try clear c8
    try clear c8b0
    try clear c8b1
    try clear c12
    try clear c12b0
    try clear c12b1
    try clear c18
    try clear c22
    try clear c25
    try clear c25b0
    try clear c25b1
    try clear hcz11_0
    try clear hcz11_1
    try clear hcz11_2
    try clear hcz11_3
    try clear hcz11_4
    try clear hcz11_5
    try clear hcz11_6
    try clear hcz11_7
    try clear hcz13_0
    try clear hcz13_1
    try clear hcz13_2
    try clear hcz13_3
    try clear hcz13_4
    try clear hcz13_5
    try clear hcz13_6
    try clear hcz13_7
    try clear hcz15_0
    try clear hcz15_1
    try clear hcz15_2
    try clear hcz15_3
    try clear hcz15_4
    try clear hcz15_5
    try clear hcz15_6
    try clear hcz15_7
    try clear hcz16_0
    try clear hcz16_1
    try clear hcz16_2
    try clear hcz16_3
    try clear hcz16_4
    try clear hcz16_5
    try clear hcz16_6
    try clear hcz16_7
    try clear hcz18_0
    try clear hcz18_1
    try clear hcz18_2
    try clear hcz18_3
    try clear hcz18_4
    try clear hcz18_5
    try clear hcz18_6
    try clear hcz18_7
    try clear hcz19_0
    try clear hcz19_1
    try clear hcz19_2
    try clear hcz19_3
    try clear hcz19_4
    try clear hcz19_5
    try clear hcz19_6
    try clear hcz19_7
    try clear hcz21_0
    try clear hcz21_1
    try clear hcz21_2
    try clear hcz21_3
    try clear hcz21_4
    try clear hcz21_5
    try clear hcz21_6
    try clear hcz21_7
    try clear hcz24_0
    try clear hcz24_1
    try clear hcz24_2
    try clear hcz24_3
    try clear hcz24_4
    try clear hcz24_5
    try clear hcz24_6
    try clear hcz24_7
    try clear hcz9_0
    try clear hcz9_1
    try clear hcz9_2
    try clear hcz9_3
    try clear hcz9_4
    try clear hcz9_5
    try clear hcz9_6
    try clear hcz9_7
    try clear hfz11_0
    try clear hfz11_1
    try clear hfz11_2
    try clear hfz11_3
    try clear hfz11_4
    try clear hfz11_5
    try clear hfz11_6
    try clear hfz11_7
    try clear hfz13_0
    try clear hfz13_1
    try clear hfz13_2
    try clear hfz13_3
    try clear hfz13_4
    try clear hfz13_5
    try clear hfz13_6
    try clear hfz13_7
    try clear hfz15_0
    try clear hfz15_1
    try clear hfz15_2
    try clear hfz15_3
    try clear hfz15_4
    try clear hfz15_5
    try clear hfz15_6
    try clear hfz15_7
    try clear hfz16_0
    try clear hfz16_1
    try clear hfz16_2
    try clear hfz16_3
    try clear hfz16_4
    try clear hfz16_5
    try clear hfz16_6
    try clear hfz16_7
    try clear hfz18_0
    try clear hfz18_1
    try clear hfz18_2
    try clear hfz18_3
    try clear hfz18_4
    try clear hfz18_5
    try clear hfz18_6
    try clear hfz18_7
    try clear hfz19_0
    try clear hfz19_1
    try clear hfz19_2
    try clear hfz19_3
    try clear hfz19_4
    try clear hfz19_5
    try clear hfz19_6
    try clear hfz19_7
    try clear hfz21_0
    try clear hfz21_1
    try clear hfz21_2
    try clear hfz21_3
    try clear hfz21_4
    try clear hfz21_5
    try clear hfz21_6
    try clear hfz21_7
    try clear hfz24_0
    try clear hfz24_1
    try clear hfz24_2
    try clear hfz24_3
    try clear hfz24_4
    try clear hfz24_5
    try clear hfz24_6
    try clear hfz24_7
    try clear hfz9_0
    try clear hfz9_1
    try clear hfz9_2
    try clear hfz9_3
    try clear hfz9_4
    try clear hfz9_5
    try clear hfz9_6
    try clear hfz9_7
    try clear p2
    obtain ⟨kq, x32_22, rfl, HA, HJ22, BK350, HB⟩ := hcut
    cases kq with
    | zero => exact absurd HA.out (by simp [bindleref08_Good.j1])
    | succ kj22 =>
     have H := HA.out
     clear HA
     simp only [bindleref08_Good.j1] at H
     by_cases c26 : x32_22 = true
     ·subst c26
      have H1 : (some (a0_1.toList == ([] : List UInt8))) = some r := by rw [if_pos rfl] at H; exact H
      clear H
      have H := H1
      clear H1
      obtain rfl := Option.some.inj H
      have hcz27_0 : wc.cell? ⟨gb350, 0, none⟩ = some (.string a0_0) := (bc_ BK350.out 0).trans rfl
      have hcz27_1 : wc.cell? ⟨gb350, 1, none⟩ = some (.string a0_1) := (bc_ BK350.out 1).trans rfl
      have hcz27_2 : wc.cell? ⟨gb350, 2, none⟩ = some (.int .u8 a0_2) := (bc_ BK350.out 2).trans rfl
      have hcz27_3 : wc.cell? ⟨gb350, 3, none⟩ = some (.int .i64 a0_3) := (bc_ BK350.out 3).trans rfl
      have hcz27_4 : wc.cell? ⟨gb350, 4, none⟩ = some (.int .i64 a0_4) := (bc_ BK350.out 4).trans rfl
      have hcz27_5 : wc.cell? ⟨gb350, 5, none⟩ = some (.int .i64 a0_5) := (bc_ BK350.out 5).trans rfl
      have hcz27_6 : wc.cell? ⟨gb350, 6, none⟩ = some (.int .i64 a0_6) := (bc_ BK350.out 6).trans rfl
      have hcz27_7 : wc.cell? ⟨gb350, 7, none⟩ = some (.slice A0_7 l0_7.length c0_7) := (bc_ BK350.out 7).trans rfl
      have hfz27_0 := bf_ BK350.out 0
      have hfz27_1 := bf_ BK350.out 1
      have hfz27_2 := bf_ BK350.out 2
      have hfz27_3 := bf_ BK350.out 3
      have hfz27_4 := bf_ BK350.out 4
      have hfz27_5 := bf_ BK350.out 5
      have hfz27_6 := bf_ BK350.out 6
      have hfz27_7 := bf_ BK350.out 7
      go_wp2
      go_ret
      exact ⟨we_, wb1_ HB.out GE350.out⟩
     replace c26 := Bool.eq_false_iff.mpr c26
     subst c26
     have H1 : (if a0_2 = 49 then ((bindleref08_clean.f kj22 a0_1).bind fun t353 => (some t353)) else (if a0_2 = 50 then ((bindleref08_Target.f kj22 a0_1).bind fun t354 => (some (t354 == 0))) else (some false))) = some r := by rw [if_neg (show ¬ (false = true) by decide)] at H; exact H
     clear H
     have H := H1
     clear H1
     by_cases c28 : a0_2 = 49
     ·rw [if_pos c28] at H
      have c28b0 : (a0_2 == 49) = true := beq_iff_eq.mpr c28
      have c28b1 : (a0_2 != 49) = false := bne_eq_false_iff_eq.mpr c28
      clear c28
      replace H := Option.bind_eq_some_iff.mp H
      obtain ⟨t353, A290, H⟩ := H
      replace H : (some t353) = some r := H
      have A29 := A0_ A290
      clear A290
      obtain rfl := Option.some.inj H
      have hcz30_0 : wc.cell? ⟨gb350, 0, none⟩ = some (.string a0_0) := (bc_ BK350.out 0).trans rfl
      have hcz30_1 : wc.cell? ⟨gb350, 1, none⟩ = some (.string a0_1) := (bc_ BK350.out 1).trans rfl
      have hcz30_2 : wc.cell? ⟨gb350, 2, none⟩ = some (.int .u8 a0_2) := (bc_ BK350.out 2).trans rfl
      have hcz30_3 : wc.cell? ⟨gb350, 3, none⟩ = some (.int .i64 a0_3) := (bc_ BK350.out 3).trans rfl
      have hcz30_4 : wc.cell? ⟨gb350, 4, none⟩ = some (.int .i64 a0_4) := (bc_ BK350.out 4).trans rfl
      have hcz30_5 : wc.cell? ⟨gb350, 5, none⟩ = some (.int .i64 a0_5) := (bc_ BK350.out 5).trans rfl
      have hcz30_6 : wc.cell? ⟨gb350, 6, none⟩ = some (.int .i64 a0_6) := (bc_ BK350.out 6).trans rfl
      have hcz30_7 : wc.cell? ⟨gb350, 7, none⟩ = some (.slice A0_7 l0_7.length c0_7) := (bc_ BK350.out 7).trans rfl
      have hfz30_0 := bf_ BK350.out 0
      have hfz30_1 := bf_ BK350.out 1
      have hfz30_2 := bf_ BK350.out 2
      have hfz30_3 := bf_ BK350.out 3
      have hfz30_4 := bf_ BK350.out 4
      have hfz30_5 := bf_ BK350.out 5
      have hfz30_6 := bf_ BK350.out 6
      have hfz30_7 := bf_ BK350.out 7
      go_wp2_with (first | ((with_reducible refine gate_callee (f := 34) rfl ?_); refine goesL_ (some 42) rfl rfl Tryz.func34 (by kernel_rfl) rfl #[.string a0_1] rfl wm_ ?_; (with_reducible refine (bindleref08_clean.calls kj22 a0_1 t353 _ A29.out).mono ?_); rintro e w' ⟨rfl, ⟨nd, rfl⟩⟩; refine ⟨_, rfl, ?_⟩))
      go_ret
      exact ⟨we_, wb1_ HB.out GE350.out⟩
     rw [if_neg c28] at H
     have c28b0 : (a0_2 == 49) = false := beq_eq_false_iff_ne.mpr c28
     have c28b1 : (a0_2 != 49) = true := bne_iff_ne.mpr c28
     by_cases c31 : a0_2 = 50
     rotate_left
     ·rw [if_neg c31] at H
      have c31b0 : (a0_2 == 50) = false := beq_eq_false_iff_ne.mpr c31
      have c31b1 : (a0_2 != 50) = true := bne_iff_ne.mpr c31
      obtain rfl := Option.some.inj H
      go_wp2
      go_ret
      exact ⟨we_, wb1_ HB.out GE350.out⟩
     rw [if_pos c31] at H
     have c31b0 : (a0_2 == 50) = true := beq_iff_eq.mpr c31
     have c31b1 : (a0_2 != 50) = false := bne_eq_false_iff_eq.mpr c31
     clear c31
     replace H := Option.bind_eq_some_iff.mp H
     obtain ⟨t354, A320, H⟩ := H
     replace H : (some (t354 == 0)) = some r := H
     have A32 := A0_ A320
     clear A320
     obtain rfl := Option.some.inj H
     have hcz33_0 : wc.cell? ⟨gb350, 0, none⟩ = some (.string a0_0) := (bc_ BK350.out 0).trans rfl
     have hcz33_1 : wc.cell? ⟨gb350, 1, none⟩ = some (.string a0_1) := (bc_ BK350.out 1).trans rfl
     have hcz33_2 : wc.cell? ⟨gb350, 2, none⟩ = some (.int .u8 a0_2) := (bc_ BK350.out 2).trans rfl
     have hcz33_3 : wc.cell? ⟨gb350, 3, none⟩ = some (.int .i64 a0_3) := (bc_ BK350.out 3).trans rfl
     have hcz33_4 : wc.cell? ⟨gb350, 4, none⟩ = some (.int .i64 a0_4) := (bc_ BK350.out 4).trans rfl
     have hcz33_5 : wc.cell? ⟨gb350, 5, none⟩ = some (.int .i64 a0_5) := (bc_ BK350.out 5).trans rfl
     have hcz33_6 : wc.cell? ⟨gb350, 6, none⟩ = some (.int .i64 a0_6) := (bc_ BK350.out 6).trans rfl
     have hcz33_7 : wc.cell? ⟨gb350, 7, none⟩ = some (.slice A0_7 l0_7.length c0_7) := (bc_ BK350.out 7).trans rfl
     have hfz33_0 := bf_ BK350.out 0
     have hfz33_1 := bf_ BK350.out 1
     have hfz33_2 := bf_ BK350.out 2
     have hfz33_3 := bf_ BK350.out 3
     have hfz33_4 := bf_ BK350.out 4
     have hfz33_5 := bf_ BK350.out 5
     have hfz33_6 := bf_ BK350.out 6
     have hfz33_7 := bf_ BK350.out 7
     go_wp2_with (first | ((with_reducible refine gate_callee (f := 36) rfl ?_); refine goesL_ (some 47) rfl rfl Tryz.func36 (by kernel_rfl) rfl #[.string a0_1] rfl wm_ ?_; (with_reducible refine (bindleref08_Target.calls kj22 a0_1 t354 _ A32.out).mono ?_); rintro e w' ⟨rfl, ⟨nd, rfl⟩⟩; refine ⟨_, rfl, ?_⟩))
     go_ret
     exact ⟨we_, wb1_ HB.out GE350.out⟩
end Go.Proofs.YtiijbmaamblidaaGreatDoor.Print

namespace Go.Proofs.YtiijbmaamblidaaGreatDoor
open Go.RowKit Go.Proofs.YtiijbmaamblidaaGreatDoor.Print Go.Proofs.YtiijbmaamblidaaGreatDoorW.PrintWords
theorem beq_dec {α : Type} [BEq α] [LawfulBEq α] [DecidableEq α] (a b : α) : (a == b) = decide (a = b) := by
 rw [Bool.eq_iff_iff, beq_iff_eq, decide_eq_true_eq]
theorem mclean_f (s : ByteArray) (h2 : s.size ≤ 8000000000000) : member_clean.f s = some (cleanOk s) := by
 have e : path_Clean.f s = some (cleanF s) := by unfold path_Clean.f; rw [if_pos h2]
 unfold member_clean.f cleanOk
 rw [e, Option.bind_some, beq_dec]
 by_cases h0 : (cleanF s).2 = 0
 ·rw [if_pos h0, decide_eq_true h0, Bool.true_and]
  congr 1
  exact decide_eq_decide.2 ⟨fun h => h.symm, fun h => h.symm⟩
 ·rw [if_neg h0, decide_eq_false h0]; rfl
theorem rclean_f (s : ByteArray) (h : s.size ≤ 140737488351232) : Ev (fun k => bindleref08_clean.f k s) (cleanOk s) := by
 refine Ev.congr (f := fun k => (bindleref01_Clean.f k s).bind fun bt => (if bt.2 = 0 then (some (s.toList == bt.1.toList)) else (some false))) (fun k => rfl) (Ev.bind (RefClean_eq s (by omega)) ?_)
 refine Ev.congr (fun k => ?_) (Ev.now _)
 unfold cleanOk
 rw [beq_dec]
 by_cases h0 : (cleanF s).2 = 0
 ·rw [if_pos h0, decide_eq_true h0, Bool.true_and]
 ·rw [if_neg h0, decide_eq_false h0]; rfl
theorem mmeta_f (m : Met) : member_meta.f m.f0 m.f1 m.f2 m.f3 = some (metaOk m) := by
 unfold member_meta.f num_In.f metaOk
 have hd : ∀ (a b c : Int), (if a ≥ b then some (decide (a ≤ c)) else some false) = some (decide (b ≤ a ∧ a ≤ c)) := by
  intro a b c
  split
  ·congr 1; exact decide_eq_decide.2 (by omega)
  ·congr 1; symm; simp; omega
 simp only [hd, Option.bind_some]
 split
 ·split
  ·split
   ·congr 1
    simp only [decide_eq_true_eq] at *
    exact decide_eq_decide.2 (by omega)
   all_goals (congr 1; simp only [decide_eq_true_eq] at *; symm; simp; omega)
  all_goals (congr 1; simp only [decide_eq_true_eq] at *; symm; simp; omega)
 all_goals (congr 1; simp only [decide_eq_true_eq] at *; symm; simp; omega)
theorem rmeta_f (m : Met) : bindleref08_Meta.f m.f0 m.f1 m.f2 m.f3 = some (metaOk m) := by
 unfold bindleref08_Meta.f metaOk
 repeat' split
 all_goals (congr 1; first | (symm; simp; omega) | (apply decide_eq_decide.2; omega))
theorem mtarget_f (s : ByteArray) (h2 : s.size ≤ 8000000000000) : ∃ r, path_Target.f s = some r ∧ (r == 0) = targetOk s := by
 have e : path_right.f s = some (rightB s) := by unfold path_right.f; rw [if_pos h2]
 have hz : s.toList = [] ↔ s.size = 0 := by rw [Lib.toList_data, ← List.length_eq_zero_iff]; simp
 unfold path_Target.f targetOk
 rw [e, Option.bind_some]
 cases rightB s with
 | false => exact ⟨9, rfl, rfl⟩
 | true =>
  rw [if_pos rfl]
  by_cases h0 : s.toList = []
  ·rw [if_pos h0]
   refine ⟨6, rfl, ?_⟩
   have := hz.1 h0
   simp [this]
  ·rw [if_neg h0]
   have h1 : s.size ≠ 0 := fun e => h0 (hz.2 e)
   by_cases h3 : (s.size : Int) > 200
   ·rw [if_pos h3]
    refine ⟨6, rfl, ?_⟩
    simp
    omega
   ·rw [if_neg h3]
    refine ⟨0, rfl, ?_⟩
    simp
    omega
theorem rtarget_f (s : ByteArray) (h : s.size ≤ 140737488351232) : ∃ r, Ev (fun k => bindleref08_Target.f k s) r ∧ (r == 0) = targetOk s := by
 have e := Text_eq s (by omega)
 have hz : s.toList = [] ↔ s.size = 0 := by rw [Lib.toList_data, ← List.length_eq_zero_iff]; simp
 have start : ∀ r, Ev (fun _ => if rightB s = true then (if s.toList = ([] : List UInt8) then (some 6) else (if (s.size : Int) > 200 then (some 6) else (some 0))) else (some 9)) r → Ev (fun k => bindleref08_Target.f k s) r := fun r hr =>
  Ev.congr (f := fun k => (bindleref01_Text.f k s).bind fun t => (if t = true then (if s.toList = ([] : List UInt8) then (some 6) else (if (s.size : Int) > 200 then (some 6) else (some 0))) else (some 9))) (fun k => rfl) (Ev.bind e hr)
 unfold targetOk
 cases hr : rightB s with
 | false => exact ⟨9, start _ (Ev.congr (fun k => by rw [hr]; rfl) (Ev.now _)), rfl⟩
 | true =>
  by_cases h0 : s.toList = []
  ·refine ⟨6, start _ (Ev.congr (fun k => by rw [hr, if_pos rfl, if_pos h0]) (Ev.now _)), ?_⟩
   have := hz.1 h0
   simp [this]
  ·have h1 : s.size ≠ 0 := fun e => h0 (hz.2 e)
   by_cases h3 : (s.size : Int) > 200
   ·refine ⟨6, start _ (Ev.congr (fun k => by rw [hr, if_pos rfl, if_neg h0, if_pos h3]) (Ev.now _)), ?_⟩
    simp
    omega
   ·refine ⟨0, start _ (Ev.congr (fun k => by rw [hr, if_pos rfl, if_neg h0, if_neg h3]) (Ev.now _)), ?_⟩
    simp
    omega
def kindB (m : Mem) : Bool := if m.f2 = 48 ∨ m.f2 = 53 then decide (m.f1.toList = []) else if m.f2 = 49 then cleanOk m.f1 else if m.f2 = 50 then targetOk m.f1 else false
theorem mj0_f (m : Mem) (b : Bool) (hz : MemZ m) : Ev (fun k => member_Good.j0 k b m.f0 m.f1 m.f2 m.f3.f0 m.f3.f1 m.f3.f2 m.f3.f3 m.f4) (!b && kindB m) := by
 obtain ⟨r, h1, h3⟩ := mtarget_f m.f1 hz.2.1
 have hj1 : Ev (fun k => member_Good.j1 k m.f2 (if m.f2 = 48 then (m.f2 == 48) else (m.f2 == 53)) m.f0 m.f1 m.f2 m.f3.f0 m.f3.f1 m.f3.f2 m.f3.f3 m.f4) (kindB m) := by
  refine Ev.step (f := fun _ => some (kindB m)) (fun k => ?_) (Ev.now _)
  rw [member_Good.j1]
  unfold kindB
  by_cases a : m.f2 = 48
  ·rw [if_pos a, if_pos (by rw [beq_iff_eq]; exact a), if_pos (.inl a), beq_dec]
  ·rw [if_neg a]
   by_cases b : m.f2 = 53
   ·rw [if_pos (by rw [beq_iff_eq]; exact b), if_pos (.inr b), beq_dec]
   ·rw [if_neg (by rw [beq_iff_eq]; exact b), if_neg (show ¬ (m.f2 = 48 ∨ m.f2 = 53) from fun h => h.elim a b)]
    by_cases c : m.f2 = 49
    ·rw [if_pos c, if_pos c, mclean_f _ hz.2.1]; rfl
    ·rw [if_neg c, if_neg c]
     by_cases d : m.f2 = 50
     ·rw [if_pos d, if_pos d, h1, Option.bind_some, h3]
     ·rw [if_neg d, if_neg d]
 cases b with
 | true => exact Ev.step (f := fun _ => some false) (fun k => by rw [member_Good.j0, if_pos rfl]) (Ev.now _)
 | false =>
  refine Ev.step (fun k => ?_) hj1
  rw [member_Good.j0, if_neg (by decide)]
  by_cases a : m.f2 = 48
  ·rw [if_pos a, if_pos a]
  ·rw [if_neg a, if_neg a]
theorem goodM_eq (m : Mem) : goodM m = (cleanOk m.f0 && metaOk m.f3 && !(decide (1048576 < m.f4.length) || (!decide (m.f2 = 48) && decide (0 < m.f4.length))) && kindB m) := by
 unfold goodM kindB
 congr 1
 rw [Bool.and_assoc, Bool.and_assoc, Bool.and_assoc]
 congr 2
 by_cases a : m.f2 = 48 <;> by_cases b : m.f4.length ≤ 1048576 <;> by_cases c : m.f4.length = 0 <;> simp [a, b, c] <;> omega
theorem member_Good_eq (m : Mem) (hz : MemZ m) : Ev (fun k => member_Good.f k m.f0 m.f1 m.f2 m.f3.f0 m.f3.f1 m.f3.f2 m.f3.f3 m.f4) (goodM m) := by
 rw [goodM_eq]
 cases hc : cleanOk m.f0 with
 | false => exact Ev.congr (fun k => by unfold member_Good.f; rw [mclean_f _ hz.1, Option.bind_some, hc, if_neg (by decide)]) (mj0_f m true hz)
 | true =>
  cases hm : metaOk m.f3 with
  | false => exact Ev.congr (fun k => by unfold member_Good.f; rw [mclean_f _ hz.1, Option.bind_some, hc, if_pos rfl, mmeta_f, Option.bind_some, hm, if_neg (by decide)]) (mj0_f m true hz)
  | true =>
   by_cases a : (m.f4.length : Int) > 1048576
   ·rw [decide_eq_true (show 1048576 < m.f4.length by omega)]
    exact Ev.congr (fun k => by unfold member_Good.f; rw [mclean_f _ hz.1, Option.bind_some, hc, if_pos rfl, mmeta_f, Option.bind_some, hm, if_pos rfl, if_pos a]) (mj0_f m true hz)
   ·by_cases b : m.f2 = 48
    ·rw [decide_eq_false (show ¬ 1048576 < m.f4.length by omega), decide_eq_true b]
     exact Ev.congr (fun k => by unfold member_Good.f; rw [mclean_f _ hz.1, Option.bind_some, hc, if_pos rfl, mmeta_f, Option.bind_some, hm, if_pos rfl, if_neg a, if_pos b]) (mj0_f m false hz)
    ·have e : decide ((m.f4.length : Int) > 0) = decide (0 < m.f4.length) := decide_eq_decide.2 (by omega)
     rw [decide_eq_false (show ¬ 1048576 < m.f4.length by omega), decide_eq_false b]
     simp only [Bool.true_and, Bool.false_or, Bool.not_false]
     refine Ev.congr (fun k => ?_) (mj0_f m (decide (0 < m.f4.length)) hz)
     unfold member_Good.f
     rw [mclean_f _ hz.1, Option.bind_some, hc, if_pos rfl, mmeta_f, Option.bind_some, hm, if_pos rfl, if_neg a, if_neg b, e]
theorem rj0_f (m : Mem) (b : Bool) (hz : MemR m) : Ev (fun k => bindleref08_Good.j0 k b m.f0 m.f1 m.f2 m.f3.f0 m.f3.f1 m.f3.f2 m.f3.f3 m.f4) (!b && kindB m) := by
 obtain ⟨r, ⟨K1, h1⟩, h3⟩ := rtarget_f m.f1 hz.2.1
 obtain ⟨K2, h2⟩ := rclean_f m.f1 hz.2.1
 have hj1 : Ev (fun k => bindleref08_Good.j1 k m.f2 (if m.f2 = 48 then (m.f2 == 48) else (m.f2 == 53)) m.f0 m.f1 m.f2 m.f3.f0 m.f3.f1 m.f3.f2 m.f3.f3 m.f4) (kindB m) := by
  refine ⟨K1 + K2 + 1, fun k hk => ?_⟩
  obtain ⟨k, rfl⟩ : ∃ m, k = m + 1 := ⟨k - 1, by omega⟩
  dsimp only at *
  rw [bindleref08_Good.j1]
  unfold kindB
  by_cases a : m.f2 = 48
  ·rw [if_pos a, if_pos (by rw [beq_iff_eq]; exact a), if_pos (.inl a), beq_dec]
  ·rw [if_neg a]
   by_cases b : m.f2 = 53
   ·rw [if_pos (by rw [beq_iff_eq]; exact b), if_pos (.inr b), beq_dec]
   ·rw [if_neg (by rw [beq_iff_eq]; exact b), if_neg (show ¬ (m.f2 = 48 ∨ m.f2 = 53) from fun h => h.elim a b)]
    by_cases c : m.f2 = 49
    ·rw [if_pos c, if_pos c, h2 k (by omega)]; rfl
    ·rw [if_neg c, if_neg c]
     by_cases d : m.f2 = 50
     ·rw [if_pos d, if_pos d, h1 k (by omega), Option.bind_some, h3]
     ·rw [if_neg d, if_neg d]
 cases b with
 | true => exact Ev.step (f := fun _ => some false) (fun k => by rw [bindleref08_Good.j0, if_pos rfl]) (Ev.now _)
 | false =>
  refine Ev.step (fun k => ?_) hj1
  rw [bindleref08_Good.j0, if_neg (by decide)]
  by_cases a : m.f2 = 48
  ·rw [if_pos a, if_pos a]
  ·rw [if_neg a, if_neg a]
theorem refGood_eq (m : Mem) (hz : MemR m) : Ev (fun k => bindleref08_Good.f k m.f0 m.f1 m.f2 m.f3.f0 m.f3.f1 m.f3.f2 m.f3.f3 m.f4) (goodM m) := by
 rw [goodM_eq]
 refine Ev.bind (f := fun k t175 => (if t175 = true then ((bindleref08_Meta.f m.f3.f0 m.f3.f1 m.f3.f2 m.f3.f3).bind fun t176 => (if t176 = true then (if (m.f4.length : Int) > 1048576 then (bindleref08_Good.j0 k true m.f0 m.f1 m.f2 m.f3.f0 m.f3.f1 m.f3.f2 m.f3.f3 m.f4) else (if m.f2 = 48 then (bindleref08_Good.j0 k false m.f0 m.f1 m.f2 m.f3.f0 m.f3.f1 m.f3.f2 m.f3.f3 m.f4) else (bindleref08_Good.j0 k (decide ((m.f4.length : Int) > 0)) m.f0 m.f1 m.f2 m.f3.f0 m.f3.f1 m.f3.f2 m.f3.f3 m.f4))) else (bindleref08_Good.j0 k true m.f0 m.f1 m.f2 m.f3.f0 m.f3.f1 m.f3.f2 m.f3.f3 m.f4))) else (bindleref08_Good.j0 k true m.f0 m.f1 m.f2 m.f3.f0 m.f3.f1 m.f3.f2 m.f3.f3 m.f4))) (rclean_f m.f0 hz.1) ?_
 cases hc : cleanOk m.f0 with
 | false => exact Ev.congr (fun k => by rw [if_neg (by decide)]) (rj0_f m true hz)
 | true =>
  cases hm : metaOk m.f3 with
  | false => exact Ev.congr (fun k => by rw [if_pos rfl, rmeta_f, Option.bind_some, hm, if_neg (by decide)]) (rj0_f m true hz)
  | true =>
   by_cases a : (m.f4.length : Int) > 1048576
   ·rw [decide_eq_true (show 1048576 < m.f4.length by omega)]
    exact Ev.congr (fun k => by rw [if_pos rfl, rmeta_f, Option.bind_some, hm, if_pos rfl, if_pos a]) (rj0_f m true hz)
   ·by_cases b : m.f2 = 48
    ·rw [decide_eq_false (show ¬ 1048576 < m.f4.length by omega), decide_eq_true b]
     exact Ev.congr (fun k => by rw [if_pos rfl, rmeta_f, Option.bind_some, hm, if_pos rfl, if_neg a, if_pos b]) (rj0_f m false hz)
    ·have e : decide ((m.f4.length : Int) > 0) = decide (0 < m.f4.length) := decide_eq_decide.2 (by omega)
     rw [decide_eq_false (show ¬ 1048576 < m.f4.length by omega), decide_eq_false b]
     change Ev _ (!decide (0 < m.f4.length) && kindB m)
     refine Ev.congr (fun k => ?_) (rj0_f m (decide (0 < m.f4.length)) hz)
     rw [if_pos rfl, rmeta_f, Option.bind_some, hm, if_pos rfl, if_neg a, if_neg b, e]
end Go.Proofs.YtiijbmaamblidaaGreatDoor

namespace Go.Proofs.YtiijbmaamblidaaGreatDoor
open Go.RowKit Go.Maps Go.Proofs.YtiijbmaamblidaaGreatDoor.Print Go.Proofs.YtiijbmaamblidaaGreatDoorW.PrintWords Go.Proofs.YtiijbmaamblidaaGreatDoorW.PrintLast Go.Proofs.YtiijbmaamblidaaGreatDoorW.PrintMore
set_option linter.unusedVariables false
set_option linter.unusedSimpArgs false
theorem rdM_at (l : List Mem) (i : Int) (h0 : 0 ≤ i) (h1 : i < l.length) : rd_T43 l i = l[i.toNat]'(by omega) := by
 unfold rd_T43
 rw [List.getD_eq_getElem?_getD, List.getElem?_eq_getElem (by omega)]
 rfl
theorem bcell {W w1 : World} (hb : Below W.heap.size W w1) : (∀ b o, b < W.heap.size → w1.cell? ⟨b, o, none⟩ = W.cell? ⟨b, o, none⟩) ∧ (∀ b o, b < W.heap.size → w1.frozen? ⟨b, o, none⟩ = W.frozen? ⟨b, o, none⟩) :=
 ⟨fun b o h => hb.cell (p := ⟨b, o, none⟩) h, fun b o h => hb.frozen (p := ⟨b, o, none⟩) h⟩
end Go.Proofs.YtiijbmaamblidaaGreatDoor

namespace Go.Proofs.YtiijbmaamblidaaGreatDoor
open Go.RowKit Go.Maps Go.Proofs.YtiijbmaamblidaaGreatDoor.Print Go.Proofs.YtiijbmaamblidaaGreatDoorW.PrintWords Go.Proofs.YtiijbmaamblidaaGreatDoorW.PrintLast Go.Proofs.YtiijbmaamblidaaGreatDoorW.PrintMore
set_option linter.unusedVariables false
set_option linter.unusedSimpArgs false
set_option maxRecDepth 100000 in
set_option maxHeartbeats 1000000 in
theorem Clone_calls (A : Option Addr) (c : Nat) (xs : List Int) (W : World) (hC : Kd.C (Kd.int .u8) W A xs.length xs) (hl : xs.length ≤ 140737488351232) :
  Calls Tryz.prog 43 #[.slice A xs.length c] W fun e W' => ∃ v, e = .returned v ∧ Kd.R (Kd.int .u8) 5 W' W.heap.size (fun _ => True) v xs ∧ Below W.heap.size W W' := by
 rcases A with _ | ad
 ·have h0 : xs = [] := by
   rcases Nat.eq_zero_or_pos xs.length with h | h
   ·exact List.eq_nil_of_length_eq_zero h
   ·obtain ⟨ad, h1, _⟩ := hC.2.2 h
    cases h1
  subst h0
  have hcmp := fun (w : World) => Lib.run_eql_slice_nil (P := Tryz.prog) w 41 5 none 0 c 0 0 Tryz.underlying41
  go_enter Tryz.func43, Tryz.ntmps43
  go_wp2
  go_ret
  exact ⟨_, rfl, Kd.R_nil _ _ _ _ _, Below.refl _ _⟩
 ·have hcmp := fun (w : World) => Lib.run_eql_slice_nil (P := Tryz.prog) w 41 5 (some ad) xs.length c 0 0 Tryz.underlying41
  have hown := own_lit W W.heap.size 5 .u8 [] (Nat.le_refl _) (by decide)
  have HC := Aside0.mk hC
  have HO := Aside0.mk hown
  clear hC hown
  go_enter Tryz.func43, Tryz.ntmps43
  go_wp2_with (at_builtin; refine Kd.R_append_row (Value.int .u8) (0 : Int) (h1 := fun _ => rfl) (w0 := W) W.heap.size rfl _ _ 41 5 (.int .u8 0) 1 rfl Tryz.underlying41 infoU8 rfl (by decide) (.slice (some ⟨W.heap.size, 0, none⟩) 0 0) [] xs (some ad) xs.length c (fun _ => True) rfl rfl (fun _ _ => trivial) (Kd.R_of_own (enc := Value.int .u8) (h1 := fun _ => rfl) HO.out (fun _ _ => trivial)) (Kd.C_alloc HC.out _) ((Below.refl _ _).alloc (Nat.le_refl _) _) (by simp) (by simp; omega) ?_; intro v1 w1 hr1 hb1 hg1 hat1)
  go_ret
  exact ⟨_, rfl, hr1, hb1⟩
end Go.Proofs.YtiijbmaamblidaaGreatDoor

namespace Go.Proofs.YtiijbmaamblidaaGreatDoor
open Go.RowKit Go.Maps Go.Proofs.YtiijbmaamblidaaGreatDoor.Print Go.Proofs.YtiijbmaamblidaaGreatDoorW.PrintWords Go.Proofs.YtiijbmaamblidaaGreatDoorW.PrintLast Go.Proofs.YtiijbmaamblidaaGreatDoorW.PrintMore
set_option linter.unusedVariables false
set_option linter.unusedSimpArgs false
theorem Find1_calls (x : Node) (A : Option Addr) (n c : Nat) (p : ByteArray) (W : World) :
  Calls Tryz.prog 47 #[.agg #[.string x.f0, .string x.f1, .string x.f2, .int .u8 x.f3, .int .i64 x.f4.f0, .int .i64 x.f4.f1, .int .i64 x.f4.f2, .int .i64 x.f4.f3, .slice A n c], .string p] W fun e W' =>
   e = .returned (.int .i64 (Lib.compareBytes x.f0.data.toList p.data.toList)) ∧ Below W.heap.size W W' := by
 go_enter Tryz.func47, Tryz.ntmps47
 go_wp2_with (go_at_call 48; refine (Tryz.strings_Compare _ _ _).mono ?_; rintro e w' ⟨rfl, rfl⟩)
 go_ret
 exact ⟨rfl, (Below.refl _ _).alloc (Nat.le_refl _) _⟩
theorem rdN_at (l : List Node) (i : Int) (h0 : 0 ≤ i) (h1 : i < l.length) : rd_T49 l i = l[i.toNat]'(by omega) := by
 unfold rd_T49
 rw [List.getD_eq_getElem?_getD, List.getElem?_eq_getElem (by omega)]
 rfl
def FoundAt (l : List Node) (p : ByteArray) (n : Int) (b : Bool) : Prop :=
 0 ≤ n ∧ n ≤ l.length ∧ (b = true ↔ ∃ h : n.toNat < l.length, l[n.toNat].f0.toList = p.toList) ∧ (b = false → ∀ (i : Nat) (hi : i < l.length), l[i].f0.toList ≠ p.toList)
def SearchRel (l : List Node) (p : ByteArray) (W : World) (i j : Int) (wr : World) : Prop :=
 0 ≤ i ∧ i ≤ j ∧ j ≤ l.length ∧ (∀ (t : Nat) (ht : t < l.length), (t : Int) < i → lt l[t].f0 p = true) ∧ (∀ (t : Nat) (ht : t < l.length), j ≤ (t : Int) → lt l[t].f0 p = false) ∧ Below W.heap.size W wr
set_option maxRecDepth 100000 in
set_option maxHeartbeats 2000000 in
theorem Search_calls (A0 : Option Addr) (c0 : Nat) (l : List Node) (p : ByteArray) (W : World) (hC : Kd.C k49 W A0 l.length l) (hr : riseB l = true) (hz : NodesZ l) :
  Calls Tryz.prog 46 #[.slice A0 l.length c0, .string p, .func (.func 47) #[] #[]] W fun e W' => ∃ n b, e = .returned (.tuple #[.int .i64 n, .bool b]) ∧ FoundAt l p n b ∧ Below W.heap.size W W' := by
 have HC := Aside0.mk hC
 have HZ := Aside0.mk hz
 have HRI := Aside0.mk hr
 have hlen : (l.length : Int) ≤ 1000000000000 := by have := hz.1; omega
 clear hC hr hz
 generalize hpost : (fun (e : Ending) (W' : World) => ∃ n b, e = .returned (.tuple #[.int .i64 n, .bool b]) ∧ FoundAt l p n b ∧ Below W.heap.size W W') = Q
 have hQ := Aside0.mk hpost
 clear hpost
 go_enter Tryz.func46, Tryz.ntmps46
 go_wp2
 go_loopw [9, 10] (fun i j wr => ∃ n m : Int, i = .int .i64 n ∧ j = .int .i64 m ∧ Aside0 (SearchRel l p W n m wr)) (fun i j _ => (intOf j - intOf i).toNat)
 case atStart => exact ⟨0, _, rfl, rfl, ⟨⟨by omega, by omega, by omega, fun t ht h => by omega, fun t ht h => by omega, Below.refl _ _⟩⟩⟩
 case round =>
  obtain ⟨n, m, rfl, rfl, HR⟩ := hrel
  have h0 := HR.out.1
  have h1 := HR.out.2.1
  have h2 := HR.out.2.2.1
  have HB := Aside0.mk HR.out.2.2.2.2.2
  by_cases hlt : n < m
  ·have c1 : decide (n < m) = true := decide_eq_true hlt
   have hh0 : 0 ≤ (n + m) / 2 := by omega
   have hh1 : (n + m) / 2 < (l.length : Int) := by omega
   obtain ⟨ad, A7, c7, rfl, x0, x1, x2, x3, x4, x5, x6, x7, x8, hl7, hC7⟩ := at_T49 (Kd.C_below HC.out HB.out) ((n + m) / 2) hh0 hh1
   have hx := rdN_at l _ hh0 hh1
   generalize rd_T49 l ((n + m) / 2) = x at hx x0 x1 x2 x3 x4 x5 x6 x7 x8 hl7 hC7
   have HX := Aside0.mk hx
   clear hx hC7 hl7
   go_wp2_with (go_at_call 47; refine (Find1_calls x A7 x.f5.length c7 p _).mono ?_; rintro e w' ⟨rfl, hb⟩)
   ·have hn : Lib.compareBytes x.f0.data.toList p.data.toList < 0 := by assumption
    have hltx : lt x.f0 p = true := by rw [lt_data]; exact (cmp_neg _ _).1 hn
    have hfin : SearchRel l p W ((n + m) / 2 + 1) m w' := by
     refine ⟨by omega, by omega, h2, fun t ht h => ?_, HR.out.2.2.2.2.1, HB.out.trans (hb.mono HB.out.size)⟩
     rcases Nat.lt_or_ge t ((n + m) / 2).toNat with h3 | h3
     ·have := riseB_at HRI.out t ((n + m) / 2).toNat ht (by omega) h3
      rw [← HX.out] at this
      exact lt_trans this hltx
     ·have e : t = ((n + m) / 2).toNat := by omega
      subst e
      rw [← HX.out]; exact hltx
    clear hltx hn hb
    go_roundw
    case rel => exact ⟨_, _, rfl, rfl, ⟨hfin⟩⟩
    case measure => simp [intOf]; omega
   ·have hn : 0 ≤ Lib.compareBytes x.f0.data.toList p.data.toList := by assumption
    have hltx : lt x.f0 p = false := by
     rw [lt_data, Bool.eq_false_iff]
     intro h
     have := (cmp_neg _ _).2 h
     omega
    have hfin : SearchRel l p W n ((n + m) / 2) w' := by
     refine ⟨h0, by omega, by omega, HR.out.2.2.2.1, fun t ht h => ?_, HB.out.trans (hb.mono HB.out.size)⟩
     rcases Nat.lt_or_ge ((n + m) / 2).toNat t with h3 | h3
     ·have := riseB_at HRI.out ((n + m) / 2).toNat t (by omega) ht h3
      rw [← HX.out] at this
      cases h4 : lt l[t].f0 p with
      | false => rfl
      | true =>
       have := lt_trans this h4
       rw [hltx] at this
       cases this
     ·have e : t = ((n + m) / 2).toNat := by omega
      subst e
      rw [← HX.out]; exact hltx
    clear hltx hn hb
    go_roundw
    case rel => exact ⟨_, _, rfl, rfl, ⟨hfin⟩⟩
    case measure => simp [intOf]; omega
  ·have c1 : decide (n < m) = false := decide_eq_false hlt
   obtain rfl : n = m := by omega
   by_cases hnl : n < (l.length : Int)
   ·have c2 : decide (n < (l.length : Int)) = true := decide_eq_true hnl
    obtain ⟨ad, A7, c7, rfl, x0, x1, x2, x3, x4, x5, x6, x7, x8, hl7, hC7⟩ := at_T49 (Kd.C_below HC.out HB.out) n h0 hnl
    have hx := rdN_at l _ h0 hnl
    generalize rd_T49 l n = x at hx x0 x1 x2 x3 x4 x5 x6 x7 x8 hl7 hC7
    have HX := Aside0.mk hx
    clear hx hC7 hl7
    go_wp2_with (go_at_call 47; refine (Find1_calls x A7 x.f5.length c7 p _).mono ?_; rintro e w' ⟨rfl, hb⟩)
    rw [← hQ.out]
    refine ⟨n, _, rfl, ⟨h0, h2, ?_, ?_⟩, HB.out.trans (hb.mono HB.out.size)⟩
    ·rw [beq_iff_eq, cmp_zero, ← Lib.toList_data, ← Lib.toList_data]
     constructor
     ·intro h; exact ⟨by omega, by rw [← HX.out]; exact h⟩
     ·rintro ⟨_, h⟩; rw [← HX.out] at h; exact h
    ·intro h i hi he
     rw [beq_eq_false_iff_ne, ne_eq, cmp_zero, ← Lib.toList_data, ← Lib.toList_data] at h
     rcases Nat.lt_trichotomy i n.toNat with h3 | h3 | h3
     ·exact lt_ne (HR.out.2.2.2.1 i hi (by omega)) he
     ·subst h3; rw [← HX.out] at he; exact h he
     ·have h4 := riseB_at HRI.out n.toNat i (by omega) hi h3
      have h5 := HR.out.2.2.2.2.1 n.toNat (by omega) (by omega)
      have h6 : lt l[n.toNat].f0 p = lt l[n.toNat].f0 l[i].f0 := by unfold lt; rw [he]
      rw [h6, h4] at h5
      cases h5
   ·have c2 : decide (n < (l.length : Int)) = false := decide_eq_false hnl
    go_wp2
    rw [← hQ.out]
    refine ⟨n, false, rfl, ⟨h0, h2, ⟨fun h => (by cases h), fun ⟨h, _⟩ => absurd h (by omega)⟩, fun _ i hi he => ?_⟩, HB.out⟩
    exact lt_ne (HR.out.2.2.2.1 i hi (by omega)) he
theorem below_put {B : Nat} {a w : World} (h : Below B a w) (g j : Nat) (hg : B ≤ g) (u : Value) : Below B a (w.setCell ⟨g, j, none⟩ u) := h.setCell (p := ⟨g, j, none⟩) hg u
theorem row_put {α : Type} {d : Kd α} {e base B : Nat} {w : World} {v : Value} {xs : List α} (h : d.R e w base (fun k => B ≤ k) v xs) (g j : Nat) (hg : g < B) (u : Value) : d.R e (w.setCell ⟨g, j, none⟩ u) base (fun k => B ≤ k) v xs :=
 Kd.R_far h (p := ⟨g, j, none⟩) (fun k hk e => by have : k = g := e; omega) u
def nodeCells (x : Node) (v : Value) : Array Value := #[.string x.f0, .string x.f1, .string x.f2, .int .u8 x.f3, .int .i64 x.f4.f0, .int .i64 x.f4.f1, .int .i64 x.f4.f2, .int .i64 x.f4.f3, v]
set_option maxRecDepth 100000 in
set_option maxHeartbeats 2000000 in
theorem Find_calls (A0 : Option Addr) (c0 : Nat) (l : List Node) (p : ByteArray) (W : World) (hC : Kd.C k49 W A0 l.length l) (hr : riseB l = true) (hz : NodesZ l) :
  Calls Tryz.prog 32 #[.slice A0 l.length c0, .string p] W fun e W' => ∃ x b v, (match findF l p with | some y => x = y ∧ b = true | none => x = z49 ∧ b = false) ∧ e = .returned (.tuple #[.agg (nodeCells x v), .bool b]) ∧ Kd.R (Kd.int .u8) 5 W' W.heap.size (fun _ => True) v x.f5 ∧ Below W.heap.size W W' := by
 have cS := fun W2 (h : Kd.C k49 W2 A0 l.length l) => Search_calls A0 c0 l p W2 h hr hz
 have HC := Aside0.mk hC
 have HZ := Aside0.mk hz
 have HS := Aside0.mk cS
 have HRI := Aside0.mk hr
 have hlen : (l.length : Int) ≤ 1000000000000 := by have := hz.1; omega
 clear hC hz cS hr
 generalize hpost : (fun (e : Ending) (W' : World) => ∃ x b v, (match findF l p with | some y => x = y ∧ b = true | none => x = z49 ∧ b = false) ∧ e = .returned (.tuple #[.agg (nodeCells x v), .bool b]) ∧ Kd.R (Kd.int .u8) 5 W' W.heap.size (fun _ => True) v x.f5 ∧ Below W.heap.size W W') = Q
 have hQ := Aside0.mk hpost
 clear hpost
 go_enter Tryz.func32, Tryz.ntmps32
 go_wp2_with (first
  | (go_at_call 46; refine (HS.out _ (Kd.C_alloc HC.out _)).mono ?_; rintro e w1 ⟨n, b, rfl, hF, hb1⟩; have HF := Aside0.mk hF; clear hF; obtain ⟨hc1, hf1⟩ := bcell hb1; have hz1 : W.heap.size < w1.heap.size := Nat.lt_of_lt_of_le (by simp) hb1.size; have HB1 := Aside0.mk hb1; clear hb1; cases b; all_goals (first | (obtain ⟨hnl, he⟩ := HF.out.2.2.1.1 rfl; have h0 := HF.out.1; have h1 : n < (l.length : Int) := (by omega); have HE := Aside0.mk he; clear he; obtain ⟨ad, A7, c7, rfl, x0, x1, x2, x3, x4, x5, x6, x7, x8, hl7, hC7⟩ := at_T49 (Kd.C_below HC.out (((Below.refl _ _).alloc (Nat.le_refl _) _).trans (HB1.out.mono (by simp)))) n h0 h1; have hx := rdN_at l _ h0 h1; generalize rd_T49 l n = x at hx x0 x1 x2 x3 x4 x5 x6 x7 x8 hl7 hC7; have HX := Aside0.mk hx; have HC7 := Aside0.mk hC7; clear hx hC7) | skip))
  | (go_at_call 43; refine (Clone_calls A7 c7 x.f5 _ (Kd.C_alloc HC7.out _) (by rw [HX.out]; exact (HZ.out.2 _ (List.getElem_mem _)).2.2.2)).mono ?_; rintro e w2 ⟨v, rfl, hR2, hb2⟩; obtain ⟨Av, cv, rfl, hlv, hCv⟩ := Kd.R_reads hR2; clear hlv hCv; obtain ⟨hc2, hf2⟩ := bcell hb2; have HR2 := Aside0.mk hR2; have HB2 := Aside0.mk hb2; clear hR2 hb2))
 ·have hB1 := ((Below.refl W.heap.size W).alloc (Nat.le_refl _) _).trans (HB1.out.mono (by simp))
  refine bodyPost_ret (v := .tuple #[.agg (nodeCells z49 (.slice none 0 0)), .bool false]) (by simp [results, Tryz.results32, go_sem, hc1, hz1, nodeCells, z49, z40]) rfl ?_
  have hfn := findF_none p (HF.out.2.2.2 rfl)
  rw [← hQ.out]
  refine ⟨z49, false, .slice none 0 0, by rw [hfn]; exact ⟨rfl, rfl⟩, rfl, Kd.R_nil _ _ _ _ _, ?_⟩
  repeat (with_reducible refine below_put ?_ _ _ (Nat.le_refl _) _)
  exact hB1
 ·have hB1 := ((Below.refl W.heap.size W).alloc (Nat.le_refl _) _).trans (HB1.out.mono (by simp))
  have hB2 := (hB1.alloc (by have := hB1.size; omega) _).trans (HB2.out.mono (by have := hB1.size; simp; omega))
  have hw2 := fun j => (hc2 W.heap.size j (by simp; omega)).trans ((((Below.refl w1.heap.size w1).alloc (Nat.le_refl _) _).cell (p := ⟨W.heap.size, j, none⟩) hz1).trans (hc1 W.heap.size j (by simp)))
  have hne1 : ¬ w1.heap.size = W.heap.size := by omega
  have hne2 : ¬ W.heap.size = w1.heap.size := by omega
  clear hc1 hf1 hc2 hf2
  refine bodyPost_ret (v := .tuple #[.agg (nodeCells x (.slice Av x.f5.length cv)), .bool true]) (by simp [results, Tryz.results32, go_sem, hw2, hne1, hne2, nodeCells]) rfl ?_
  have hfn := findF_at HRI.out p n.toNat hnl HE.out
  rw [← hQ.out]
  refine ⟨x, true, .slice Av x.f5.length cv, by rw [hfn, ← HX.out]; exact ⟨rfl, rfl⟩, rfl, ?_, ?_⟩
  ·have hR : (Kd.int .u8).R 5 w2 (w1.heap.size + 1) (fun k => w1.heap.size + 1 ≤ k) (.slice Av x.f5.length cv) x.f5 := Kd.R_mono (Kd.R_bound (by have := HR2.out; simpa using this)) (fun k hk => hk.2.1)
   refine Kd.R_lower (base := w1.heap.size + 1) (Kd.R_mono (ok := fun k => w1.heap.size + 1 ≤ k) ?_ (fun _ _ => trivial)) (by omega)
   repeat (with_reducible refine row_put ?_ _ _ (by omega) _)
   exact hR
  ·repeat (with_reducible refine below_put ?_ _ _ (by omega) _)
   exact hB2
end Go.Proofs.YtiijbmaamblidaaGreatDoor

namespace Go.Proofs.YtiijbmaamblidaaGreatDoor
open Go.RowKit Go.Maps Go.Proofs.YtiijbmaamblidaaGreatDoor.Print Go.Proofs.YtiijbmaamblidaaGreatDoorW.PrintWords Go.Proofs.YtiijbmaamblidaaGreatDoorW.PrintLast Go.Proofs.YtiijbmaamblidaaGreatDoorW.PrintMore
set_option linter.unusedVariables false
set_option linter.unusedSimpArgs false
theorem zeroStr (w : World) : (zeroValue 9).run Tryz.prog w = .ok (.string ⟨#[]⟩) w := by kernel_rfl
theorem zeroBool (w : World) : (zeroValue 4).run Tryz.prog w = .ok (.bool false) w := by kernel_rfl
def firstV (f : List (List UInt8 × ByteArray)) : List UInt8 → Option Value := fun s => (lk f s).map Value.string
theorem firstV_put (f : List (List UInt8 × ByteArray)) (s : List UInt8) (v : ByteArray) (t : List UInt8) : putS (firstV f) s (.string v) t = firstV ((s, v) :: f) t := by
 unfold putS firstV
 rw [lk]
 by_cases h : t = s
 ·rw [if_pos h, if_pos h]; rfl
 ·rw [if_neg h, if_neg h]
theorem gcell {W w1 : World} {b : Nat} (hg : W.grownBy w1 (some b)) : (∀ g o, g < W.heap.size → g ≠ b → w1.cell? ⟨g, o, none⟩ = W.cell? ⟨g, o, none⟩) ∧ (∀ g o, g < W.heap.size → g ≠ b → w1.frozen? ⟨g, o, none⟩ = W.frozen? ⟨g, o, none⟩) := by
 constructor
 ·intro g o h hne
  have := hg.block g h (by simpa using fun e => hne e)
  unfold World.cell?
  dsimp only
  rw [this]
 ·intro g o h hne
  have := hg.block g h (by simpa using fun e => hne e)
  unfold World.frozen?
  dsimp only
  rw [this]
theorem map_put {P : Program} {K : TypeId} {w : World} {b n : Nat} {f : List UInt8 → Option Value} (h : MapS P K w b n f) (g j : Nat) (hg : b < g) (u : Value) : MapS P K (w.setCell ⟨g, j, none⟩ u) b n f :=
 h.setCell (a := ⟨g, j, none⟩) (by show b ≠ g; omega) u
theorem int_kept {P : Program} {K : TypeId} {w w1 : World} {b n0 : Nat} {f : List UInt8 → Option Value} (hM : MapS P K w b n0 f) (hg : w.grownBy w1 (some b)) {k : IntKind} {A : Option Addr} {n : Nat} {xs : List Int} (h : Kd.C (Kd.int k) w A n xs) : Kd.C (Kd.int k) w1 A n xs := by
 obtain ⟨D, ⟨es, clock, hb, _⟩, _⟩ := hM
 refine ⟨h.1, h.2.1, fun hn => ?_⟩
 obtain ⟨ad, e, hc⟩ := h.2.2 hn
 refine ⟨ad, e, fun j p hj => ?_⟩
 obtain ⟨c, hs, hr, hcell⟩ := hc j p hj
 refine ⟨c, hs, hr, fun i u hu => ?_⟩
 have h1 := hcell i u hu
 have hlt : (ad.add (j * Kd.sz (Kd.int k) + i)).block < w.heap.size := by
  unfold World.cell? at h1
  rcases Nat.lt_or_ge (ad.add (j * Kd.sz (Kd.int k) + i)).block w.heap.size with h2 | h2
  ·exact h2
  ·rw [Array.getElem?_eq_none (by omega)] at h1; cases h1
 have hne : (ad.add (j * Kd.sz (Kd.int k) + i)).block ≠ b := by
  intro e2
  unfold World.cell? at h1
  rw [e2, hb] at h1
  cases h1
 rw [← h1]
 unfold World.cell?
 rw [hg.block _ hlt (by simpa using hne)]
theorem grown_add {W w w' : World} {row : Option Nat} (h : W.grownBy w row) (hb : Below W.heap.size w w') : W.grownBy w' row :=
 ⟨hb.os.trans h.os, hb.tape.trans h.tape, hb.output.trans h.output, Nat.le_trans h.size hb.size, fun k hk hr => (hb.block k hk).trans (h.block k hk hr)⟩
theorem grown_put {W w : World} {row : Option Nat} (h : W.grownBy w row) (g j : Nat) (hg : W.heap.size ≤ g) (u : Value) : W.grownBy (w.setCell ⟨g, j, none⟩ u) row := grown_add h (below_put (Below.refl _ _) g j hg u)
def memCells (m : Mem) (v : Value) : Array Value := #[.string m.f0, .string m.f1, .int .u8 m.f2, .int .i64 m.f3.f0, .int .i64 m.f3.f1, .int .i64 m.f3.f2, .int .i64 m.f3.f3, v]
set_option maxRecDepth 100000 in
set_option maxHeartbeats 2000000 in
theorem Member_calls (b k : Nat) (f : List (List UInt8 × ByteArray)) (x : Node) (A : Option Addr) (c : Nat) (W : World) (hM : MapS Tryz.prog 9 W b k (firstV f)) (hk : k < 1000000000000) (hC : Kd.C (Kd.int .u8) W A x.f5.length x.f5) (hz : NodeZ x) :
  Calls Tryz.prog 33 #[.map (some b), .agg (nodeCells x (.slice A x.f5.length c))] W fun e W' => ∃ v, e = .returned (.agg (memCells (memF f x).1 v)) ∧ Kd.R (Kd.int .u8) 5 W' W.heap.size (fun _ => True) v (memF f x).1.f4 ∧
   MapS Tryz.prog 9 W' b (k + 1) (firstV (memF f x).2) ∧ W.grownBy W' (some b) := by
 have hb : b < W.heap.size := hM.lt
 have hs2 : x.f2.size ≤ maxLen := by have := hz.2.2.1; unfold maxLen; omega
 have hlook := fun o1 o2 o3 => (((hM.alloc o1).alloc o2).alloc o3).look_ok Tryz.underlying9 Tryz.underlying67 (zeroStr _) hs2
 have HM := Aside0.mk hM
 have HC := Aside0.mk hC
 have HZ := Aside0.mk hz
 clear hM hC hz
 generalize hpost : (fun (e : Ending) (W' : World) => ∃ v, e = .returned (.agg (memCells (memF f x).1 v)) ∧ Kd.R (Kd.int .u8) 5 W' W.heap.size (fun _ => True) v (memF f x).1.f4 ∧
   MapS Tryz.prog 9 W' b (k + 1) (firstV (memF f x).2) ∧ W.grownBy W' (some b)) = Q
 have hQ := Aside0.mk hpost
 clear hpost
 unfold nodeCells
 by_cases h48 : x.f3 = 48
 ·have e48 : (x.f3 == 48) = true := beq_iff_eq.2 h48
  cases ht : (firstV f x.f2.data.toList) with
  | some v =>
   obtain ⟨q, rfl, hq⟩ : ∃ q, v = Value.string q ∧ lk f x.f2.data.toList = some q := by
    unfold firstV at ht
    cases hk : lk f x.f2.data.toList with
    | none => rw [hk] at ht; cases ht
    | some q => rw [hk] at ht; cases ht; exact ⟨q, rfl, rfl⟩
   simp only [ht, Option.getD_some, Option.isSome_some] at hlook
   have HQL := Aside0.mk hq
   have H48 := Aside0.mk h48
   clear ht hq h48
   go_enter Tryz.func33, Tryz.ntmps33
   go_wp2
   have hmf : memF f x = (⟨x.f0, q, 49, x.f4, []⟩, f) := by unfold memF; rw [if_pos H48.out]; simp only [HQL.out]
   refine bodyPost_ret (v := .agg (memCells (memF f x).1 (.slice none 0 0))) (by simp [results, Tryz.results33, go_sem, memCells, hmf]) rfl ?_
   rw [← hQ.out]
   refine ⟨.slice none 0 0, rfl, by rw [hmf]; exact Kd.R_nil _ _ _ _ _, ?_, grown_of_below ?_ _⟩
   ·rw [hmf]
    refine MapS.mono ?_ (Nat.le_succ k)
    repeat (first | with_reducible refine MapS.alloc ?_ _ | with_reducible refine map_put ?_ _ _ (by omega) _)
    exact HM.out
   ·repeat (first | with_reducible refine below_alloc ?_ _ | with_reducible refine below_put ?_ _ _ (by omega) _)
    exact Below.refl _ _
  | none =>
   have hq : lk f x.f2.data.toList = none := by
    unfold firstV at ht
    cases hk : lk f x.f2.data.toList with
    | none => rfl
    | some q => rw [hk] at ht; cases ht
   simp only [ht, Option.getD_none, Option.isSome_none] at hlook
   have HQL := Aside0.mk hq
   have H48 := Aside0.mk h48
   clear ht hq h48
   have hmf : memF f x = (⟨x.f0, x.f1, 48, x.f4, x.f5⟩, (x.f2.data.toList, x.f0) :: f) := by unfold memF; rw [if_pos H48.out]; simp only [HQL.out]
   have HMF := Aside0.mk hmf
   clear hmf
   have hMa := fun o1 o2 o3 => ((HM.out.alloc o1).alloc o2).alloc o3
   have HMA := Aside0.mk hMa
   clear hMa
   have hn0 : ¬ W.heap.size = b := by omega
   have hn1 : ¬ W.heap.size + 1 = b := by omega
   have hn2 : ¬ W.heap.size + 2 = b := by omega
   go_enter Tryz.func33, Tryz.ntmps33
   go_wp2_with (first
    | (at_mapUpdate; refine MapS.wpput (HMA.out _ _ _) rfl _ _ _ rfl Tryz.underlying9 Tryz.underlying67 (by unfold maxLen; omega) rfl rfl hs2 rfl ?_; intro w5 hM5 hturn5; obtain ⟨hc5, hf5⟩ := gcell hturn5.grown; have hz5 := hturn5.grown.size; simp only [World.size_alloc] at hz5; have hp0 : W.heap.size < w5.heap.size := (by omega); have hp1 : W.heap.size + 1 < w5.heap.size := (by omega); have hp2 : W.heap.size + 1 + 1 < w5.heap.size := (by omega); have HM5 := Aside0.mk hM5; have HG5 := Aside0.mk hturn5.grown; clear hM5 hturn5)
    | (go_at_call 43; refine (Clone_calls A c x.f5 _ (int_kept (HMA.out _ _ _) HG5.out (Kd.C_alloc (Kd.C_alloc (Kd.C_alloc HC.out _) _) _)) (HZ.out.2.2.2)).mono ?_; rintro e w6 ⟨v, rfl, hR6, hb6⟩; obtain ⟨Av, cv, rfl, hlv, hCv⟩ := Kd.R_reads hR6; clear hlv hCv; obtain ⟨hc6, hf6⟩ := bcell hb6; have HR6 := Aside0.mk hR6; have HB6 := Aside0.mk hb6; clear hR6 hb6))
   refine bodyPost_ret (v := .agg (memCells (memF f x).1 (.slice Av x.f5.length cv))) (by simp [results, Tryz.results33, go_sem, hc6, hc5, hn0, hn1, hn2, hp0, hp1, hp2, memCells, HMF.out, H48.out]) rfl ?_
   rw [← hQ.out]
   refine ⟨.slice Av x.f5.length cv, rfl, ?_, ?_, ?_⟩
   ·rw [HMF.out]
    refine Kd.R_lower (base := w5.heap.size) (Kd.R_mono (ok := fun k => w5.heap.size ≤ k) ?_ (fun _ _ => trivial)) (by omega)
    repeat (with_reducible refine row_put ?_ _ _ (by omega) _)
    exact Kd.R_mono (Kd.R_bound HR6.out) (fun k hk => hk.2.1)
   ·rw [HMF.out]
    refine MapS.ext ?_ (firstV_put f x.f2.data.toList x.f0)
    repeat (with_reducible refine map_put ?_ _ _ (by omega) _)
    exact HM5.out.below HB6.out
   ·repeat (with_reducible refine grown_put ?_ _ _ (by omega) _)
    refine grown_add ?_ (HB6.out.mono (by omega))
    refine World.grownBy.trans (grown_of_below ?_ _) HG5.out
    repeat (first | with_reducible refine below_alloc ?_ _ | with_reducible refine below_put ?_ _ _ (by omega) _)
    exact Below.refl _ _
 ·have e48 : (x.f3 == 48) = false := beq_eq_false_iff_ne.2 h48
  have hmf : memF f x = (⟨x.f0, x.f1, x.f3, x.f4, x.f5⟩, f) := by unfold memF; rw [if_neg h48]
  have HMF := Aside0.mk hmf
  clear hmf h48
  go_enter Tryz.func33, Tryz.ntmps33
  go_wp2_with (go_at_call 43; refine (Clone_calls A c x.f5 _ (Kd.C_alloc (Kd.C_alloc (Kd.C_alloc HC.out _) _) _) (HZ.out.2.2.2)).mono ?_; rintro e w6 ⟨v, rfl, hR6, hb6⟩; obtain ⟨Av, cv, rfl, hlv, hCv⟩ := Kd.R_reads hR6; clear hlv hCv; obtain ⟨hc6, hf6⟩ := bcell hb6; have HR6 := Aside0.mk hR6; have HB6 := Aside0.mk hb6; clear hR6 hb6)
  refine bodyPost_ret (v := .agg (memCells (memF f x).1 (.slice Av x.f5.length cv))) (by simp [results, Tryz.results33, go_sem, hc6, memCells, HMF.out]) rfl ?_
  rw [← hQ.out]
  refine ⟨.slice Av x.f5.length cv, rfl, ?_, ?_, ?_⟩
  ·rw [HMF.out]
   have hR6 := HR6.out
   simp only [World.size_alloc] at hR6
   refine Kd.R_lower (base := W.heap.size + 1 + 1 + 1) (Kd.R_mono (ok := fun k => W.heap.size + 1 + 1 + 1 ≤ k) ?_ (fun _ _ => trivial)) (by omega)
   repeat (with_reducible refine row_put ?_ _ _ (by omega) _)
   exact Kd.R_mono (Kd.R_bound hR6) (fun k hk => hk.2.1)
  ·rw [HMF.out]
   refine MapS.mono ?_ (Nat.le_succ k)
   repeat (with_reducible refine map_put ?_ _ _ (by omega) _)
   exact (((HM.out.alloc _).alloc _).alloc _).below HB6.out
  ·repeat (with_reducible refine grown_put ?_ _ _ (by omega) _)
   refine grown_add ?_ (HB6.out.mono (by simp only [World.size_alloc]; omega))
   refine grown_of_below ?_ _
   repeat (first | with_reducible refine below_alloc ?_ _ | with_reducible refine below_put ?_ _ _ (by omega) _)
   exact Below.refl _ _
end Go.Proofs.YtiijbmaamblidaaGreatDoor

namespace Go.Proofs.YtiijbmaamblidaaGreatDoor
open Go.RowKit Go.Maps Go.Proofs.YtiijbmaamblidaaGreatDoor.Print Go.Proofs.YtiijbmaamblidaaGreatDoorW.PrintWords Go.Proofs.YtiijbmaamblidaaGreatDoorW.PrintLast Go.Proofs.YtiijbmaamblidaaGreatDoorW.PrintMore
set_option linter.unusedVariables false
set_option linter.unusedSimpArgs false
def seenV (f : List ByteArray) : List UInt8 → Option Value := fun s => if f.any (fun q => decide (q.toList = s)) = true then some (.bool true) else none
theorem seenV_put (f : List ByteArray) (p : ByteArray) (t : List UInt8) : putS (seenV f) p.data.toList (.bool true) t = seenV (p :: f) t := by
 unfold putS seenV
 rw [List.any_cons, Lib.toList_data]
 by_cases h : t = p.data.toList
 ·rw [if_pos h, if_pos (by simp [h])]
 ·rw [if_neg h, decide_eq_false (fun e => h e.symm), Bool.false_or]
theorem findF_some {l : List Node} {p : ByteArray} {x : Node} (h : findF l p = some x) : x ∈ l ∧ x.f0.toList = p.toList := by
 unfold findF at h
 exact ⟨List.mem_of_find?_eq_some h, by simpa using List.find?_some h⟩
theorem foldlM_take {α β : Type} (g : β → α → Option β) (z : β) (l : List α) (i : Nat) (hi : i < l.length) {f : β} (h : (l.take i).foldlM g z = some f) : (l.take (i + 1)).foldlM g z = g f l[i] := by
 rw [List.take_add_one, List.getElem?_eq_getElem hi, List.foldlM_append, h]
 simp
theorem foldlM_none {α β : Type} (g : β → α → Option β) (z : β) (l : List α) (i : Nat) (h : (l.take i).foldlM g z = none) : l.foldlM g z = none := by
 rw [← List.take_append_drop i l, List.foldlM_append, h]
 rfl
theorem members_stop (l : List Node) (order : List ByteArray) (i : Nat) (hi : i < order.length) {s : MemSt} (h : (order.take i).foldlM (stepM l) ⟨[], [], []⟩ = some s) (hs : stepM l s order[i] = none) : membersF l order = ([], 1) := by
 unfold membersF
 split
 ·rfl
 ·rw [foldlM_none (stepM l) _ order (i + 1) (by rw [foldlM_take _ _ _ _ hi h, hs])]
theorem members_end (l : List Node) (order : List ByteArray) (hl : order.length = l.length) {s : MemSt} (h : (order.take order.length).foldlM (stepM l) ⟨[], [], []⟩ = some s) : membersF l order = (s.out, 0) := by
 rw [List.take_length] at h
 unfold membersF
 rw [if_neg (fun e => e hl), h]
theorem memb_keep {W wr w1 w2 w3 : World} {o : Obj} {v : Value} {xs : List Mem} (hN : Kd.N k43 43 wr W.heap.size (fun k => W.heap.size + 2 ≤ k) v xs) (hB : Below W.heap.size W wr) (hw : W.heap.size + 2 ≤ wr.heap.size) (hb1 : Below wr.heap.size wr w1) (hg2 : (w1.alloc o).grownBy w2 (some (W.heap.size + 1))) (hg3 : w2.grownBy w3 (some W.heap.size)) :
  Kd.N k43 43 w3 W.heap.size (fun k => W.heap.size + 2 ≤ k) v xs ∧ Below W.heap.size W w3 ∧ wr.heap.size ≤ w2.heap.size ∧ w2.heap.size ≤ w3.heap.size ∧ (∀ k, v.ownBlock = some k → W.heap.size + 2 ≤ k ∧ k < wr.heap.size) := by
 have h1 := hb1.size
 have h2 := hg2.size
 have h3 := hg3.size
 rw [World.size_alloc] at h2
 refine ⟨Kd.N_grown (Kd.N_grown (Kd.N_alloc (Kd.N_below hN hb1) _) hg2 (fun k hk e => by cases e; omega)) hg3 (fun k hk e => by cases e; omega), ?_, by omega, h3, fun k hk => ⟨hN.1 k hk, Kd.N_lt hN k hk⟩⟩
 have hB1 := (hB.trans (hb1.mono hB.size)).alloc (by omega) o
 have hB2 := hB1.grown hg2 hB1.size (fun j hj => by cases hj; omega)
 exact hB2.grown hg3 hB2.size (fun j hj => by cases hj; exact Nat.le_refl _)
def MembRel (l : List Node) (order : List ByteArray) (W : World) (i : Int) (v : Value) (wr : World) : Prop :=
 0 ≤ i ∧ i ≤ order.length ∧ (∃ s, (order.take i.toNat).foldlM (stepM l) ⟨[], [], []⟩ = some s ∧ s.out.length = i.toNat ∧ MapS Tryz.prog 9 wr W.heap.size i.toNat (firstV s.first) ∧
  MapS Tryz.prog 9 wr (W.heap.size + 1) i.toNat (seenV s.seen) ∧ Kd.N k43 43 wr W.heap.size (fun k => W.heap.size + 2 ≤ k) v s.out) ∧ Below W.heap.size W wr ∧ W.heap.size + 2 ≤ wr.heap.size
set_option maxRecDepth 100000 in
set_option maxHeartbeats 2000000 in
theorem Members_calls (A0 : Option Addr) (c0 : Nat) (l : List Node) (A1 : Option Addr) (c1 : Nat) (order : List ByteArray) (W : World) (hC : Kd.C k49 W A0 l.length l) (hD : Kd.C Kd.string W A1 order.length order) (hr : riseB l = true) (hz : NodesZ l) :
  Calls Tryz.prog 17 #[.slice A0 l.length c0, .slice A1 order.length c1] W fun e W' => ∃ v, e = .returned (.tuple #[v, .int .i64 (membersF l order).2]) ∧ Kd.V k43 43 W' W.heap.size (fun k => W.heap.size ≤ k) v (membersF l order).1 ∧ Below W.heap.size W W' := by
 have hmm := @run_makeMap Tryz.prog
 have cF := fun p W2 (h : Kd.C k49 W2 A0 l.length l) => Find_calls A0 c0 l p W2 h hr hz
 have HC := Aside0.mk hC
 have HD := Aside0.mk hD
 have HZ := Aside0.mk hz
 have HFN := Aside0.mk cF
 have hlen : (l.length : Int) ≤ 1000000000000 := by have := hz.1; omega
 clear hC hz cF hr hD
 generalize hpost : (fun (e : Ending) (W' : World) => ∃ v, e = .returned (.tuple #[v, .int .i64 (membersF l order).2]) ∧ Kd.V k43 43 W' W.heap.size (fun k => W.heap.size ≤ k) v (membersF l order).1 ∧ Below W.heap.size W W') = Q
 have hQ := Aside0.mk hpost
 clear hpost
 by_cases hne : order.length = l.length
 case neg =>
  have hb : ((order.length : Int) != (l.length : Int)) = true := by rw [bne_iff_ne]; omega
  have HNE := Aside0.mk hne
  clear hne
  go_enter Tryz.func17, Tryz.ntmps17
  go_wp2
  rw [← hQ.out]
  have he : membersF l order = ([], 1) := by unfold membersF; rw [if_pos HNE.out]
  exact ⟨.slice none 0 0, by rw [he]; rfl, by rw [he]; exact Kd.V_nil _ _ _ _ _, Below.refl _ _⟩
 case pos =>
  have hb : ((order.length : Int) != (l.length : Int)) = false := by rw [bne_eq_false_iff_eq]; omega
  have hlo : (order.length : Int) ≤ 1000000000000 := by omega
  have HE := Aside0.mk hne
  clear hne
  go_enter Tryz.func17, Tryz.ntmps17
  go_wp2
  go_loopw [22, 8] (fun i o wr => ∃ n : Int, i = .int .i64 n ∧ Aside0 (MembRel l order W n o wr)) (fun i _ _ => (order.length - (intOf i)).toNat)
  case atStart =>
   refine ⟨0, rfl, ⟨⟨by omega, by omega, ⟨⟨[], [], []⟩, rfl, rfl, ?_, ?_, Kd.N_nil _ _ _ _ _⟩, ?_, by simp⟩⟩⟩
   ·exact ((MapS.made _ _ _).ext (fun s => rfl)).alloc _
   ·have h := MapS.made Tryz.prog 9 (W.alloc (.map #[] 0))
    rw [World.size_alloc] at h
    exact h.ext (fun s => rfl)
   ·exact ((Below.refl _ _).alloc (Nat.le_refl _) _).alloc (by simp) _
  case round =>
   obtain ⟨n, rfl, HR⟩ := hrel
   have h0 := HR.out.1
   have h1 := HR.out.2.1
   obtain ⟨s, hs, hsl, hM1, hM2, hN⟩ := HR.out.2.2.1
   have hB := HR.out.2.2.2.1
   have hw2 := HR.out.2.2.2.2
   have HB := Aside0.mk hB
   have HS := Aside0.mk hs
   have HM1 := Aside0.mk hM1
   have HM2 := Aside0.mk hM2
   have HNN := Aside0.mk hN
   obtain ⟨Ao, co, rfl⟩ := Kd.N_slice hN
   have HSL := Aside0.mk hsl
   clear hs hM1 hM2 hN hsl
   by_cases hlt : n < (order.length : Int)
   ·have c1b : decide (n < (order.length : Int)) = true := decide_eq_true hlt
    obtain ⟨ad, rfl, x0⟩ := Kd.at_string (Kd.C_below HD.out hB) n h0 hlt
    have hx : rdOf ByteArray.empty order n = order[n.toNat]'(by omega) := by
     unfold rdOf
     rw [List.getD_eq_getElem?_getD, List.getElem?_eq_getElem (by omega)]
     rfl
    generalize rdOf ByteArray.empty order n = p at hx x0
    have HX := Aside0.mk hx
    have HCw := Aside0.mk (Kd.C_below HC.out hB)
    clear hx hB
    cases hfp : findF l p with
    | none =>
     have HFP := Aside0.mk hfp
     clear hfp
     go_wp2_with (go_at_call 32; refine (HFN.out p _ HCw.out).mono ?_; rintro e w1 ⟨x, b, v, hm, rfl, hR1, hb1⟩; rw [HFP.out] at hm; obtain ⟨rfl, rfl⟩ := hm; obtain ⟨Av, cv, rfl, hlv, hCv⟩ := Kd.R_reads hR1; clear hlv hCv hR1; have HB1 := Aside0.mk hb1; clear hb1; simp only [nodeCells])
     rw [← hQ.out]
     have he : membersF l order = ([], 1) := members_stop l order n.toNat (by omega) HS.out (by rw [← HX.out]; unfold stepM; rw [HFP.out])
     refine ⟨.slice none 0 0, by rw [he]; rfl, by rw [he]; exact Kd.V_nil _ _ _ _ _, ?_⟩
     have hB1 := HB.out.trans (HB1.out.mono HB.out.size)
     repeat (first | with_reducible refine below_put ?_ _ _ (by have := hB1.size; simp; omega) _ | with_reducible refine Below.alloc ?_ hB1.size _)
     exact hB1
    | some y =>
     obtain ⟨hyl, hyp⟩ := findF_some hfp
     have hyz := HZ.out.2 _ hyl
     have hps : p.size ≤ maxLen := by
      have h2 : p.size = y.f0.size := by
       have := congrArg List.length hyp
       rw [Lib.toList_data, Lib.toList_data] at this
       rw [Array.length_toList, Array.length_toList] at this
       exact this.symm
      have := hyz.1
      unfold maxLen; omega
     have HFP := Aside0.mk hfp
     have HYZ := Aside0.mk hyz
     clear hfp hyl hyp hyz
     cases hsn : seenV s.seen p.data.toList with
     | some u =>
      obtain rfl : u = .bool true := by
       unfold seenV at hsn
       split at hsn
       ·cases hsn; rfl
       ·cases hsn
      have hany : s.seen.any (fun q => decide (q.toList = p.toList)) = true := by
       unfold seenV at hsn
       rw [← Lib.toList_data] at hsn
       split at hsn
       ·assumption
       ·cases hsn
      have HAN := Aside0.mk hany
      have HSN := Aside0.mk hsn
      clear hany hsn
      go_wp2_with (go_at_call 32; refine (HFN.out p _ HCw.out).mono ?_; rintro e w1 ⟨x, b, v, hm, rfl, hR1, hb1⟩; rw [HFP.out] at hm; obtain ⟨rfl, rfl⟩ := hm; obtain ⟨Av, cv, rfl, hlv, hCv⟩ := Kd.R_reads hR1; clear hlv hCv hR1; have HB1 := Aside0.mk hb1; have hlook := fun o => ((HM2.out.below hb1).alloc o).look Tryz.underlying9 Tryz.underlying68 (zeroBool _) hps; simp only [HSN.out, Option.getD_some] at hlook; clear hb1; simp only [nodeCells])
      rw [← hQ.out]
      have he : membersF l order = ([], 1) := members_stop l order n.toNat (by omega) HS.out (by rw [← HX.out]; unfold stepM; rw [HFP.out]; dsimp only; rw [if_pos HAN.out])
      refine ⟨.slice none 0 0, by rw [he]; rfl, by rw [he]; exact Kd.V_nil _ _ _ _ _, ?_⟩
      have hB1 := HB.out.trans (HB1.out.mono HB.out.size)
      repeat (first | with_reducible refine below_put ?_ _ _ (by have := hB1.size; simp; omega) _ | with_reducible refine Below.alloc ?_ hB1.size _)
      exact hB1
     | none =>
      have hany : ¬ s.seen.any (fun q => decide (q.toList = p.toList)) = true := by
       unfold seenV at hsn
       rw [← Lib.toList_data] at hsn
       split at hsn
       ·cases hsn
       ·assumption
      have HAN := Aside0.mk hany
      have HSN := Aside0.mk hsn
      clear hany hsn
      have hne1 : ¬ W.heap.size = W.heap.size + 1 := by omega
      go_wp2_with (first
       | (go_at_call 32; refine (HFN.out p _ HCw.out).mono ?_; rintro e w1 ⟨x, b, v, hm, rfl, hR1, hb1⟩; rw [HFP.out] at hm; obtain ⟨rfl, rfl⟩ := hm; obtain ⟨Av, cv, rfl, hlv, hCv⟩ := Kd.R_reads hR1; clear hlv hR1; have hlook := fun o => ((HM2.out.below hb1).alloc o).look Tryz.underlying9 Tryz.underlying68 (zeroBool _) hps; simp only [HSN.out, Option.getD_none] at hlook; have hM2a := fun o => (HM2.out.below hb1).alloc o; have hM1a := fun o => (HM1.out.below hb1).alloc o; have HMA := Aside0.mk hM2a; have HMB := Aside0.mk hM1a; have HCV := Aside0.mk hCv; have HB1 := Aside0.mk hb1; have hz1 : W.heap.size + 2 ≤ w1.heap.size := (by have := hb1.size; omega); have hnb : ¬ w1.heap.size = W.heap.size + 1 := (by omega); clear hb1 hM2a hM1a hCv; simp only [nodeCells])
       | (at_mapUpdate; refine MapS.wpput (HMA.out _) rfl _ _ _ rfl Tryz.underlying9 Tryz.underlying68 (by unfold maxLen; omega) rfl rfl hps rfl ?_; intro w2 hM2 hturn; obtain ⟨hc2, hf2⟩ := gcell hturn.grown; have hz2 := hturn.grown.size; simp only [World.size_alloc] at hz2; have hM1c := (HMB.out _).kept hturn.grown (by simp); have hCc := int_kept (HMA.out _) hturn.grown (Kd.C_alloc HCV.out _); have HM1c := Aside0.mk hM1c; have HCc := Aside0.mk hCc; have HM2c := Aside0.mk hM2; have HG2 := Aside0.mk hturn.grown; clear hM2 hturn hM1c hCc)
       | (go_at_call 33; refine (Member_calls W.heap.size n.toNat s.first x Av cv _ HM1c.out (by omega) HCc.out HYZ.out).mono ?_; rintro e w3 ⟨v3, rfl, hR3, hM3, hg3⟩; obtain ⟨A3, c3, rfl, hl3, hC3⟩ := Kd.R_reads hR3; have HL3 := Aside0.mk hl3; clear hC3 hl3; have HR3 := Aside0.mk hR3; have HM3 := Aside0.mk hM3; have HG3 := Aside0.mk hg3; clear hR3 hM3 hg3; simp only [memCells])
       | (at_builtin; obtain ⟨hN3, hB3, hz12, hz23, hob⟩ := memb_keep HNN.out HB.out hw2 HB1.out HG2.out HG3.out; have hFK : Kd.FK k43 w3 (fun k => w2.heap.size ≤ k ∧ k < w3.heap.size) (memF s.first x).1 [.string (memF s.first x).1.f0, .string (memF s.first x).1.f1, .int .u8 (memF s.first x).1.f2, .int .i64 (memF s.first x).1.f3.f0, .int .i64 (memF s.first x).1.f3.f1, .int .i64 (memF s.first x).1.f3.f2, .int .i64 (memF s.first x).1.f3.f3, .slice A3 (memF s.first x).1.f4.length c3] := k43_mkF w3 _ _ HL3.out (Kd.R_F (Kd.R_mono (Kd.R_bound HR3.out) (fun k hk => ⟨hk.2.1, hk.2.2.1⟩))); refine Kd.N_append k43 (w0 := W) W.heap.size rfl _ _ 22 43 (.agg #[(.string ⟨#[]⟩), (.string ⟨#[]⟩), (.int .u8 0), (.int .i64 0), (.int .i64 0), (.int .i64 0), (.int .i64 0), (.slice none 0 0)]) 96 rfl Tryz.underlying22 infoMem rfl (by decide) (by decide) (.slice Ao s.out.length co) s.out (memF s.first x).1 [.string (memF s.first x).1.f0, .string (memF s.first x).1.f1, .int .u8 (memF s.first x).1.f2, .int .i64 (memF s.first x).1.f3.f0, .int .i64 (memF s.first x).1.f3.f1, .int .i64 (memF s.first x).1.f3.f2, .int .i64 (memF s.first x).1.f3.f3, .slice A3 (memF s.first x).1.f4.length c3] (fun k => W.heap.size + 2 ≤ k) (fun k => w2.heap.size ≤ k ∧ k < w3.heap.size) rfl rfl hFK (fun k hk => ⟨by have := hk.1; omega, fun e => by have := (hob k e.symm).2; have := hk.1; omega⟩) (fun k hk => by omega) hN3 hB3 (by omega) (by have := HSL.out; omega) ?_; intro v4 w4 hN4 hB4 hg4 hat4; have hne : ∀ k, k < W.heap.size + 2 → some k ≠ (Value.slice Ao s.out.length co).ownBlock := (fun k hk e => by have := (hob k e.symm).1; omega); have hM4 := HM3.out.kept hg4 (hne _ (by omega)); have hM4b := (HM2c.out.kept HG3.out (by simp)).kept hg4 (hne _ (by omega)); have HN4 := Aside0.mk hN4; have HB4 := Aside0.mk hB4; have HM4 := Aside0.mk hM4; have HM4b := Aside0.mk hM4b; have hz4 : W.heap.size + 2 ≤ w4.heap.size := (by have := hg4.size; omega); clear hN4 hB4 hM4 hM4b hg4 hat4 hN3 hB3 hFK hob hne))
      have hfin : MembRel l order W (n + 1) v4 w4 := by
       refine ⟨by omega, by omega, ⟨⟨p :: s.seen, (memF s.first x).2, s.out ++ [(memF s.first x).1]⟩, ?_, ?_, ?_, ?_, HN4.out⟩, HB4.out, hz4⟩
       ·rw [show (n + 1).toNat = n.toNat + 1 from by omega, foldlM_take _ _ _ n.toNat (by omega) HS.out, ← HX.out]
        unfold stepM
        rw [HFP.out]
        dsimp only
        rw [if_neg HAN.out]
       ·have := HSL.out
        simp only [List.length_append, List.length_cons, List.length_nil]
        omega
       ·rw [show (n + 1).toNat = n.toNat + 1 from by omega]
        exact HM4.out
       ·rw [show (n + 1).toNat = n.toNat + 1 from by omega]
        exact HM4b.out.ext (fun t => seenV_put s.seen p t)
      go_roundw
      case rel => exact ⟨n + 1, by go_num, ⟨hfin⟩⟩
      case measure => simp [intOf]; omega
   ·have c1b : decide (n < (order.length : Int)) = false := decide_eq_false hlt
    go_wp2
    rw [← hQ.out]
    have he : membersF l order = (s.out, 0) := members_end l order HE.out (by rw [show order.length = n.toNat from by omega]; exact HS.out)
    refine ⟨_, by rw [he], ?_, HB.out⟩
    rw [he]
    exact Kd.V_mono (Kd.N_V HNN.out) (fun k hk => by omega)
end Go.Proofs.YtiijbmaamblidaaGreatDoor

namespace Go.Proofs.YtiijbmaamblidaaGreatDoor.Print
open Go.RowKit Go.Proofs.YtiijbmaamblidaaGreatDoor Go.Proofs.YtiijbmaamblidaaGreatDoorW.PrintWords Go.Proofs.YtiijbmaamblidaaGreatDoorW.PrintLast Go.Proofs.YtiijbmaamblidaaGreatDoorW.PrintMore
set_option linter.unusedVariables false
def links_Members.f (l : List S49) (order : List ByteArray) : Option (List S43 × Int) :=
 if riseB l = true ∧ nodesZ l = true then some (membersF l order) else none
theorem links_Members.calls (A0 : Option Addr) (c0 : Nat) (l0 : List S49) (A1 : Option Addr) (c1 : Nat) (l1 : List ByteArray) (r1 : List S43) (r2 : Int) (w : World) (hr0 : Kd.C k49 w A0 l0.length l0) (hc0 : l0.length ≤ c0) (hr1 : Kd.C Kd.string w A1 l1.length l1) (hc1 : l1.length ≤ c1) (h : links_Members.f l0 l1 = some (r1, r2)) :
  Calls Tryz.prog 17 #[.slice A0 l0.length c0, .slice A1 l1.length c1] w fun e w' => ∃ v0_ : Value, e = .returned (.tuple #[v0_, .int .i64 r2]) ∧ Kd.V k43 43 w' w.heap.size (fun k_ => w.heap.size ≤ k_) v0_ r1 ∧ Below w.heap.size w w' := by
 unfold links_Members.f at h
 split at h
 ·rename_i hc
  simp only [Option.some.injEq] at h
  refine (Members_calls A0 c0 l0 A1 c1 l1 w hr0 hr1 hc.1 ((nodesZ_iff l0).1 hc.2)).mono ?_
  rintro e w' ⟨v, rfl, hV, hB⟩
  rw [h] at hV ⊢
  exact ⟨v, rfl, hV, hB⟩
 ·cases h
end Go.Proofs.YtiijbmaamblidaaGreatDoor.Print

namespace Go.Proofs.YtiijbmaamblidaaGreatDoor
open Go.RowKit Go.Proofs.YtiijbmaamblidaaGreatDoor.Print Go.Proofs.YtiijbmaamblidaaGreatDoorW.PrintWords
set_option linter.unusedVariables false
theorem members_from (l : List Node) (f : List (List UInt8 × ByteArray)) (x : Node) (hf : ∀ q r, lk f q = some r → r.size ≤ 8000000000000) (hx : NodeZ x) (hp : x.f0.size ≤ 8000000000000 ∧ x.f1.size ≤ 8000000000000) : MemZ (memF f x).1 ∧ ∀ q r, lk (memF f x).2 q = some r → r.size ≤ 8000000000000 := by
 unfold memF
 by_cases h48 : x.f3 = 48
 ·rw [if_pos h48]
  cases hl : lk f x.f2.data.toList with
  | some q => exact ⟨⟨hp.1, hf _ _ hl, by show ([] : List Int).length ≤ _; simp⟩, hf⟩
  | none =>
   refine ⟨⟨hp.1, hp.2, hx.2.2.2⟩, fun q r h => ?_⟩
   dsimp only at h
   rw [lk] at h
   split at h
   ·cases h; exact hp.1
   ·exact hf q r h
 ·rw [if_neg h48]
  exact ⟨⟨hp.1, hp.2, hx.2.2.2⟩, hf⟩
theorem fold_memZ {l : List Node} (hx : ∀ x ∈ l, NodeZ x ∧ x.f0.size ≤ 8000000000000 ∧ x.f1.size ≤ 8000000000000) : ∀ (rest : List ByteArray) (s s' : MemSt), rest.foldlM (stepM l) s = some s' → (∀ m ∈ s.out, MemZ m) → (∀ q r, lk s.first q = some r → r.size ≤ 8000000000000) → (∀ m ∈ s'.out, MemZ m) ∧ s'.out.length = s.out.length + rest.length := by
 intro rest
 induction rest with
 | nil => intro s s' h h1 h2; obtain rfl : s = s' := Option.some.inj h; exact ⟨h1, rfl⟩
 | cons p rest ih =>
  intro s s' h h1 h2
  rw [List.foldlM_cons] at h
  cases hs : stepM l s p with
  | none => rw [hs] at h; cases h
  | some s1 =>
   rw [hs] at h
   unfold stepM at hs
   cases hf : findF l p with
   | none => rw [hf] at hs; cases hs
   | some x =>
    rw [hf] at hs
    dsimp only at hs
    split at hs
    ·cases hs
    ·simp only [Option.some.injEq] at hs
     subst hs
     obtain ⟨g1, g2, g3⟩ := hx x (findF_mem hf).1
     obtain ⟨k1, k2⟩ := members_from l s.first x h2 g1 ⟨g2, g3⟩
     obtain ⟨r1, r2⟩ := ih _ s' h (fun m hm => by
      rcases List.mem_append.1 hm with hm | hm
      ·exact h1 m hm
      ·rw [List.mem_singleton] at hm; rw [hm]; exact k1) k2
     exact ⟨r1, by rw [r2]; simp; omega⟩
theorem cleanF_short (s : ByteArray) (h : (cleanF s).2 = 0) : (cleanF s).1.size ≤ 200 := by
 unfold cleanF at h ⊢
 by_cases a : rightB s = false
 ·rw [if_pos a] at h; cases h
 ·rw [if_neg a] at h ⊢
  by_cases b : Lib.hasPrefix s.data.toList [47] = true
  ·rw [if_pos b] at h; cases h
  ·rw [if_neg b] at h ⊢
   by_cases c : (splitS s).any isUp = true
   ·rw [if_pos c] at h; cases h
   ·rw [if_neg c] at h ⊢
    by_cases d : ((outOf s).toList == [] || decide (200 < (outOf s).size)) = true
    ·rw [if_pos d] at h; cases h
    ·rw [if_neg d]
     rw [Bool.or_eq_true, not_or, decide_eq_true_iff] at d
     have := d.2
     show (outOf s).size ≤ 200
     omega
theorem clean_short {p : ByteArray} (h : cleanOk p = true) : p.size ≤ 200 := by
 unfold cleanOk at h
 rw [Bool.and_eq_true, decide_eq_true_iff, decide_eq_true_iff] at h
 have h2 := cleanF_short p h.1
 rw [ba_ext h.2]
 exact h2
theorem good_short {x : Node} (h : goodM (memOf x) = true) : x.f0.size ≤ 200 ∧ x.f1.size ≤ 200 := by
 refine ⟨clean_short (goodM_clean h).1, ?_⟩
 unfold goodM at h
 simp only [Bool.and_eq_true] at h
 have h2 := h.2
 split at h2
 ·have := ba_ext (b := (⟨#[]⟩ : ByteArray)) (by rw [of_decide_eq_true h2, Lib.toList_data])
  have h3 : (memOf x).f1 = x.f1 := rfl
  rw [← h3, this]
  exact Nat.zero_le _
 ·split at h2
  ·exact clean_short h2
  ·split at h2
   ·unfold targetOk at h2
    rw [Bool.and_eq_true, decide_eq_true_iff] at h2
    exact h2.2.2
   ·cases h2
theorem members_Z {l : List Node} (hz : ∀ x ∈ l, NodeZ x) (hg : goodTree l = true) (hl : l.length ≤ 1000000000000) (order : List ByteArray) : memsZ (membersF l order).1 = true := by
 rw [memsZ_iff]
 unfold membersF
 split
 ·exact ⟨Nat.zero_le _, by simp⟩
 ·rename_i ho
  cases hf : order.foldlM (stepM l) ⟨[], [], []⟩ with
  | none => exact ⟨Nat.zero_le _, by simp⟩
  | some s =>
   have hsh := fun x (hx : x ∈ l) => good_short ((good_parts hg).2.1 x hx).2
   obtain ⟨h1, h2⟩ := fold_memZ (fun x hx => ⟨hz x hx, by have := (hsh x hx).1; omega, by have := (hsh x hx).2; omega⟩) order _ s hf (by simp) (fun q r h => by cases h)
   refine ⟨?_, h1⟩
   rw [h2]
   have : order.length = l.length := Decidable.of_not_not ho
   simp
   omega
end Go.Proofs.YtiijbmaamblidaaGreatDoor

namespace Go.Proofs.YtiijbmaamblidaaGreatDoor
open Go.RowKit Go.Proofs.YtiijbmaamblidaaGreatDoor.Print Go.Proofs.YtiijbmaamblidaaGreatDoorW.PrintWords
set_option linter.unusedVariables false
def flatF (l : List Mem) : List Mem × Int × Int := if (foldF l).2.1 = 0 then ((membersF (foldF l).1 (orderF l)).1, (membersF (foldF l).1 (orderF l)).2, 0) else ([], (foldF l).2.1, (foldF l).2.2)
theorem fold_ok {l : List Mem} (hz : MemsZ l) (h0 : (foldF l).2.1 = 0) : l.findIdx? (fun m => !goodM m) = none ∧ ∃ s, stepsF l l.length = some s ∧ FInv l l.length s ∧ foldF l = ((sortP s).map (nodeOf l (sortP s)), 0, 0) := by
 cases hg : l.findIdx? (fun m => !goodM m) with
 | some i => rw [foldF_bad hg] at h0; cases h0
 | none =>
  refine ⟨rfl, ?_⟩
  rcases steps_all l l.length with ⟨s, hs⟩ | ⟨j, s, hj, h1, h2⟩
  ·exact ⟨s, hs, finv_of hg hz l.length s hs (Nat.le_refl _), foldF_end hg hs⟩
  ·rw [foldF_stop hg hj h1 h2] at h0; cases h0
theorem order_paths {l : List Mem} (hz : MemsZ l) (h0 : (foldF l).2.1 = 0) : (orderF l).Perm ((foldF l).1.map (fun x => x.f0)) := by
 obtain ⟨hg, s, hs, hI, hf⟩ := fold_ok hz h0
 have h1 := order_steps l.length s hs (Nat.le_refl _)
 rw [List.take_length] at h1
 rw [hf, ← h1]
 have e : ((sortP s).map (nodeOf l (sortP s))).map (fun x => x.f0) = (sortP s).map (fun q => q.1) := by
  rw [List.map_map]
  rfl
 rw [e]
 exact (sortP_perm s).symm.map _
structure FlatOk (l : List Mem) : Prop where
 good : goodTree (foldF l).1 = true
 nodes : NodesG (foldF l).1
 is : flatF l = ((membersF (foldF l).1 (orderF l)).1, 0, 0)
 zero : (membersF (foldF l).1 (orderF l)).2 = 0
 sound : soundF (flatF l).1 = true
 paths : (flatF l).1.map (fun m => m.f0) = orderF l
 back : ∃ u, foldF (flatF l).1 = (u, 0, 0) ∧ sameB (foldF l).1 u = true
 z : MemsZ (flatF l).1
 len : (flatF l).1.length ≤ l.length
theorem flat_ok {l : List Mem} (hz : MemsZ l) (h4 : l.length ≤ 4096) (h0 : (foldF l).2.1 = 0) : FlatOk l := by
 obtain ⟨hle, hgd⟩ := fold_good hz h4
 obtain ⟨hg, hn⟩ := hgd h0
 have hp := order_paths hz h0
 have hlen : (orderF l).length = (foldF l).1.length := by rw [hp.length_eq, List.length_map]
 have hfi : ∀ p ∈ orderF l, (findF (foldF l).1 p).isSome = true := fun p h => findF_is.2 (hp.mem_iff.1 h)
 obtain ⟨m1, m2, m3⟩ := members_good hg hlen hfi (order_nodup l)
 obtain ⟨b1, b2⟩ := tree_back hg hp
 have hmz := members_Z (fun x hx => (hn.1.2 x hx)) hg hn.1.1 (orderF l)
 have e : flatF l = ((membersF (foldF l).1 (orderF l)).1, 0, 0) := by unfold flatF; rw [if_pos h0, m1]
 refine ⟨hg, hn, e, m1, ?_, ?_, ?_, ?_, ?_⟩
 ·rw [e]; exact m2
 ·rw [e]; exact m3
 ·rw [e]; exact b2
 ·rw [e]; exact (memsZ_iff _).1 hmz
 ·rw [e]
  dsimp only
  have := congrArg List.length m3
  rw [List.length_map] at this
  rw [this]
  exact order_len l
theorem flat_bad {l : List Mem} (h0 : ¬ (foldF l).2.1 = 0) : flatF l = ([], (foldF l).2.1, (foldF l).2.2) := by unfold flatF; rw [if_neg h0]
theorem sound_run {l : List Mem} (h : soundF l = true) : ∀ n, n ≤ l.length → (l.take n).foldlM stepS [] = some (kindsOf (l.take n)) := by
 intro n
 induction n with
 | zero => intro _; rfl
 | succ n ih =>
  intro hn
  have h1 := ih (by omega)
  have hlt : n < l.length := by omega
  rw [List.take_succ_eq_append_getElem hlt, List.foldlM_append, h1, kindsOf_snoc]
  unfold soundF at h
  have h2 : l.foldlM stepS [] = ((l.take (n + 1)).foldlM stepS []).bind (fun s => (l.drop (n + 1)).foldlM stepS s) := by
   conv => lhs; rw [← List.take_append_drop (n + 1) l, List.foldlM_append]
   rfl
  rw [h2, List.take_succ_eq_append_getElem hlt, List.foldlM_append, h1] at h
  show ([l[n]].foldlM stepS (kindsOf (l.take n))) = _
  have h3 : [l[n]].foldlM stepS (kindsOf (l.take n)) = stepS (kindsOf (l.take n)) l[n] := by
   rw [List.foldlM_cons]
   cases stepS (kindsOf (l.take n)) l[n] <;> rfl
  have h4 : (some (kindsOf (l.take n)) >>= fun s => [l[n]].foldlM stepS s) = stepS (kindsOf (l.take n)) l[n] := h3
  rw [h4] at h
  rw [h3]
  unfold stepS at h ⊢
  split
  ·rename_i hc
   rw [if_pos hc] at h
   cases h
  ·rfl
theorem sound_at {l : List Mem} (h : soundF l = true) (n : Nat) (hn : n < l.length) : (∀ (k : Nat) (hk : k < n), l[k].f0 ≠ l[n].f0) ∧ goodM l[n] = true ∧ (l[n].f2 = 49 → ∃ (k : Nat) (hk : k < n), l[k].f0 = l[n].f1 ∧ l[k].f2 = 48) := by
 have h1 := sound_run h n (by omega)
 have h2 := sound_run h (n + 1) hn
 rw [List.take_succ_eq_append_getElem hn, List.foldlM_append, h1] at h2
 have h3 : stepS (kindsOf (l.take n)) l[n] = some (kindsOf (l.take n ++ [l[n]])) := by
  rw [← h2]
  show _ = [l[n]].foldlM stepS (kindsOf (l.take n))
  rw [List.foldlM_cons]
  cases stepS (kindsOf (l.take n)) l[n] <;> rfl
 unfold stepS at h3
 split at h3
 ·cases h3
 ·rename_i hc
  rw [not_or, not_or] at hc
  obtain ⟨c1, c2, c3⟩ := hc
  refine ⟨fun k hk e => c1 ?_, by simpa using c2, fun h49 => ?_⟩
  ·rw [lkI_is]
   unfold kindsOf
   rw [List.map_reverse, List.mem_reverse, List.map_map, List.mem_map]
   exact ⟨l[k], by rw [List.mem_take_iff_getElem]; exact ⟨k, by omega, rfl⟩, by show l[k].f0.data.toList = _; rw [e]⟩
  ·have c4 : (lkI (kindsOf (l.take n)) l[n].f1.data.toList).getD 0 = 48 := Decidable.byContradiction fun hne => c3 ⟨h49, hne⟩
   cases hl : lkI (kindsOf (l.take n)) l[n].f1.data.toList with
   | none => rw [hl] at c4; cases c4
   | some v =>
    rw [hl] at c4
    have hv : v = 48 := c4
    subst hv
    have key : ∀ (f : List (List UInt8 × Int)) (s : List UInt8) (v : Int), lkI f s = some v → (s, v) ∈ f := by
     intro f
     induction f with
     | nil => intro s v h; cases h
     | cons p r ih =>
      intro s v h
      rw [lkI] at h
      split at h
      ·rename_i he
       cases h
       rw [he]
       exact List.mem_cons_self
      ·exact List.mem_cons_of_mem _ (ih s v h)
    have hm := key _ _ _ hl
    unfold kindsOf at hm
    rw [List.mem_reverse, List.mem_map] at hm
    obtain ⟨m, hm, he⟩ := hm
    rw [List.mem_take_iff_getElem] at hm
    obtain ⟨k, hk, rfl⟩ := hm
    injection he with he1 he2
    exact ⟨k, by omega, ba_data.1 he1, he2⟩
structure SameD (a b : Mem) : Prop where
 f1 : a.f1 = b.f1
 f2 : a.f2 = b.f2
 f3 : a.f3 = b.f3
 f4 : (strOfNums a.f4).toList = (strOfNums b.f4).toList
theorem SameD.refl (a : Mem) : SameD a a := ⟨rfl, rfl, rfl, rfl⟩
abbrev ZS := List (ByteArray × Nat × Nat)
def z1 (z : ZS) : PS := z.map (fun t => (t.1, t.2.1))
def z2 (z : ZS) : PS := z.map (fun t => (t.1, t.2.2))
structure Side (l1 l2 : List Mem) (n1 n2 : Nat) (z : ZS) : Prop where
 lt : ∀ t ∈ z, t.2.1 < n1 ∧ t.2.2 < n2
 data : ∀ t ∈ z, SameD (l1.getD t.2.1 zM) (l2.getD t.2.2 zM)
 one : ∀ t ∈ z, ∀ u ∈ z, (l1.getD t.2.1 zM).f2 = 48 → (l1.getD u.2.1 zM).f2 = 48 → (t.2.1 = u.2.1 ↔ t.2.2 = u.2.2)
def withoutZ (z : ZS) (p : ByteArray) : ZS := z.filter (fun t => !decide (t.1.toList = p.toList))
theorem z1_put (z : ZS) (p : ByteArray) (c d : Nat) : z1 (withoutZ z p ++ [(p, c, d)]) = putP (z1 z) p c := by
 unfold z1 withoutZ putP without
 rw [List.map_append, List.filter_map]
 rfl
theorem z2_put (z : ZS) (p : ByteArray) (c d : Nat) : z2 (withoutZ z p ++ [(p, c, d)]) = putP (z2 z) p d := by
 unfold z2 withoutZ putP without
 rw [List.map_append, List.filter_map]
 rfl
theorem at_z (z : ZS) (k : List UInt8) : (atD (z1 z) k = none ∧ atD (z2 z) k = none) ∨ ∃ t ∈ z, atD (z1 z) k = some t.2.1 ∧ atD (z2 z) k = some t.2.2 := by
 induction z with
 | nil => exact .inl ⟨rfl, rfl⟩
 | cons t z ih =>
  unfold z1 z2 at ih ⊢
  rw [List.map_cons, List.map_cons, atD, atD]
  by_cases h : k = t.1.data.toList
  ·rw [if_pos h, if_pos h]
   exact .inr ⟨t, List.mem_cons_self, rfl, rfl⟩
  ·rw [if_neg h, if_neg h]
   rcases ih with ih | ⟨u, hu, e1, e2⟩
   ·exact .inl ih
   ·exact .inr ⟨u, List.mem_cons_of_mem _ hu, e1, e2⟩
theorem Side.put {l1 l2 : List Mem} {n1 n2 : Nat} {z : ZS} (h : Side l1 l2 n1 n2 z) (p : ByteArray) {c d : Nat} (hc : c < n1 + 1 ∧ d < n2 + 1) (hd : SameD (l1.getD c zM) (l2.getD d zM))
  (ho : ∀ u ∈ z, (l1.getD c zM).f2 = 48 → (l1.getD u.2.1 zM).f2 = 48 → (c = u.2.1 ↔ d = u.2.2)) : Side l1 l2 (n1 + 1) (n2 + 1) (withoutZ z p ++ [(p, c, d)]) := by
 have hm : ∀ t ∈ withoutZ z p ++ [(p, c, d)], t ∈ z ∨ t = (p, c, d) := fun t ht => by
  rcases List.mem_append.1 ht with ht | ht
  ·exact .inl (List.mem_filter.1 ht).1
  ·exact .inr (List.mem_singleton.1 ht)
 refine ⟨fun t ht => ?_, fun t ht => ?_, fun t ht u hu h1 h2 => ?_⟩
 ·rcases hm t ht with ht | rfl
  ·have := h.lt t ht; omega
  ·exact hc
 ·rcases hm t ht with ht | rfl
  ·exact h.data t ht
  ·exact hd
 ·rcases hm t ht with ht | rfl
  ·rcases hm u hu with hu | rfl
   ·exact h.one t ht u hu h1 h2
   ·have := ho t ht h2 h1
    exact ⟨fun e => (this.1 e.symm).symm, fun e => (this.2 e.symm).symm⟩
  ·rcases hm u hu with hu | rfl
   ·exact ho u hu h1 h2
   ·exact ⟨fun _ => rfl, fun _ => rfl⟩
theorem side_step {l1 l2 : List Mem} {n1 n2 : Nat} {z : ZS} (h : Side l1 l2 n1 n2 z) (h1 : n1 < l1.length) (h2 : n2 < l2.length) (e : l1[n1] = l2[n2]) : (stepF l1 (z1 z) n1 = none ∧ stepF l2 (z2 z) n2 = none) ∨ ∃ z', stepF l1 (z1 z) n1 = some (z1 z') ∧ stepF l2 (z2 z) n2 = some (z2 z') ∧ Side l1 l2 (n1 + 1) (n2 + 1) z' := by
 have g1 : ∀ c, c < n1 → l1[c]? = some (l1.getD c zM) := fun c hc => by rw [List.getD_eq_getElem?_getD, List.getElem?_eq_getElem (by omega)]; rfl
 have g2 : ∀ c, c < n2 → l2[c]? = some (l2.getD c zM) := fun c hc => by rw [List.getD_eq_getElem?_getD, List.getElem?_eq_getElem (by omega)]; rfl
 rw [stepF_eq l1 _ _ h1, stepF_eq l2 _ _ h2, ← e]
 by_cases h49 : l1[n1].f2 = 49
 ·rw [if_pos h49, if_pos h49]
  rcases at_z z l1[n1].f1.data.toList with ⟨e1, e2⟩ | ⟨t, ht, e1, e2⟩
  ·rw [e1, e2]; exact .inl ⟨rfl, rfl⟩
  ·rw [e1, e2]
   dsimp only
   obtain ⟨k1, k2⟩ := h.lt t ht
   rw [g1 _ k1, g2 _ k2]
   dsimp only
   rw [← (h.data t ht).f2]
   by_cases h48 : (l1.getD t.2.1 zM).f2 = 48
   ·rw [if_pos h48, if_pos h48]
    refine .inr ⟨_, by rw [z1_put z l1[n1].f0 t.2.1 t.2.2], by rw [z2_put], h.put _ (by omega) (h.data t ht) (fun u hu f1 f2 => h.one t ht u hu f1 f2)⟩
   ·rw [if_neg h48, if_neg h48]
    exact .inl ⟨rfl, rfl⟩
 ·rw [if_neg h49, if_neg h49]
  refine .inr ⟨_, by rw [z1_put z l1[n1].f0 n1 n2], by rw [z2_put], h.put _ (by omega) ?_ (fun u hu _ _ => ?_)⟩
  ·have e3 : l1.getD n1 zM = l1[n1] := by rw [List.getD_eq_getElem?_getD, List.getElem?_eq_getElem h1]; rfl
   have e4 : l2.getD n2 zM = l2[n2] := by rw [List.getD_eq_getElem?_getD, List.getElem?_eq_getElem h2]; rfl
   rw [e3, e4, ← e]
   exact SameD.refl _
  ·have := h.lt u hu
   omega
def insZ (q : ByteArray × Nat × Nat) : ZS → ZS
 | [] => [q]
 | r :: s => if lt q.1 r.1 = true then q :: r :: s else r :: insZ q s
def sortZ (s : ZS) : ZS := s.foldr insZ []
theorem insZ_perm (q : ByteArray × Nat × Nat) (s : ZS) : (insZ q s).Perm (q :: s) := by
 induction s with
 | nil => exact List.Perm.refl _
 | cons r s ih =>
  rw [insZ]
  split
  ·exact List.Perm.refl _
  ·exact (List.Perm.cons r ih).trans (List.Perm.swap _ _ _)
theorem sortZ_perm (s : ZS) : (sortZ s).Perm s := by
 induction s with
 | nil => exact List.Perm.refl _
 | cons q s ih => exact (insZ_perm q _).trans (List.Perm.cons q ih)
theorem insZ_map (f : ByteArray × Nat × Nat → ByteArray × Nat) (hf : ∀ t, (f t).1 = t.1) (q : ByteArray × Nat × Nat) (s : ZS) : (insZ q s).map f = insP (f q) (s.map f) := by
 induction s with
 | nil => rfl
 | cons r s ih =>
  rw [insZ, List.map_cons, insP, hf, hf]
  split
  ·rfl
  ·rw [List.map_cons, ih]
theorem sortZ_map (f : ByteArray × Nat × Nat → ByteArray × Nat) (hf : ∀ t, (f t).1 = t.1) (s : ZS) : (sortZ s).map f = sortP (s.map f) := by
 induction s with
 | nil => rfl
 | cons q s ih =>
  show (insZ q (sortZ s)).map f = insP (f q) (sortP (s.map f))
  rw [insZ_map f hf, ih]
theorem find_congr {α : Type} {p q : α → Bool} : ∀ {l : List α}, (∀ x ∈ l, p x = q x) → l.find? p = l.find? q
 | [], _ => rfl
 | a :: l, h => by
  rw [List.find?_cons, List.find?_cons, h a List.mem_cons_self, find_congr (fun x hx => h x (List.mem_cons_of_mem _ hx))]
theorem side_end {l1 l2 : List Mem} {n1 n2 : Nat} {z : ZS} (h : Side l1 l2 n1 n2 z) : sameB ((sortP (z1 z)).map (nodeOf l1 (sortP (z1 z)))) ((sortP (z2 z)).map (nodeOf l2 (sortP (z2 z)))) = true := by
 have e1 : sortP (z1 z) = z1 (sortZ z) := (sortZ_map _ (fun _ => rfl) z).symm
 have e2 : sortP (z2 z) = z2 (sortZ z) := (sortZ_map _ (fun _ => rfl) z).symm
 have hm : ∀ t ∈ sortZ z, t ∈ z := fun t ht => (sortZ_perm z).mem_iff.1 ht
 rw [e1, e2]
 have f1 : (z1 (sortZ z)).map (nodeOf l1 (z1 (sortZ z))) = (sortZ z).map (fun t => nodeOf l1 (z1 (sortZ z)) (t.1, t.2.1)) := by
  conv => lhs; arg 2; unfold z1
  rw [List.map_map]
  rfl
 have f2 : (z2 (sortZ z)).map (nodeOf l2 (z2 (sortZ z))) = (sortZ z).map (fun t => nodeOf l2 (z2 (sortZ z)) (t.1, t.2.2)) := by
  conv => lhs; arg 2; unfold z2
  rw [List.map_map]
  rfl
 rw [f1, f2]
 refine sameB_map _ _ _ (fun t ht => ?_)
 have hd := h.data t (hm t ht)
 refine ⟨rfl, hd.f1, ?_, hd.f2, hd.f3, hd.f4⟩
 unfold nodeOf
 dsimp only
 rw [← hd.f2]
 by_cases h48 : (l1.getD t.2.1 zM).f2 = 48
 ·rw [if_pos h48, if_pos h48]
  unfold leadOf z1 z2
  rw [List.find?_map, List.find?_map]
  have hfc : (sortZ z).find? ((fun q : ByteArray × Nat => decide (q.2 = t.2.1)) ∘ fun t => (t.1, t.2.1)) = (sortZ z).find? ((fun q : ByteArray × Nat => decide (q.2 = t.2.2)) ∘ fun t => (t.1, t.2.2)) := by
   refine find_congr (fun u hu => ?_)
   show decide (u.2.1 = t.2.1) = decide (u.2.2 = t.2.2)
   rw [decide_eq_decide]
   have hdu := h.data u (hm u hu)
   constructor
   ·intro e
    exact (h.one u (hm u hu) t (hm t ht) (by rw [e]; exact h48) h48).1 e
   ·intro e
    have : (l1.getD u.2.1 zM).f2 = 48 := by rw [hdu.f2, e, ← hd.f2]; exact h48
    exact (h.one u (hm u hu) t (hm t ht) this h48).2 e
  rw [hfc]
  cases (sortZ z).find? ((fun q : ByteArray × Nat => decide (q.2 = t.2.2)) ∘ fun t => (t.1, t.2.2)) <;> rfl
 ·rw [if_neg h48, if_neg h48]
end Go.Proofs.YtiijbmaamblidaaGreatDoor

namespace Go.Proofs.YtiijbmaamblidaaGreatDoor
open Go.RowKit Go.Maps Go.Proofs.YtiijbmaamblidaaGreatDoor.Print Go.Proofs.YtiijbmaamblidaaGreatDoorW.PrintWords Go.Proofs.YtiijbmaamblidaaGreatDoorW.PrintLast Go.Proofs.YtiijbmaamblidaaGreatDoorW.PrintMore
set_option linter.unusedVariables false
set_option linter.unusedSimpArgs false
theorem fcell {w : World} {p : Addr} {v : Value} (h : w.cell? p = some v) (o : Obj) : (w.alloc o).cell? p = some v := ((below_alloc (Below.refl _ _) o).cell (World.block_lt_of_cell? w _ h)).trans h
theorem fkeep {w w1 : World} {p : Addr} {v : Value} (hb : Below w.heap.size w w1) (h : w.cell? p = some v) : w1.cell? p = some v := (hb.cell (World.block_lt_of_cell? w _ h)).trans h
def thingCells (m : Mem) (v : Value) (ld : ByteArray) : Array Value := #[.int .u8 m.f2, .int .i64 m.f3.f0, .int .i64 m.f3.f1, .int .i64 m.f3.f2, .int .i64 m.f3.f3, .string m.f1, v, .string ld]
def ThingAt (w : World) (base b : Nat) (m : Mem) (ld : ByteArray) : Prop :=
 base ≤ b ∧ ∃ v, w.heap[b]? = some (.cells (thingCells m v ld) 80 (0, 0)) ∧ Kd.R (Kd.int .u8) 5 w base (fun _ => True) v m.f4
theorem blk_lt' {w : World} {b : Nat} {o : Obj} (h : w.heap[b]? = some o) : b < w.heap.size := (Array.getElem?_eq_some_iff.1 h).1
theorem ThingAt.lt {w : World} {base b : Nat} {m : Mem} {ld : ByteArray} (h : ThingAt w base b m ld) : b < w.heap.size := by
 obtain ⟨_, v, hb, _⟩ := h
 exact blk_lt' hb
theorem ThingAt.below {w w1 : World} {base b : Nat} {m : Mem} {ld : ByteArray} (h : ThingAt w base b m ld) (hb : Below w.heap.size w w1) : ThingAt w1 base b m ld := by
 obtain ⟨h0, v, h1, h2⟩ := h
 exact ⟨h0, v, (hb.block b (blk_lt' h1)).trans h1, Kd.R_below h2 hb⟩
theorem ThingAt.grown {w w1 : World} {base b g : Nat} {m : Mem} {ld : ByteArray} (h : ThingAt w base b m ld) (hg : w.grownBy w1 (some g)) (ho : ∀ cs q, w.heap[g]? = some (.cells cs q (0, 0)) → q ≠ 80 ∧ q ≠ 5) : ThingAt w1 base b m ld := by
 obtain ⟨h0, v, h1, h2⟩ := h
 refine ⟨h0, v, (hg.block b (blk_lt' h1) (fun e => by injection e with e; subst e; exact (ho _ _ h1).1 rfl)).trans h1, ?_⟩
 refine Kd.R_mono (Kd.R_grown (Kd.R_bound h2) hg (fun k hk e => ?_)) (fun _ _ => trivial)
 injection e with e
 subst e
 obtain ⟨_, _, _, q, hq, cs, hc⟩ := hk
 have hq2 : q = 5 := by
  rcases List.mem_cons.1 hq with h | h
  ·exact h
  ·cases h
 subst hq2
 exact (ho _ _ hc).2 rfl
theorem MapS.isMap {P : Program} {K : TypeId} {w : World} {b n : Nat} {f : List UInt8 → Option Value} (h : MapS P K w b n f) : ∀ cs q, w.heap[b]? = some (.cells cs q (0, 0)) → False := by
 obtain ⟨D, ⟨es, clock, hb, _⟩, _⟩ := h
 intro cs q h2
 rw [hb] at h2
 cases h2
def dirV (B : Nat → Nat) (s : PS) : List UInt8 → Option Value := fun k => (atD s k).map (fun c => Value.pointer (some ⟨B c, 0, none⟩))
def DirS (w : World) (base d i : Nat) (l : List Mem) (s : PS) (B : Nat → Nat) : Prop :=
 MapS Tryz.prog 9 w d i (dirV B s) ∧ (∀ c m, l[c]? = some m → c < i → ¬ m.f2 = 49 → ThingAt w base (B c) m emp) ∧
  (∀ c c' m m', c < c' → c' < i → l[c]? = some m → ¬ m.f2 = 49 → l[c']? = some m' → ¬ m'.f2 = 49 → B c ≠ B c')
theorem dirV_put (B : Nat → Nat) (s : PS) (p : ByteArray) (c : Nat) (t : List UInt8) : putS (dirV B s) p.data.toList (.pointer (some ⟨B c, 0, none⟩)) t = dirV B (putP s p c) t := by
 unfold putS dirV
 rw [atD_put]
 by_cases h : t = p.data.toList
 ·rw [if_pos h, if_pos h]; rfl
 ·rw [if_neg h, if_neg h]
theorem dirV_eq {B B' : Nat → Nat} {s : PS} (h : ∀ q ∈ s, B q.2 = B' q.2) (t : List UInt8) : dirV B s t = dirV B' s t := by
 unfold dirV
 cases ha : atD s t with
 | none => rfl
 | some c =>
  obtain ⟨q, hq, _, rfl⟩ := atD_mem ha
  simp [h q hq]
theorem DirS.start (w : World) (base : Nat) (l : List Mem) (B : Nat → Nat) : DirS (w.alloc (.map #[] 0)) base w.heap.size 0 l [] B :=
 ⟨(MapS.made _ _ _).ext (fun s => rfl), fun c m _ h => absurd h (Nat.not_lt_zero _), fun c c' m m' _ h => absurd h (Nat.not_lt_zero _)⟩
theorem DirS.below {w w1 : World} {base d i : Nat} {l : List Mem} {s : PS} {B : Nat → Nat} (h : DirS w base d i l s B) (hb : Below w.heap.size w w1) : DirS w1 base d i l s B :=
 ⟨h.1.below hb, fun c m hm hc h49 => (h.2.1 c m hm hc h49).below hb, h.2.2⟩
theorem DirS.name {w w1 : World} {base d i : Nat} {l : List Mem} {s : PS} {B : Nat → Nat} (h : DirS w base d i l s B) {m : Mem} (hm : l[i]? = some m) (h49 : m.f2 = 49) {p : ByteArray} {c : Nat} (hM : MapS Tryz.prog 9 w1 d (i + 1) (putS (dirV B s) p.data.toList (.pointer (some ⟨B c, 0, none⟩)))) (hg : w.grownBy w1 (some d)) :
  DirS w1 base d (i + 1) l (putP s p c) B := by
 refine ⟨hM.ext (dirV_put B s p c), fun c' m' hm' hc' hn => ?_, fun c1 c2 m1 m2 h1 h2 h3 h4 h5 h6 => ?_⟩
 ·have hlt : c' < i := by
   rcases Nat.lt_or_ge c' i with h1 | h1
   ·exact h1
   ·obtain rfl : c' = i := by omega
    rw [hm] at hm'
    cases hm'
    exact absurd h49 hn
  exact (h.2.1 c' m' hm' hlt hn).grown hg (fun cs q hc => (h.1.isMap cs q hc).elim)
 ·refine h.2.2 c1 c2 m1 m2 h1 ?_ h3 h4 h5 h6
  rcases Nat.lt_or_ge c2 i with h7 | h7
  ·exact h7
  ·obtain rfl : c2 = i := by omega
   rw [hm] at h5
   cases h5
   exact absurd h49 h6
theorem DirS.add {w w1 : World} {base d i : Nat} {l : List Mem} {s : PS} {B : Nat → Nat} (h : DirS w base d i l s B) (hI : FInv l i s) {m : Mem} (hm : l[i]? = some m) {b : Nat} (hb : ∀ c m', l[c]? = some m' → c < i → ¬ m'.f2 = 49 → B c < b) (hT : ThingAt w base b m emp)
  {p : ByteArray} (hM : MapS Tryz.prog 9 w1 d (i + 1) (putS (dirV B s) p.data.toList (.pointer (some ⟨b, 0, none⟩)))) (hg : w.grownBy w1 (some d)) :
  DirS w1 base d (i + 1) l (putP s p i) (fun c => if c = i then b else B c) := by
 have hB : ∀ q ∈ s, B q.2 = (fun c => if c = i then b else B c) q.2 := fun q hq => by
  have := (hI.cls q hq).1
  dsimp only
  rw [if_neg (by omega)]
 refine ⟨hM.ext (fun t => ?_), fun c m' hm' hc hn => ?_, fun c1 c2 m1 m2 h1 h2 h3 h4 h5 h6 => ?_⟩
 ·rw [← dirV_put]
  unfold putS
  rw [dirV_eq (B' := fun c => if c = i then b else B c) hB]
  simp
 ·by_cases e : c = i
  ·subst e
   rw [hm] at hm'
   cases hm'
   dsimp only
   rw [if_pos rfl]
   exact hT.grown hg (fun cs q hc => (h.1.isMap cs q hc).elim)
  ·dsimp only
   rw [if_neg e]
   exact (h.2.1 c m' hm' (by omega) hn).grown hg (fun cs q hc => (h.1.isMap cs q hc).elim)
 ·dsimp only
  rw [if_neg (show ¬ c1 = i by omega)]
  by_cases e : c2 = i
  ·rw [if_pos e]
   have := hb c1 m1 h3 (by omega) h4
   omega
  ·rw [if_neg e]
   exact h.2.2 c1 c2 m1 m2 h1 (by omega) h3 h4 h5 h6
theorem put_step {P : Program} {K e t : TypeId} {ops : Array Oper} {w : World} {b n : Nat} {f : List UInt8 → Option Value} {oi : Oper} {a : Act} {Kc : Act → World → Prop} {Q : Exit → Act → World → Prop} (h : MapS P K w b n f) (hw : Region.wanted oi (yielded ops a.tmps) = true) (hN : oi.dst = none) (m x v : Operand) (hop : oi.op = Op.mapUpdate t m x v)
  (hK : P.underlying K = some .string) (ht : P.underlying t = some (.map K e)) (hn : n < maxLen) (hm : a.eval m = .map (some b)) {s : ByteArray} (hx : a.eval x = .string s) (hs : s.size ≤ maxLen) {u : Value} (hv : a.eval v = u)
  (hk : ∀ w', MapS P K w' b (n + 1) (putS f s.data.toList u) → w.mapTurned w' b → Kc a w') : if Region.wanted oi (yielded ops a.tmps) = true then Oper.wp P oi a w Kc Q else Kc (a.put none undef) w := by
 obtain ⟨w', hrun, r1, r2⟩ := h.put hK ht hn hs u
 refine skip_ (w1 := w') hw hN ?_ (hk w' r1 r2)
 simp [execOp, hop, hm, hx, hv, hrun]
def LayPost (l : List Mem) (s : PS) (base d i : Nat) (W : World) (e : Ending) (W' : World) : Prop :=
 ((stepF l s i = none ∧ e = .returned (.bool false)) ∨ (∃ s' B', stepF l s i = some s' ∧ e = .returned (.bool true) ∧ DirS W' base d (i + 1) l s' B')) ∧ W.grownBy W' (some d)
theorem zeroThing (w : World) : (zeroValue 77).run Tryz.prog w = .ok (.pointer none) w := by kernel_rfl
theorem thing_cells {w : World} {b : Nat} {m : Mem} {v : Value} {ld : ByteArray} (h : w.heap[b]? = some (.cells (thingCells m v ld) 80 (0, 0))) :
  w.cell? ⟨b, 0, none⟩ = some (.int .u8 m.f2) ∧ w.cell? ⟨b, 1, none⟩ = some (.int .i64 m.f3.f0) ∧ w.cell? ⟨b, 2, none⟩ = some (.int .i64 m.f3.f1) ∧ w.cell? ⟨b, 3, none⟩ = some (.int .i64 m.f3.f2) ∧ w.cell? ⟨b, 4, none⟩ = some (.int .i64 m.f3.f3) ∧
   w.cell? ⟨b, 5, none⟩ = some (.string m.f1) ∧ w.cell? ⟨b, 6, none⟩ = some v ∧ w.cell? ⟨b, 7, none⟩ = some (.string ld) := by
 refine ⟨?_, ?_, ?_, ?_, ?_, ?_, ?_, ?_⟩ <;> · unfold World.cell?; dsimp only; rw [h]; rfl
set_option maxRecDepth 100000 in
set_option maxHeartbeats 4000000 in
theorem Lay_calls (base d i : Nat) (l : List Mem) (s : PS) (B : Nat → Nat) (x : Mem) (A : Option Addr) (c : Nat) (W : World) (hx : l[i]? = some x) (hlen : l.length ≤ 1000000000000) (hz : MemZ x) (hD : DirS W base d i l s B) (hI : FInv l i s) (hbase : base ≤ W.heap.size) (hC : Kd.C (Kd.int .u8) W A x.f4.length x.f4) :
  Calls Tryz.prog 30 #[.map (some d), .agg (memCells x (.slice A x.f4.length c))] W (LayPost l s base d i W) := by
 obtain ⟨hi, hxi⟩ := List.getElem?_eq_some_iff.1 hx
 have hst := stepF_eq l s i hi
 rw [hxi] at hst
 have hdlt : d < W.heap.size := hD.1.lt
 have hs0 : x.f0.size ≤ maxLen := by have := hz.1; unfold maxLen; omega
 have hs1 : x.f1.size ≤ maxLen := by have := hz.2.1; unfold maxLen; omega
 have hlook := fun o => (hD.1.alloc o).look_ok Tryz.underlying9 Tryz.underlying63 (zeroThing _) hs1
 have hBlt : ∀ c m, l[c]? = some m → c < i → ¬ m.f2 = 49 → B c < W.heap.size := fun c m h1 h2 h3 => (hD.2.1 c m h1 h2 h3).lt
 have HX := Aside0.mk hx
 have HZ := Aside0.mk hz
 have HD := Aside0.mk hD
 have HI := Aside0.mk hI
 have HC := Aside0.mk hC
 have HS := Aside0.mk hst
 have HBL := Aside0.mk hBlt
 have HLK := Aside0.mk hlook
 clear hx hxi hz hD hI hC hst hBlt hlook
 generalize hpost : LayPost l s base d i W = Q
 have hQ := Aside0.mk hpost
 clear hpost
 unfold memCells
 by_cases h49 : x.f2 = 49
 case neg =>
  have e49 : (x.f2 != 49) = true := bne_iff_ne.2 h49
  have H49 := Aside0.mk h49
  clear h49
  go_enter Tryz.func30, Tryz.ntmps30
  go_upto_region 2 with (fail)
  refine start_ (n := 15) (S := fun w' => w'.cell? ⟨W.heap.size, 0, none⟩ = some (.string x.f0) ∧ w'.cell? ⟨W.heap.size, 1, none⟩ = some (.string x.f1) ∧ w'.cell? ⟨W.heap.size, 2, none⟩ = some (.int .u8 x.f2) ∧ w'.cell? ⟨W.heap.size, 3, none⟩ = some (.int .i64 x.f3.f0) ∧ w'.cell? ⟨W.heap.size, 4, none⟩ = some (.int .i64 x.f3.f1) ∧ w'.cell? ⟨W.heap.size, 5, none⟩ = some (.int .i64 x.f3.f2) ∧ w'.cell? ⟨W.heap.size, 6, none⟩ = some (.int .i64 x.f3.f3) ∧ w'.cell? ⟨W.heap.size, 7, none⟩ = some (.slice A x.f4.length c)) (ds := [14]) #[false, false, false, false, false, false, false, false, false, false, false, false, false, false, false] (by kernel_rfl) rfl rfl ⟨by simp, by simp, by simp, by simp, by simp, by simp, by simp, by simp⟩ (fun hHeld => ?_)
  generalize hwq : (W.alloc (.cells #[.string x.f0, .string x.f1, .int .u8 x.f2, .int .i64 x.f3.f0, .int .i64 x.f3.f1, .int .i64 x.f3.f2, .int .i64 x.f3.f3, .slice A x.f4.length c] 43)).drew = wq at hHeld ⊢
  have hzq : W.heap.size + 1 = wq.heap.size := by rw [← hwq]; exact (World.size_alloc _ _).symm
  refine pure_ (i := 0) (N := some 10) (v := ?_) (a' := ?_) #[true, false, false, false, false, false, false, false, false, false, false, false, false, false, false] rfl rfl (by kernel_rfl) (fun _ _ _ h => h) (Or.inl ⟨by rfl, ?_⟩) ?_ ?_
  rotate_left
  ·intro w'
   go_simp
   with_reducible rfl
  rotate_left
  ·simp only [Act.put, List.setIfInBounds_toArray, List.set_cons_zero, List.set_cons_succ, i64_w, i32_w]
   rfl
  refine pure_ (i := 1) (N := some 11) (v := ?_) (a' := ?_) #[true, true, false, false, false, false, false, false, false, false, false, false, false, false, false] rfl rfl (by kernel_rfl) (fun _ _ _ h => h) (Or.inl ⟨by rfl, ?_⟩) ?_ ?_
  rotate_left
  ·intro w'
   go_simp
   with_reducible rfl
  rotate_left
  ·simp only [Act.put, List.setIfInBounds_toArray, List.set_cons_zero, List.set_cons_succ, i64_w, i32_w]
   rfl
  refine take_ (i := 2) (N := some 12) (v := ?_) (a' := ?_) #[true, true, true, false, false, false, false, false, false, false, false, false, false, false, false] rfl rfl (by kernel_rfl) (fun _ _ _ h => h) (Or.inl ⟨by rfl, ?_⟩) hHeld ?_ ?_
  rotate_left
  ·rintro w' ⟨s0, s1, s2, s3, s4, s5, s6, s7⟩
   go_simp
   with_reducible rfl
  rotate_left
  ·simp only [Act.put, List.setIfInBounds_toArray, List.set_cons_zero, List.set_cons_succ, i64_w, i32_w]
   rfl
  refine pure_ (i := 3) (N := some 13) (v := ?_) (a' := ?_) #[true, true, true, true, false, false, false, false, false, false, false, false, false, false, false] rfl rfl (by kernel_rfl) (fun _ _ _ h => h) (Or.inl ⟨by rfl, ?_⟩) ?_ ?_
  rotate_left
  ·intro w'
   go_simp
   with_reducible rfl
  rotate_left
  ·simp only [Act.put, List.setIfInBounds_toArray, List.set_cons_zero, List.set_cons_succ, i64_w, i32_w]
   rfl
  refine take_ (i := 4) (N := some 14) (v := ?_) (a' := ?_) #[true, true, true, true, true, false, false, false, false, false, false, false, false, false, false] rfl rfl (by kernel_rfl) (fun _ _ _ h => h) (Or.inl ⟨by rfl, ?_⟩) hHeld ?_ ?_
  rotate_left
  ·rintro w' ⟨s0, s1, s2, s3, s4, s5, s6, s7⟩
   go_simp
   with_reducible rfl
  rotate_left
  ·simp only [Act.put, List.setIfInBounds_toArray, List.set_cons_zero, List.set_cons_succ, i64_w, i32_w]
   rfl
  refine pure_ (i := 5) (N := some 15) (v := ?_) (a' := ?_) #[true, true, true, true, true, true, false, false, false, false, false, false, false, false, false] rfl rfl (by kernel_rfl) (fun _ _ _ h => h) (Or.inl ⟨by rfl, ?_⟩) ?_ ?_
  rotate_left
  ·intro w'
   go_simp
   with_reducible rfl
  rotate_left
  ·simp only [Act.put, List.setIfInBounds_toArray, List.set_cons_zero, List.set_cons_succ, i64_w, i32_w]
   rfl
  refine take_ (i := 6) (N := some 16) (v := ?_) (a' := ?_) #[true, true, true, true, true, true, true, false, false, false, false, false, false, false, false] rfl rfl (by kernel_rfl) (fun _ _ _ h => h) (Or.inl ⟨by rfl, ?_⟩) hHeld ?_ ?_
  rotate_left
  ·rintro w' ⟨s0, s1, s2, s3, s4, s5, s6, s7⟩
   go_simp
   with_reducible rfl
  rotate_left
  ·simp only [Act.put, List.setIfInBounds_toArray, List.set_cons_zero, List.set_cons_succ, i64_w, i32_w]
   rfl
  refine pure_ (i := 7) (N := some 17) (v := ?_) (a' := ?_) #[true, true, true, true, true, true, true, true, false, false, false, false, false, false, false] rfl rfl (by kernel_rfl) (fun _ _ _ h => h) (Or.inl ⟨by rfl, ?_⟩) ?_ ?_
  rotate_left
  ·intro w'
   go_simp
   with_reducible rfl
  rotate_left
  ·simp only [Act.put, List.setIfInBounds_toArray, List.set_cons_zero, List.set_cons_succ, i64_w, i32_w]
   rfl
  refine take_ (i := 8) (N := some 18) (v := ?_) (a' := ?_) #[true, true, true, true, true, true, true, true, true, false, false, false, false, false, false] rfl rfl (by kernel_rfl) (fun _ _ _ h => h) (Or.inl ⟨by rfl, ?_⟩) hHeld ?_ ?_
  rotate_left
  ·rintro w' ⟨s0, s1, s2, s3, s4, s5, s6, s7⟩
   go_simp
   with_reducible rfl
  rotate_left
  ·simp only [Act.put, List.setIfInBounds_toArray, List.set_cons_zero, List.set_cons_succ, i64_w, i32_w]
   rfl
  refine pure_ (i := 9) (N := some 19) (v := ?_) (a' := ?_) #[true, true, true, true, true, true, true, true, true, true, false, false, false, false, false] rfl rfl (by kernel_rfl) (fun _ _ _ h => h) (Or.inl ⟨by rfl, ?_⟩) ?_ ?_
  rotate_left
  ·intro w'
   go_simp
   with_reducible rfl
  rotate_left
  ·simp only [Act.put, List.setIfInBounds_toArray, List.set_cons_zero, List.set_cons_succ, i64_w, i32_w]
   rfl
  refine take_ (i := 10) (N := some 20) (v := ?_) (a' := ?_) #[true, true, true, true, true, true, true, true, true, true, true, false, false, false, false] rfl rfl (by kernel_rfl) (fun _ _ _ h => h) (Or.inl ⟨by rfl, ?_⟩) hHeld ?_ ?_
  rotate_left
  ·rintro w' ⟨s0, s1, s2, s3, s4, s5, s6, s7⟩
   go_simp
   with_reducible rfl
  rotate_left
  ·simp only [Act.put, List.setIfInBounds_toArray, List.set_cons_zero, List.set_cons_succ, i64_w, i32_w]
   rfl
  refine one_ (i := 11) (N := some 21) #[true, true, true, true, true, true, true, true, true, true, true, true, false, false, false] rfl rfl (by kernel_rfl) (by decide) (fun K hK => ?_)
  refine goes_ Tryz.func43 (by kernel_rfl) rfl #[.slice A x.f4.length c] (by rfl) rfl rfl (by first | rfl | (simp [Act.eval]; done)) ?_
  refine (Clone_calls A c x.f4 wq (by rw [← hwq]; exact Kd.C_drew (Kd.C_alloc HC.out _)) HZ.out.2.2).mono ?_
  rintro e w5 ⟨v, rfl, hR5, hb5⟩
  obtain ⟨Av, cv, rfl, hlv, hCv⟩ := Kd.R_reads hR5
  clear hlv hCv
  refine ⟨_, rfl, ?_⟩
  refine hK.out _ _ ⟨fkeep hb5 hHeld.1, fkeep hb5 hHeld.2.1, fkeep hb5 hHeld.2.2.1, fkeep hb5 hHeld.2.2.2.1, fkeep hb5 hHeld.2.2.2.2.1, fkeep hb5 hHeld.2.2.2.2.2.1, fkeep hb5 hHeld.2.2.2.2.2.2.1, fkeep hb5 hHeld.2.2.2.2.2.2.2⟩ (fun hHeld2 => ?_)
  clear hK K
  have HR5 := Aside0.mk hR5
  have HB5 := Aside0.mk hb5
  clear hR5
  refine norm_ (a' := ?_) ?_ ?_
  rotate_left
  ·show Act.put _ (some 21) _ = _
   simp only [Act.put, List.setIfInBounds_toArray, List.set_cons_zero, List.set_cons_succ, i64_w, i32_w]
   rfl
  refine pure_ (i := 12) (N := some 22) (v := ?_) (a' := ?_) #[true, true, true, true, true, true, true, true, true, true, true, true, true, false, false] rfl rfl (by kernel_rfl) (fun _ _ _ h => h) (Or.inl ⟨by rfl, ?_⟩) ?_ ?_
  rotate_left
  ·intro w'
   go_simp
   with_reducible rfl
  rotate_left
  ·simp only [Act.put, List.setIfInBounds_toArray, List.set_cons_zero, List.set_cons_succ, i64_w, i32_w]
   rfl
  refine one_ (i := 13) (N := some 23) #[true, true, true, true, true, true, true, true, true, true, true, true, true, true, false] rfl rfl (by kernel_rfl) (by decide) (fun K hK => ?_)
  refine value_ (w1 := ?_) (v := ?_) (by rfl) rfl ?_ ?_
  rotate_left 2
  ·go_simp
   constructor
   ·rfl
   ·rfl
  refine hK.out _ _ ⟨fcell hHeld2.1 _, fcell hHeld2.2.1 _, fcell hHeld2.2.2.1 _, fcell hHeld2.2.2.2.1 _, fcell hHeld2.2.2.2.2.1 _, fcell hHeld2.2.2.2.2.2.1 _, fcell hHeld2.2.2.2.2.2.2.1 _, fcell hHeld2.2.2.2.2.2.2.2 _⟩ (fun hHeld3 => ?_)
  clear hK K
  refine norm_ (a' := ?_) ?_ ?_
  rotate_left
  ·show Act.put _ (some 23) _ = _
   simp only [Act.put, List.setIfInBounds_toArray, List.set_cons_zero, List.set_cons_succ, i64_w, i32_w]
   rfl
  refine last_ (i := 14) (N := none) #[true, true, true, true, true, true, true, true, true, true, true, true, true, true, true] rfl rfl (by kernel_rfl) (by decide) (fun K hK => ?_)
  refine put_step (f := dirV B s) (b := d) (n := i) (s := x.f0) (((HD.out.below (show Below W.heap.size W wq from by rw [← hwq]; exact below_drew (below_alloc (Below.refl _ _) _))).below HB5.out).1.alloc _) (by rfl) rfl (.tmp 10) (.tmp 12) (.tmp 23) rfl Tryz.underlying9 Tryz.underlying63 (by unfold maxLen; omega) rfl rfl hs0 rfl ?_
  intro w6 hM6 hturn6
  refine hK.out _ _ ?_
  clear hK K
  have HM6 := Aside0.mk hM6
  have HG6 := Aside0.mk hturn6.grown
  clear hM6 hturn6 hHeld hHeld2 hHeld3 hb5
  refine done_ (by kernel_rfl) ?_
  go_wp2_with (fail)
  rw [← hQ.out]
  have hB1 : Below W.heap.size W w5 := ((show Below W.heap.size W wq from by rw [← hwq]; exact below_drew (below_alloc (Below.refl _ _) _))).trans (HB5.out.mono (by omega))
  refine ⟨.inr ⟨_, _, by rw [HS.out, if_neg H49.out], rfl, DirS.add ((HD.out.below hB1).below (below_alloc (Below.refl _ _) _)) HI.out HX.out (b := w5.heap.size) (fun c m h1 h2 h3 => by have := HBL.out c m h1 h2 h3; have := hB1.size; omega) ⟨by have := hB1.size; omega, _, blk_new _ _, Kd.R_lower (Kd.R_alloc HR5.out _) (by omega)⟩ HM6.out HG6.out⟩, ?_⟩
  exact World.grownBy.trans (grown_of_below (hB1.trans ((below_alloc (Below.refl _ _) _).mono hB1.size)) _) HG6.out
 case pos =>
  have e49 : (x.f2 != 49) = false := bne_eq_false_iff_eq.2 h49
  have hst2 := HS.out
  rw [if_pos h49] at hst2
  have H49 := Aside0.mk h49
  clear h49
  cases ha : atD s x.f1.data.toList with
  | none =>
   have hlook := fun o => HLK.out o
   rw [ha] at hst2
   have hdv : dirV B s x.f1.data.toList = none := by unfold dirV; rw [ha]; rfl
   simp only [hdv, Option.getD_none, Option.isSome_none] at hlook
   have HS2 := Aside0.mk hst2
   clear hdv ha hst2
   go_enter Tryz.func30, Tryz.ntmps30
   go_wp2
   rw [← hQ.out]
   exact ⟨.inl ⟨HS2.out, rfl⟩, grown_of_below (below_alloc (Below.refl _ _) _) _⟩
  | some k =>
   have hlook := fun o => HLK.out o
   rw [ha] at hst2
   have hdv : dirV B s x.f1.data.toList = some (.pointer (some ⟨B k, 0, none⟩)) := by unfold dirV; rw [ha]; rfl
   simp only [hdv, Option.getD_some, Option.isSome_some] at hlook
   obtain ⟨q, hq, _, rfl⟩ := atD_mem ha
   obtain ⟨hk, t, ht, ht49⟩ := HI.out.cls q hq
   dsimp only at hst2
   rw [ht] at hst2
   dsimp only at hst2
   obtain ⟨_, v, hblk, hR⟩ := HD.out.2.1 q.2 t ht hk ht49
   have hcell := fcell (thing_cells hblk).1
   have hbk := World.new_ne W ⟨B q.2, 0, none⟩ (thing_cells hblk).1
   have HHD := Aside0.mk hdv
   clear hdv ha hq hblk hR
   by_cases h48 : t.f2 = 48
   ·have e48 : (t.f2 != 48) = false := bne_eq_false_iff_eq.2 h48
    rw [if_pos h48] at hst2
    have HS2 := Aside0.mk hst2
    have HMA := Aside0.mk (fun o => HD.out.1.alloc o)
    have HDA := Aside0.mk (fun o => HD.out.below (below_alloc (Below.refl _ _) o))
    clear hst2 h48 ht ht49 hk
    go_enter Tryz.func30, Tryz.ntmps30
    go_wp2_with (at_mapUpdate; refine MapS.wpput (HMA.out _) rfl _ _ _ rfl Tryz.underlying9 Tryz.underlying63 (by unfold maxLen; omega) rfl rfl hs0 rfl ?_; intro w2 hM2 hturn; have HM2 := Aside0.mk hM2; have HG2 := Aside0.mk hturn.grown; clear hM2 hturn)
    rw [← hQ.out]
    exact ⟨.inr ⟨_, _, HS2.out, rfl, DirS.name (HDA.out _) HX.out H49.out HM2.out HG2.out⟩, World.grownBy.trans (grown_of_below (below_alloc (Below.refl _ _) _) _) HG2.out⟩
   ·have e48 : (t.f2 != 48) = true := bne_iff_ne.2 h48
    rw [if_neg h48] at hst2
    have HS2 := Aside0.mk hst2
    clear hst2 h48 ht ht49 hk
    go_enter Tryz.func30, Tryz.ntmps30
    go_wp2
    rw [← hQ.out]
    exact ⟨.inl ⟨HS2.out, rfl⟩, grown_of_below (below_alloc (Below.refl _ _) _) _⟩
end Go.Proofs.YtiijbmaamblidaaGreatDoor

namespace Go.Proofs
open Go.Shelf
def Tryz.keys45_ren : Go.Shelf.Ren := ⟨fun | 7 => 45 | 10 => 66 | n => n, fun | 23 => 63 | 26 => 9 | 3 => 77 | 28 => 84 | 0 => 0 | 27 => 83 | 33 => 70 | 4 => 4 | n => n, fun | n => n⟩
theorem Tryz.keys45 : Go.Proofs.SlLaysZ.n7 Tryz.prog Tryz.keys45_ren := {
  mixed := by kernel_rfl
  f7 := ⟨Tryz.f45.name, by decide, Tryz.func45.trans (congrArg some (by kernel_rfl))⟩
  f10 := ⟨Tryz.f66.name, by decide, Tryz.func66.trans (congrArg some (by kernel_rfl))⟩
  t0 := Tryz.underlying0
  a0 := Tryz.isAgg0
  z0 := Tryz.sizeOf0
  v0 := Tryz.zeroValue0
  t4 := Tryz.underlying4
  a4 := Tryz.isAgg4
  z4 := Tryz.sizeOf4
  v4 := Tryz.zeroValue4
  t23 := Tryz.underlying63
  a23 := Tryz.isAgg63
  z23 := Tryz.sizeOf63
  v23 := Tryz.zeroValue63
  t26 := Tryz.underlying9
  a26 := Tryz.isAgg9
  z26 := Tryz.sizeOf9
  v26 := Tryz.zeroValue9
  t27 := Tryz.underlying83
  a27 := Tryz.isAgg83
  z27 := Tryz.sizeOf83
  v27 := Tryz.zeroValue83
  t28 := Tryz.underlying84
  a28 := Tryz.isAgg84
  z28 := Tryz.sizeOf84
  v28 := Tryz.zeroValue84
  t33 := Tryz.underlying70
  a33 := Tryz.isAgg70
  z33 := Tryz.sizeOf70
  v33 := Tryz.zeroValue70 }
def Tryz.sorted44_ren : Go.Shelf.Ren := ⟨fun | 6 => 44 | 8 => 64 | 9 => 65 | 11 => 78 | 13 => 38 | 12 => 79 | 23 => 59 | 24 => 60 | 14 => 89 | 15 => 90 | 16 => 91 | 17 => 92 | 18 => 93 | 19 => 94 | 20 => 95 | 21 => 96 | 22 => 97 | 25 => 103 | 26 => 69 | 27 => 70 | 28 => 104 | 29 => 105 | 30 => 106 | 31 => 114 | n => n, fun | 26 => 9 | 28 => 84 | 24 => 37 | 0 => 0 | 3 => 3 | 37 => 75 | 48 => 100 | 50 => 102 | 4 => 4 | 40 => 94 | 39 => 93 | 45 => 86 | 5 => 5 | 9 => 9 | 51 => 105 | 55 => 109 | 57 => 116 | 58 => 117 | 33 => 70 | n => n, fun | n => n⟩
theorem Tryz.sorted44 : Go.Proofs.SlLaysZ.n6 Tryz.prog Tryz.sorted44_ren := {
  mixed := by kernel_rfl
  f6 := ⟨Tryz.f44.name, by decide, Tryz.func44.trans (congrArg some (by kernel_rfl))⟩
  f8 := ⟨Tryz.f64.name, by decide, Tryz.func64.trans (congrArg some (by kernel_rfl))⟩
  f11 := ⟨Tryz.f78.name, by decide, Tryz.func78.trans (congrArg some (by kernel_rfl))⟩
  t0 := Tryz.underlying0
  a0 := Tryz.isAgg0
  z0 := Tryz.sizeOf0
  v0 := Tryz.zeroValue0
  t24 := Tryz.underlying37
  a24 := Tryz.isAgg37
  z24 := Tryz.sizeOf37
  v24 := Tryz.zeroValue37
  t26 := Tryz.underlying9
  a26 := Tryz.isAgg9
  z26 := Tryz.sizeOf9
  v26 := Tryz.zeroValue9
  t28 := Tryz.underlying84
  a28 := Tryz.isAgg84
  z28 := Tryz.sizeOf84
  v28 := Tryz.zeroValue84
  i26 := by kernel_rfl }
def Tryz.sort65_ren : Go.Shelf.Ren := ⟨fun | 6 => 65 | 8 => 38 | 9 => 79 | 19 => 59 | 20 => 60 | 21 => 89 | 22 => 90 | 23 => 91 | 24 => 92 | 25 => 93 | 26 => 94 | 27 => 95 | 28 => 96 | 29 => 97 | 36 => 103 | 31 => 69 | 32 => 70 | 37 => 104 | 38 => 105 | 39 => 106 | 41 => 114 | n => n, fun | 27 => 37 | 29 => 9 | 3 => 3 | 32 => 75 | 26 => 37 | 0 => 0 | 44 => 100 | 46 => 102 | 4 => 4 | 36 => 94 | 35 => 93 | 41 => 86 | 5 => 5 | 9 => 9 | 53 => 105 | 57 => 109 | 63 => 116 | 64 => 117 | n => n, fun | n => n⟩
theorem Tryz.sort65 : Go.Proofs.SlLaysM.n6 Tryz.prog Tryz.sort65_ren := {
  mixed := by kernel_rfl
  f6 := ⟨Tryz.f65.name, by decide, Tryz.func65.trans (congrArg some (by kernel_rfl))⟩
  f8 := Tryz.func38.trans (congrArg some (by kernel_rfl))
  f9 := ⟨Tryz.f79.name, by decide, Tryz.func79.trans (congrArg some (by kernel_rfl))⟩
  f19 := Tryz.func59.trans (congrArg some (by kernel_rfl))
  f20 := Tryz.func60.trans (congrArg some (by kernel_rfl))
  f21 := ⟨Tryz.f89.name, by decide, Tryz.func89.trans (congrArg some (by kernel_rfl))⟩
  f22 := ⟨Tryz.f90.name, by decide, Tryz.func90.trans (congrArg some (by kernel_rfl))⟩
  f23 := ⟨Tryz.f91.name, by decide, Tryz.func91.trans (congrArg some (by kernel_rfl))⟩
  f24 := ⟨Tryz.f92.name, by decide, Tryz.func92.trans (congrArg some (by kernel_rfl))⟩
  f25 := ⟨Tryz.f93.name, by decide, Tryz.func93.trans (congrArg some (by kernel_rfl))⟩
  f26 := ⟨Tryz.f94.name, by decide, Tryz.func94.trans (congrArg some (by kernel_rfl))⟩
  f27 := ⟨Tryz.f95.name, by decide, Tryz.func95.trans (congrArg some (by kernel_rfl))⟩
  f28 := ⟨Tryz.f96.name, by decide, Tryz.func96.trans (congrArg some (by kernel_rfl))⟩
  f29 := ⟨Tryz.f97.name, by decide, Tryz.func97.trans (congrArg some (by kernel_rfl))⟩
  f31 := Tryz.func69.trans (congrArg some (by kernel_rfl))
  f32 := Tryz.func70.trans (congrArg some (by kernel_rfl))
  f36 := ⟨Tryz.f103.name, by decide, Tryz.func103.trans (congrArg some (by kernel_rfl))⟩
  f37 := ⟨Tryz.f104.name, by decide, Tryz.func104.trans (congrArg some (by kernel_rfl))⟩
  f38 := ⟨Tryz.f105.name, by decide, Tryz.func105.trans (congrArg some (by kernel_rfl))⟩
  f39 := ⟨Tryz.f106.name, by decide, Tryz.func106.trans (congrArg some (by kernel_rfl))⟩
  f41 := ⟨Tryz.f114.name, by decide, Tryz.func114.trans (congrArg some (by kernel_rfl))⟩
  t0 := Tryz.underlying0
  a0 := Tryz.isAgg0
  z0 := Tryz.sizeOf0
  v0 := Tryz.zeroValue0
  t3 := Tryz.underlying3
  a3 := Tryz.isAgg3
  z3 := Tryz.sizeOf3
  v3 := Tryz.zeroValue3
  t4 := Tryz.underlying4
  a4 := Tryz.isAgg4
  z4 := Tryz.sizeOf4
  v4 := Tryz.zeroValue4
  t5 := Tryz.underlying5
  a5 := Tryz.isAgg5
  z5 := Tryz.sizeOf5
  v5 := Tryz.zeroValue5
  t9 := Tryz.underlying9
  a9 := Tryz.isAgg9
  z9 := Tryz.sizeOf9
  v9 := Tryz.zeroValue9
  t26 := Tryz.underlying37
  a26 := Tryz.isAgg37
  z26 := Tryz.sizeOf37
  v26 := Tryz.zeroValue37
  t27 := Tryz.underlying37
  a27 := Tryz.isAgg37
  z27 := Tryz.sizeOf37
  v27 := Tryz.zeroValue37
  t29 := Tryz.underlying9
  a29 := Tryz.isAgg9
  z29 := Tryz.sizeOf9
  v29 := Tryz.zeroValue9
  t32 := Tryz.underlying75
  a32 := Tryz.isAgg75
  z32 := Tryz.sizeOf75
  v32 := Tryz.zeroValue75
  t35 := Tryz.underlying93
  a35 := Tryz.isAgg93
  z35 := Tryz.sizeOf93
  v35 := Tryz.zeroValue93
  t36 := Tryz.underlying94
  a36 := Tryz.isAgg94
  z36 := Tryz.sizeOf94
  v36 := Tryz.zeroValue94
  t41 := Tryz.underlying86
  a41 := Tryz.isAgg86
  z41 := Tryz.sizeOf86
  v41 := Tryz.zeroValue86
  t44 := Tryz.underlying100
  a44 := Tryz.isAgg100
  z44 := Tryz.sizeOf100
  v44 := Tryz.zeroValue100
  t46 := Tryz.underlying102
  a46 := Tryz.isAgg102
  z46 := Tryz.sizeOf102
  v46 := Tryz.zeroValue102
  t53 := Tryz.underlying105
  a53 := Tryz.isAgg105
  z53 := Tryz.sizeOf105
  v53 := Tryz.zeroValue105
  t57 := Tryz.underlying109
  a57 := Tryz.isAgg109
  z57 := Tryz.sizeOf109
  v57 := Tryz.zeroValue109
  t63 := Tryz.underlying116
  a63 := Tryz.isAgg116
  z63 := Tryz.sizeOf116
  v63 := Tryz.zeroValue116
  t64 := Tryz.underlying117
  a64 := Tryz.isAgg117
  z64 := Tryz.sizeOf117
  v64 := Tryz.zeroValue117 }
open Go.RowKit Go.Maps Go.Sort
theorem Tryz.sorts44 (m : Nat) : AnyZ.SortsIn Tryz.prog Tryz.sorted44_ren Fence.wide m :=
  ⟨fun blk off cap ss W hH hblk hsz => callsIn_wide.2 (AnyM.slices_Sort_string Tryz.sort65 blk off cap ss W hH hblk hsz),
   fun p cap W => callsIn_wide.2 (AnyM.slices_Sort_string_none Tryz.sort65 p cap W)⟩
theorem Tryz.maps_Keys_45 (mb : Option Nat) (W : World) : CallsIn Fence.wide 5 Tryz.prog 45 #[.map mb] W fun e w' => e = .returned (.func (.func 66) #[] #[.pointer (some ⟨W.heap.size, 0, none⟩)]) ∧ w' = W.alloc (.cells #[.map mb] 63) :=
  AnyZ.keys_in Tryz.keys45 Fence.wide 5 trivial rfl mb W
set_option maxHeartbeats 1000000 in
theorem Tryz.slices_Sorted_keys_44_45 {H : Type} (b nn : Nat) (D0 : DataW H) (R : Value → Option (DataW H × List MemPlace)) (w : World) (hown : w.ownsMap Tryz.prog 9 R b nn D0) (hmax : Maps.size D0 ≤ maxLen) (hbytes : Maps.size D0 * 16 ≤ 140737488355328) :
    CallsIn Fence.wide 5 Tryz.prog 44 #[.func (.func 66) #[] #[.pointer (some ⟨w.heap.size, 0, none⟩)]] (w.alloc (.cells #[.map (some b)] 63)) fun e w' => ∃ (v : Value) (ss : List (List UInt8)), e = .returned v ∧ ss.Perm (strKeys D0) ∧
      w'.ownsRow (w.alloc (.cells #[.map (some b)] 63)).heap.size 9 1 v ss.length ((ss.mergeSort (fun x y => decide (x ≤ y))).map encStr) ∧ (v = .slice none 0 0 ↔ ss = []) ∧ Below (w.alloc (.cells #[.map (some b)] 63)).heap.size (w.alloc (.cells #[.map (some b)] 63)) w' := by
  have hbl := hown.lt
  have hseq : SeqGives Fence.wide 2 Tryz.prog 66 #[.pointer (some ⟨w.heap.size, 0, none⟩)] encStr (fun ss => ss.Perm (strKeys D0)) (Maps.size D0) (w.alloc (.cells #[.map (some b)] 63)) :=
    AnyZ.keys_gives (ρ := Tryz.keys45_ren) { Tryz.keys45 with } Fence.wide _ trivial rfl (by omega) w.heap.size b nn D0 _ (by simp) (by simp) (by
      obtain ⟨es, clock, hb, Ft, hs, hD⟩ := hown
      exact ⟨es, clock, (Below.heap_alloc _ _ b hbl).trans hb, Ft, hs, hD⟩)
  exact AnyZ.sorted_in Tryz.sorted44 Fence.wide 5 trivial trivial trivial trivial rfl (by omega) (Tryz.sorts44 _) (enters_of Tryz.func65 (by kernel_rfl) rfl) 66 #[.pointer (some ⟨w.heap.size, 0, none⟩)] trivial (enters_of Tryz.func66 (by kernel_rfl) rfl) _ _ hmax hbytes _ hseq
end Go.Proofs

namespace Go.Proofs.YtiijbmaamblidaaGreatDoor
open Go.RowKit Go.Maps Go.Proofs.YtiijbmaamblidaaGreatDoor.Print Go.Proofs.YtiijbmaamblidaaGreatDoorW.PrintWords Go.Proofs.YtiijbmaamblidaaGreatDoorW.PrintLast Go.Proofs.YtiijbmaamblidaaGreatDoorW.PrintMore
set_option linter.unusedVariables false
set_option linter.unusedSimpArgs false
def ldF (m : Mem) (s : PS) (c : Nat) : ByteArray := if m.f2 = 48 then leadOf s c else emp
def ThingsS (w : World) (base : Nat) (l : List Mem) (B : Nat → Nat) (s : PS) : Prop := ∀ c m, l[c]? = some m → ¬ m.f2 = 49 → ThingAt w base (B c) m (ldF m s c)
theorem ThingsS.below {w w1 : World} {base : Nat} {l : List Mem} {B : Nat → Nat} {s : PS} (h : ThingsS w base l B s) (hb : Below w.heap.size w w1) : ThingsS w1 base l B s := fun c m h1 h2 => (h c m h1 h2).below hb
theorem ThingsS.grown {w w1 : World} {base g : Nat} {l : List Mem} {B : Nat → Nat} {s : PS} (h : ThingsS w base l B s) (hg : w.grownBy w1 (some g)) (ho : ∀ cs q, w.heap[g]? = some (.cells cs q (0, 0)) → q ≠ 80 ∧ q ≠ 5) : ThingsS w1 base l B s := fun c m h1 h2 => (h c m h1 h2).grown hg ho
theorem ThingsS.grown_none {w w1 : World} {base : Nat} {l : List Mem} {B : Nat → Nat} {s : PS} (h : ThingsS w base l B s) (hg : w.grownBy w1 none) : ThingsS w1 base l B s := fun c m h1 h2 => by
 obtain ⟨g0, v, hb, hR⟩ := h c m h1 h2
 exact ⟨g0, v, (hg.block _ (blk_lt' hb) (by simp)).trans hb, Kd.R_grown hR hg (fun k _ e => by cases e)⟩
theorem ld_same {m : Mem} {s : PS} {q : ByteArray × Nat} {c : Nat} (h : m.f2 = 48 → q.2 = c → s.any (fun r => decide (r.2 = c)) = true) : ldF m (s ++ [q]) c = ldF m s c := by
 unfold ldF
 by_cases h48 : m.f2 = 48
 ·rw [if_pos h48, if_pos h48, leadOf_snoc]
  by_cases ha : s.any (fun r => decide (r.2 = c)) = true
  ·rw [if_pos ha]
  ·rw [if_neg ha, if_neg (fun e => ha (h h48 e))]
   have ha' : s.any (fun r => decide (r.2 = c)) = false := Bool.eq_false_iff.2 ha
   exact (leadOf_take_none (fun q hq e => by rw [List.any_eq_false] at ha'; exact ha' q hq (decide_eq_true e))).symm
 ·rw [if_neg h48, if_neg h48]
theorem ld_new {m : Mem} {s : PS} {q : ByteArray × Nat} (h48 : m.f2 = 48) (h : s.any (fun r => decide (r.2 = q.2)) = false) : ldF m (s ++ [q]) q.2 = q.1 := by
 unfold ldF
 rw [if_pos h48, leadOf_snoc, if_neg (by rw [h]; simp), if_pos rfl]
theorem ThingsS.stay {w : World} {base : Nat} {l : List Mem} {B : Nat → Nat} {s : PS} {q : ByteArray × Nat} (h : ThingsS w base l B s) (hq : ∀ m, l[q.2]? = some m → m.f2 = 48 → s.any (fun r => decide (r.2 = q.2)) = true) : ThingsS w base l B (s ++ [q]) := fun c m h1 h2 => by
 rw [ld_same (fun h48 e => by subst e; exact hq m h1 h48)]
 exact h c m h1 h2
theorem ThingsS.store {w : World} {base : Nat} {l : List Mem} {B : Nat → Nat} {s : PS} {q : ByteArray × Nat} (h : ThingsS w base l B s) {m : Mem} (hm : l[q.2]? = some m) (h48 : m.f2 = 48) (hn : s.any (fun r => decide (r.2 = q.2)) = false)
  (hinj : ∀ c c' m m', c < c' → l[c]? = some m → ¬ m.f2 = 49 → l[c']? = some m' → ¬ m'.f2 = 49 → B c ≠ B c') : ThingsS (w.setCell ⟨B q.2, 7, none⟩ (.string q.1)) base l B (s ++ [q]) := fun c m' h1 h2 => by
 obtain ⟨_, v0, hb0, _⟩ := h q.2 m hm (by omega)
 obtain ⟨g0, v, hb, hR⟩ := h c m' h1 h2
 have hR' := Kd.R_set hR hb0 (fun k hk => by
  rcases List.mem_cons.1 hk with rfl | hk
  ·decide
  ·cases hk) 7 (.string q.1)
 by_cases e : c = q.2
 ·subst e
  rw [hm] at h1
  cases h1
  rw [ld_new h48 hn]
  exact ⟨g0, v, blk_put hb 7 _ rfl, hR'⟩
 ·rw [ld_same (fun _ e2 => absurd e2.symm e)]
  have hne : B c ≠ B q.2 := by
   rcases Nat.lt_trichotomy c q.2 with h3 | h3 | h3
   ·exact hinj _ _ _ _ h3 h1 h2 hm (by omega)
   ·exact absurd h3 e
   ·exact (hinj _ _ _ _ h3 hm (by omega) h1 h2).symm
  exact ⟨g0, v, (Below.heap_setCell w ⟨B q.2, 7, none⟩ _ _ hne).trans hb, hR'⟩
theorem nodeOf_ld {l : List Mem} {s : PS} {n : Nat} (hn : n < s.length) {m : Mem} (hm : l[s[n].2]? = some m) : nodeOf l s s[n] = ⟨s[n].1, m.f1, ldF m (s.take (n + 1)) s[n].2, m.f2, m.f3, m.f4⟩ := by
 unfold nodeOf ldF
 rw [List.getD_eq_getElem?_getD, hm, leadOf_take hn]
 rfl
def NodRel (l : List Mem) (s : PS) (base d : Nat) (B : Nat → Nat) (W : World) (vq : Value) (n : Int) (v : Value) (wr : World) : Prop :=
 0 ≤ n ∧ n ≤ (sortP s).length ∧ MapS Tryz.prog 9 wr d l.length (dirV B s) ∧ ThingsS wr base l B ((sortP s).take n.toNat) ∧ Kd.N k49 49 wr base (fun k => W.heap.size ≤ k) v (((sortP s).take n.toNat).map (nodeOf l (sortP s))) ∧
  Kd.R Kd.string 9 wr W.heap.size (fun _ => True) vq ((sortP s).map (fun q => q.1)) ∧ Below base W wr
def NodMid (l : List Mem) (s : PS) (base d : Nat) (B : Nat → Nat) (W : World) (vq : Value) (n : Int) (out : List Node) (v : Value) (wr : World) : Prop :=
 MapS Tryz.prog 9 wr d l.length (dirV B s) ∧ ThingsS wr base l B ((sortP s).take (n.toNat + 1)) ∧ Kd.N k49 49 wr base (fun k => W.heap.size ≤ k) v out ∧
  Kd.R Kd.string 9 wr W.heap.size (fun _ => True) vq ((sortP s).map (fun q => q.1)) ∧ Below base W wr
theorem mid_next {l : List Mem} {s : PS} {base d : Nat} {B : Nat → Nat} {W wm w5 w6 : World} {vq v v6 : Value} {n : Int} (h0 : 0 ≤ n) (hn : n.toNat < (sortP s).length) {out : List Node} (hout : ((sortP s).take n.toNat).map (nodeOf l (sortP s)) = out) (h : NodMid l s base d B W vq n out v wm) (hb5 : Below wm.heap.size wm w5) (hg : w5.grownBy w6 v.ownBlock) (hd : d < W.heap.size) (hbase : base ≤ W.heap.size) (hw : W.heap.size ≤ wm.heap.size)
  (hN : Kd.N k49 49 w6 base (fun k => W.heap.size ≤ k) v6 (out ++ [nodeOf l (sortP s) ((sortP s)[n.toNat])])) (hB : Below base W w6) : NodRel l s base d B W vq (n + 1) v6 w6 := by
 obtain ⟨hM, hT, hNv, hR, hBm⟩ := h
 have hNv5 := Kd.N_below hNv hb5
 have e1 : (n + 1).toNat = n.toNat + 1 := by omega
 have hown : ∀ k, v.ownBlock = some k → W.heap.size ≤ k := fun k hk => hNv5.1 k hk
 refine ⟨by omega, by omega, (hM.below hb5).kept hg (fun e => by have := hown d e.symm; omega), ?_, ?_, ?_, hB⟩
 ·rw [e1]
  cases hv : v.ownBlock with
  | none => exact (hT.below hb5).grown_none (by rw [hv] at hg; exact hg)
  | some g =>
   rw [hv] at hg
   refine (hT.below hb5).grown hg (fun cs q hc => ?_)
   obtain ⟨cs', hc'⟩ := Kd.N_typed hNv5 g hv
   rw [hc'] at hc
   injection hc with hc
   injection hc with _ hc
   subst hc
   decide
 ·rw [e1, List.take_succ_eq_append_getElem hn, List.map_append, hout]
  exact hN
 ·have hR5 := Kd.R_below hR hb5
  refine Kd.R_mono (Kd.R_grown (Kd.R_bound hR5) hg (fun k hk e => ?_)) (fun _ _ => trivial)
  obtain ⟨_, _, _, q, hq, cs, hc⟩ := hk
  obtain ⟨cs', hc'⟩ := Kd.N_typed hNv5 k e.symm
  rw [hc'] at hc
  injection hc with hc
  injection hc with _ hc
  rcases List.mem_cons.1 hq with h | h
  ·rw [h] at hc; exact absurd hc (by decide)
  ·cases h
theorem thing_soft {w : World} {b : Nat} {m : Mem} {v : Value} {ld : ByteArray} (h : w.heap[b]? = some (.cells (thingCells m v ld) 80 (0, 0))) (j : Nat) : w.frozen? ⟨b, j, none⟩ = false := by
 unfold World.frozen?
 dsimp only
 rw [h]
 rfl
theorem sorted_row {w : World} {b : Nat} {v : Value} {ss : List (List UInt8)} {s : PS} (h : w.ownsRow b 9 1 v ss.length ((ss.mergeSort (fun x y => decide (x ≤ y))).map encStr)) (hp : ss.Perm (keysP s)) (hn : (s.map (fun q => q.1)).Nodup) :
  (∃ A c, v = .slice A (sortP s).length c) ∧ Kd.R Kd.string 9 w b (fun _ => True) v ((sortP s).map (fun q => q.1)) := by
 have hR : Kd.R Kd.string 9 w b (fun _ => True) v ((sortP s).map (fun q => q.1)) := by
  refine Kd.R_of_own ?_ (fun _ _ => trivial)
  rw [keys_sorted hn hp] at h
  have e1 : ss.length = ((sortP s).map (fun q => q.1)).length := by rw [hp.length_eq, List.length_map, sortP_len]; unfold keysP; rw [List.length_map]
  rw [e1] at h
  have e2 : (keysP (sortP s)).map encStr = encs Value.string ((sortP s).map (fun q => q.1)) := by
   unfold keysP encs
   rw [List.map_map, List.map_map]
   refine List.map_congr_left (fun q _ => ?_)
   simp [encStr]
  rw [e2] at h
  exact h
 obtain ⟨A, c, e⟩ := Kd.R_slice hR
 exact ⟨⟨A, c, by rw [e, List.length_map]⟩, hR⟩
theorem made_N (W : World) (base n : Nat) (cur : Array Value) (hb : base ≤ W.heap.size) (hc : cur.size = n * 9) (hn : n ≤ maxLen) : Kd.N k49 49 (W.alloc (.cells cur 49)) base (fun k => W.heap.size ≤ k) (.slice (some ⟨W.heap.size, 0, none⟩) 0 n) [] :=
 ⟨fun k hk => by simp [Value.ownBlock] at hk; omega, [], rfl, ⟨fun k hk => hk.symm, [], World.ownsRow_made W cur n hb hn hc, Reps.none _ _⟩, fun j x c h => by simp at h⟩
theorem drew_below {w wq : World} (h : w.drew = wq) : Below w.heap.size w wq := by rw [← h]; exact below_drew (Below.refl _ _)
theorem rcell' {W w1 : World} {row : Option Nat} (hg : W.grownBy w1 row) {g o : Nat} {v : Value} (hne : some g ≠ row) (h : W.cell? ⟨g, o, none⟩ = some v) : w1.cell? ⟨g, o, none⟩ = some v := (World.cell?_of_block (a := ⟨g, o, none⟩) (hg.block g (World.block_lt_of_cell? W _ h) hne)).trans h
set_option maxRecDepth 100000 in
set_option maxHeartbeats 8000000 in
theorem Nodes_calls (base d : Nat) (l : List Mem) (s : PS) (B : Nat → Nat) (W : World) (hlen : l.length ≤ 1000000000000) (hz : ∀ m ∈ l, m.f4.length ≤ 140737488351232) (hD : DirS W base d l.length l s B) (hI : FInv l l.length s) (hbase : base ≤ W.heap.size) :
  Calls Tryz.prog 31 #[.map (some d)] W fun e W' => ∃ v, e = .returned v ∧ Kd.N k49 49 W' base (fun k => W.heap.size ≤ k) v ((sortP s).map (nodeOf l (sortP s))) ∧ Below base W W' := by
 have hdlt : d < W.heap.size := hD.1.lt
 have hsle : s.length ≤ 1000000000000 := by have := hI.len; omega
 have hsl : ((sortP s).length : Int) ≤ 1000000000000 := by rw [sortP_len]; omega
 have hkeys : ∀ w, MapS Tryz.prog 9 w d l.length (dirV B s) → ∃ D : DataW Value, w.ownsMap Tryz.prog 9 heldE d l.length D ∧ (keysP s).Perm (strKeys D) ∧ Maps.size D = s.length := fun w h => by
  obtain ⟨D, h1, h2, h3⟩ := h.keys Tryz.underlying9 (keysP_nodup hI.nodup) (fun k => by rw [atD_is]; unfold dirV; cases atD s k <;> rfl)
  exact ⟨D, h1, h2, by rw [h3]; unfold keysP; rw [List.length_map]⟩
 obtain ⟨D0, hown0, hperm0, hsz0⟩ := hkeys W hD.1
 obtain ⟨i0, hi0, hzz⟩ := Option.map_eq_some_iff.1 infoNode
 simp only [Prod.mk.injEq] at hzz
 have hmk := fun w : World => run_make (P := Tryz.prog) w 30 49 i0 _ Tryz.underlying30 hi0 hzz.1 .i64 .i64 0 (s.length : Int) (by omega) (by omega) (by rw [hzz.2.2]; omega) (by omega)
 rw [hzz.2.1] at hmk
 simp only [Int.toNat_zero, Int.toNat_natCast] at hmk
 generalize hcur : madeCells _ (s.length * 9) = cur at hmk
 have hcs : cur.size = s.length * 9 := by rw [← hcur]; exact size_madeCells _ _
 obtain ⟨D1, hown1, hperm1, hsz1⟩ := hkeys (W.alloc (.cells cur 49)) (hD.1.alloc _)
 have hN0 := made_N W base s.length cur hbase hcs (by unfold maxLen; omega)
 have hcS := callsIn_wide.1 (Tryz.slices_Sorted_keys_44_45 d l.length D1 heldE _ hown1 (by rw [hsz1]; unfold maxLen; omega) (by rw [hsz1]; omega))
 simp only [World.size_alloc] at hcS
 have HCS := Aside0.mk hcS
 have HKK := Aside0.mk hperm1
 have HN0 := Aside0.mk hN0
 have HD := Aside0.mk hD
 have HI := Aside0.mk hI
 have HZ := Aside0.mk hz
 have HO0 := Aside0.mk hown0
 have HS0 := Aside0.mk hsz0
 clear hkeys hown0 hperm0 hsz0 hi0 hzz hcur hcs hown1 hperm1 hsz1 hN0 hD hI hz hcS
 generalize hpost : (fun (e : Ending) (W' : World) => ∃ v, e = .returned v ∧ Kd.N k49 49 W' base (fun k => W.heap.size ≤ k) v ((sortP s).map (nodeOf l (sortP s))) ∧ Below base W W') = Q
 have hQ := Aside0.mk hpost
 clear hpost
 go_enter Tryz.func31, Tryz.ntmps31
 go_wp2_with (first
  | (at_len; refine wpList_len_own _ rfl _ 63 rfl 9 77 Tryz.underlying63 heldE d l.length D0 rfl HO0.out ?_; rw [HS0.out])
  | (go_at_call 45; refine (callsIn_wide.1 (Tryz.maps_Keys_45 _ _)).mono ?_; rintro e w' ⟨rfl, rfl⟩)
  | (go_at_call 44; refine HCS.out.mono ?_; rintro e w2 ⟨vq, ss, rfl, hS, hrow, hnil, hb2⟩; obtain ⟨⟨Aq, cq, rfl⟩, hRq⟩ := sorted_row hrow (hS.trans HKK.out.symm) HI.out.nodup; have HRq := Aside0.mk hRq; have HB2 := Aside0.mk hb2; clear hS hrow hnil hb2 hRq))
 have hBA := below_alloc (below_alloc (Below.refl W.heap.size W) (Obj.cells cur 49)) (Obj.cells #[Value.map (some d)] 63)
 have hB2 : Below W.heap.size W w2 := hBA.trans (HB2.out.mono (by omega))
 have hstart : NodRel l s base d B W (.slice Aq (sortP s).length cq) 0 (.slice (some ⟨W.heap.size, 0, none⟩) 0 s.length) w2 := by
  refine ⟨by omega, by omega, HD.out.1.below hB2, fun c m h1 h2 => ?_, Kd.N_below (Kd.N_alloc HN0.out _) (by rw [World.size_alloc, World.size_alloc]; exact HB2.out), Kd.R_lower HRq.out (by omega), hB2.mono hbase⟩
  have := (HD.out.2.1 c m h1 (List.getElem?_eq_some_iff.1 h1).1 h2).below hB2
  have e : ldF m ((sortP s).take (0 : Int).toNat) c = emp := by unfold ldF; split <;> rfl
  rw [e]
  exact this
 have HST := Aside0.mk hstart
 clear hstart hB2 hBA HRq HB2
 go_loopw [14, 3] (fun i o wr => ∃ n : Int, i = .int .i64 n ∧ Aside0 (NodRel l s base d B W (.slice Aq (sortP s).length cq) n o wr)) (fun i _ _ => ((sortP s).length - (intOf i)).toNat)
 case atStart => exact ⟨0, rfl, HST⟩
 case round =>
  obtain ⟨n, rfl, HR⟩ := hrel
  have h0 := HR.out.1
  have h1 := HR.out.2.1
  have HW : Aside0 (W.heap.size ≤ wr.heap.size) := ⟨HR.out.2.2.2.2.2.2.size⟩
  have hNv := HR.out.2.2.2.2.1
  generalize hout : ((sortP s).take n.toNat).map (nodeOf l (sortP s)) = out at hNv
  obtain ⟨Ao, co, rfl⟩ := Kd.N_slice hNv
  have hol : out.length = n.toNat := by rw [← hout, List.length_map, List.length_take]; omega
  have HOL := Aside0.mk hol
  have HOUT := Aside0.mk hout
  have HNV := Aside0.mk hNv
  clear hol hout hNv
  by_cases hlt : n < ((sortP s).length : Int)
  ·have c1b : decide (n < ((sortP s).length : Int)) = true := decide_eq_true hlt
   have hnl : n.toNat < (sortP s).length := by omega
   have hqm : (sortP s)[n.toNat] ∈ s := (sortP_perm s).mem_iff.1 (List.getElem_mem _)
   obtain ⟨hc, m, hm, h49⟩ := HI.out.cls _ hqm
   have hfull := HI.out.full _ hqm
   have hps : ((sortP s)[n.toNat]).1.size ≤ maxLen := by have := HI.out.small _ hqm; unfold maxLen; omega
   have hat := atD_of_mem HI.out.nodup hqm
   have hCq := (Kd.R_reads' HR.out.2.2.2.2.2.1).2.2
   rw [List.length_map] at hCq
   obtain ⟨ad, hAq, x0⟩ := Kd.at_string hCq n h0 hlt
   have hx : rdOf ByteArray.empty ((sortP s).map (fun q => q.1)) n = (sortP s)[n.toNat].1 := by
    unfold rdOf
    rw [List.getD_eq_getElem?_getD, List.getElem?_map, List.getElem?_eq_getElem hnl]
    rfl
   rw [hx] at x0
   cases hAq
   have hdv : dirV B s (sortP s)[n.toNat].1.data.toList = some (.pointer (some ⟨B (sortP s)[n.toNat].2, 0, none⟩)) := by unfold dirV; rw [hat]; rfl
   have hlook := HR.out.2.2.1.look Tryz.underlying9 Tryz.underlying63 (zeroThing _) hps
   rw [hdv] at hlook
   simp only [Option.getD_some] at hlook
   have htk := List.take_succ_eq_append_getElem hnl
   have hnode := nodeOf_ld hnl hm
   have hTs := HR.out.2.2.2.1
   obtain ⟨hg0, v, hblk, hRb⟩ := hTs _ m hm h49
   generalize hqe : (sortP s)[n.toNat] = q at hqm hc hm hfull hps hat x0 hdv hlook htk hnode hblk hRb hg0
   obtain ⟨hk0, hk1, hk2, hk3, hk4, hk5, hk6, hk7⟩ := thing_cells hblk
   have hfz := thing_soft hblk 7
   have HTK := Aside0.mk htk
   have HND := Aside0.mk hnode
   have HM := Aside0.mk hm
   have H49 := Aside0.mk h49
   have HQE := Aside0.mk hqe
   have HFU := Aside0.mk hfull
   have hBlt := blk_lt' hblk
   have hmid : ∀ wm, (wm = wr ∧ (m.f2 = 48 → ((sortP s).take n.toNat).any (fun r => decide (r.2 = q.2)) = true) ∨ wm = wr.setCell ⟨B q.2, 7, none⟩ (.string q.1) ∧ m.f2 = 48 ∧ ((sortP s).take n.toNat).any (fun r => decide (r.2 = q.2)) = false) →
     NodMid l s base d B W (.slice (some ad) (sortP s).length cq) n out (.slice Ao out.length co) wm ∧ wr.heap.size = wm.heap.size := by
    rintro wm (⟨rfl, h⟩ | ⟨rfl, h48, h⟩)
    ·refine ⟨⟨HR.out.2.2.1, ?_, HNV.out, HR.out.2.2.2.2.2.1, HR.out.2.2.2.2.2.2⟩, rfl⟩
     rw [HTK.out]
     exact hTs.stay (fun m' hm' h48 => by rw [HM.out] at hm'; cases hm'; exact h h48)
    ·refine ⟨⟨HR.out.2.2.1.setCell (a := ⟨B q.2, 7, none⟩) (fun e => ?_) _, ?_, Kd.N_far HNV.out (p := ⟨B q.2, 7, none⟩) (fun k hk e => ?_) _, Kd.R_set HR.out.2.2.2.2.2.1 hblk (fun k hk => ?_) 7 _, HR.out.2.2.2.2.2.2.setCell (p := ⟨B q.2, 7, none⟩) hg0 _⟩, (World.size_setCell _ _ _).symm⟩
     ·have e' : d = B q.2 := e
      rw [← e'] at hblk
      exact HR.out.2.2.1.isMap _ _ hblk
     ·rw [HTK.out]
      exact hTs.store HM.out h48 h (fun c c' m1 m2 h1 h2 h3 h4 h5 => HD.out.2.2 c c' m1 m2 h1 (List.getElem?_eq_some_iff.1 h4).1 h2 h3 h4 h5)
     ·have e' : k = B q.2 := e
      have h8 : B q.2 < W.heap.size := (HD.out.2.1 _ m HM.out (List.getElem?_eq_some_iff.1 HM.out).1 H49.out).lt
      omega
     ·rcases List.mem_cons.1 hk with rfl | hk
      ·decide
      ·cases hk
   have HMID := Aside0.mk hmid
   have hlf := leadOf_full (s := (sortP s).take n.toNat) (fun r hr => HI.out.full r ((sortP_perm s).mem_iff.1 (List.mem_of_mem_take hr))) q.2
   have HLF := Aside0.mk hlf
   clear hqm hc hm hat hdv htk hnode hTs hRb hqe hfull hmid hlf hCq hx hblk h49
   by_cases h48 : m.f2 = 48
   ·have e48 : (m.f2 == 48) = true := beq_iff_eq.2 h48
    have eld : ldF m ((sortP s).take n.toNat) q.2 = leadOf ((sortP s).take n.toNat) q.2 := by unfold ldF; rw [if_pos h48]
    rw [eld] at hk7
    generalize hld : leadOf ((sortP s).take n.toNat) q.2 = ld0 at hk7
    have H48 := Aside0.mk h48
    have HLD := Aside0.mk hld
    clear h48 eld hld
    cases ha : ((sortP s).take n.toNat).any (fun r => decide (r.2 = q.2)) with
    | true =>
     have hne : (ld0.toList == []) = false := by rw [beq_eq_false_iff_ne, ← HLD.out]; intro e; rw [HLF.out.1 e] at ha; cases ha
     have hne2 : ld0.toList ≠ [] := by simpa using hne
     obtain ⟨hmid, hwz⟩ := HMID.out wr (.inl ⟨rfl, fun _ => ha⟩)
     have HMM := Aside0.mk hmid
     clear ha hmid
     go_upto_region 8 with (fail)
     obtain ⟨_, vb, hbm, hRm⟩ := HMM.out.2.1 q.2 m HM.out H49.out
     obtain ⟨Ab, cb, rfl, hlb, hCb⟩ := Kd.R_reads hRm
     rw [HTK.out] at hbm
     generalize hldn : ldF m ((sortP s).take n.toNat ++ [q]) q.2 = ldn at hbm
     obtain ⟨j0, j1, j2, j3, j4, j5, j6, j7⟩ := thing_cells hbm
     have HCB := Aside0.mk hCb
     have HLB := Aside0.mk hlb
     have HLN := Aside0.mk hldn
     have HBM := Aside0.mk hbm
     have hwlt : W.heap.size ≤ wr.heap.size := HW.out
     clear hRm hCb hlb hldn hbm hk0 hk1 hk2 hk3 hk4 hk5 hk6 hk7
     refine start_ (n := 27) (S := fun w' => w'.cell? ⟨B q.2, 0, none⟩ = some (.int .u8 m.f2) ∧ w'.cell? ⟨B q.2, 1, none⟩ = some (.int .i64 m.f3.f0) ∧ w'.cell? ⟨B q.2, 2, none⟩ = some (.int .i64 m.f3.f1) ∧ w'.cell? ⟨B q.2, 3, none⟩ = some (.int .i64 m.f3.f2) ∧ w'.cell? ⟨B q.2, 4, none⟩ = some (.int .i64 m.f3.f3) ∧ w'.cell? ⟨B q.2, 5, none⟩ = some (.string m.f1) ∧ w'.cell? ⟨B q.2, 6, none⟩ = some (.slice Ab m.f4.length cb) ∧ w'.cell? ⟨B q.2, 7, none⟩ = some (.string ldn)) (ds := []) #[false, false, false, false, false, false, false, false, false, false, false, false, false, false, false, false, false, false, false, false, false, false, false, false, false, false, false] (by kernel_rfl) rfl rfl ⟨j0, j1, j2, j3, j4, j5, j6, j7⟩ (fun hHeld => ?_)
     generalize hwq : World.drew _ = wq at hHeld ⊢
     have hzq : wr.heap.size = wq.heap.size := by rw [← hwq]; exact hwz
     have HNQ : Aside0 (Kd.N k49 49 wq base (fun k => W.heap.size ≤ k) (.slice Ao out.length co) out) := ⟨by rw [← hwq]; exact Kd.N_drew HMM.out.2.2.1⟩
     have HBQ : Aside0 (Below base W wq) := ⟨by rw [← hwq]; exact below_drew HMM.out.2.2.2.2⟩
     have HOB := Aside0.mk (Kd.N_lt HNQ.out)
     have HNE : Aside0 (∀ w5 : World, Below wq.heap.size wq w5 → some (B q.2) ≠ (Value.slice Ao out.length co).ownBlock) := ⟨fun w5 hb => Kd.N_ne (cells := thingCells m (.slice Ab m.f4.length cb) ldn) (t := 80) HNQ.out (by rw [← hwq]; exact HBM.out) (by decide)⟩
     refine pure_ (i := 0) (N := some 37) (v := ?_) (a' := ?_) #[true, false, false, false, false, false, false, false, false, false, false, false, false, false, false, false, false, false, false, false, false, false, false, false, false, false, false] rfl rfl (by kernel_rfl) (fun _ _ _ h => h) (Or.inl ⟨by rfl, ?_⟩) ?_ ?_
     rotate_left
     ·intro w'
      go_simp
      with_reducible rfl
     rotate_left
     ·simp only [Act.put, List.setIfInBounds_toArray, List.set_cons_zero, List.set_cons_succ, i64_w, i32_w]
      rfl
     refine pure_ (i := 1) (N := some 38) (v := ?_) (a' := ?_) #[true, true, false, false, false, false, false, false, false, false, false, false, false, false, false, false, false, false, false, false, false, false, false, false, false, false, false] rfl rfl (by kernel_rfl) (fun _ _ _ h => h) (Or.inl ⟨by rfl, ?_⟩) ?_ ?_
     rotate_left
     ·intro w'
      go_simp
      with_reducible rfl
     rotate_left
     ·simp only [Act.put, List.setIfInBounds_toArray, List.set_cons_zero, List.set_cons_succ, i64_w, i32_w]
      rfl
     refine pure_ (i := 2) (N := some 39) (v := ?_) (a' := ?_) #[true, true, true, false, false, false, false, false, false, false, false, false, false, false, false, false, false, false, false, false, false, false, false, false, false, false, false] rfl rfl (by kernel_rfl) (fun _ _ _ h => h) (Or.inl ⟨by rfl, ?_⟩) ?_ ?_
     rotate_left
     ·intro w'
      go_simp
      with_reducible rfl
     rotate_left
     ·simp only [Act.put, List.setIfInBounds_toArray, List.set_cons_zero, List.set_cons_succ, i64_w, i32_w]
      rfl
     refine pure_ (i := 3) (N := some 40) (v := ?_) (a' := ?_) #[true, true, true, true, false, false, false, false, false, false, false, false, false, false, false, false, false, false, false, false, false, false, false, false, false, false, false] rfl rfl (by kernel_rfl) (fun _ _ _ h => h) (Or.inl ⟨by rfl, ?_⟩) ?_ ?_
     rotate_left
     ·intro w'
      go_simp
      with_reducible rfl
     rotate_left
     ·simp only [Act.put, List.setIfInBounds_toArray, List.set_cons_zero, List.set_cons_succ, i64_w, i32_w]
      rfl
     refine pure_ (i := 4) (N := some 41) (v := ?_) (a' := ?_) #[true, true, true, true, true, false, false, false, false, false, false, false, false, false, false, false, false, false, false, false, false, false, false, false, false, false, false] rfl rfl (by kernel_rfl) (fun _ _ _ h => h) (Or.inl ⟨by rfl, ?_⟩) ?_ ?_
     rotate_left
     ·intro w'
      go_simp
      with_reducible rfl
     rotate_left
     ·simp only [Act.put, List.setIfInBounds_toArray, List.set_cons_zero, List.set_cons_succ, i64_w, i32_w]
      rfl
     refine take_ (i := 5) (N := some 42) (v := ?_) (a' := ?_) #[true, true, true, true, true, true, false, false, false, false, false, false, false, false, false, false, false, false, false, false, false, false, false, false, false, false, false] rfl rfl (by kernel_rfl) (fun _ _ _ h => h) (Or.inl ⟨by rfl, ?_⟩) hHeld ?_ ?_
     rotate_left
     ·rintro w' ⟨s0, s1, s2, s3, s4, s5, s6, s7⟩
      go_simp
      with_reducible rfl
     rotate_left
     ·simp only [Act.put, List.setIfInBounds_toArray, List.set_cons_zero, List.set_cons_succ, i64_w, i32_w]
      rfl
     refine pure_ (i := 6) (N := some 43) (v := ?_) (a' := ?_) #[true, true, true, true, true, true, true, false, false, false, false, false, false, false, false, false, false, false, false, false, false, false, false, false, false, false, false] rfl rfl (by kernel_rfl) (fun _ _ _ h => h) (Or.inl ⟨by rfl, ?_⟩) ?_ ?_
     rotate_left
     ·intro w'
      go_simp
      with_reducible rfl
     rotate_left
     ·simp only [Act.put, List.setIfInBounds_toArray, List.set_cons_zero, List.set_cons_succ, i64_w, i32_w]
      rfl
     refine pure_ (i := 7) (N := some 44) (v := ?_) (a' := ?_) #[true, true, true, true, true, true, true, true, false, false, false, false, false, false, false, false, false, false, false, false, false, false, false, false, false, false, false] rfl rfl (by kernel_rfl) (fun _ _ _ h => h) (Or.inl ⟨by rfl, ?_⟩) ?_ ?_
     rotate_left
     ·intro w'
      go_simp
      with_reducible rfl
     rotate_left
     ·simp only [Act.put, List.setIfInBounds_toArray, List.set_cons_zero, List.set_cons_succ, i64_w, i32_w]
      rfl
     refine pure_ (i := 8) (N := some 45) (v := ?_) (a' := ?_) #[true, true, true, true, true, true, true, true, true, false, false, false, false, false, false, false, false, false, false, false, false, false, false, false, false, false, false] rfl rfl (by kernel_rfl) (fun _ _ _ h => h) (Or.inl ⟨by rfl, ?_⟩) ?_ ?_
     rotate_left
     ·intro w'
      go_simp
      with_reducible rfl
     rotate_left
     ·simp only [Act.put, List.setIfInBounds_toArray, List.set_cons_zero, List.set_cons_succ, i64_w, i32_w]
      rfl
     refine take_ (i := 9) (N := some 46) (v := ?_) (a' := ?_) #[true, true, true, true, true, true, true, true, true, true, false, false, false, false, false, false, false, false, false, false, false, false, false, false, false, false, false] rfl rfl (by kernel_rfl) (fun _ _ _ h => h) (Or.inl ⟨by rfl, ?_⟩) hHeld ?_ ?_
     rotate_left
     ·rintro w' ⟨s0, s1, s2, s3, s4, s5, s6, s7⟩
      go_simp
      with_reducible rfl
     rotate_left
     ·simp only [Act.put, List.setIfInBounds_toArray, List.set_cons_zero, List.set_cons_succ, i64_w, i32_w]
      rfl
     refine pure_ (i := 10) (N := some 47) (v := ?_) (a' := ?_) #[true, true, true, true, true, true, true, true, true, true, true, false, false, false, false, false, false, false, false, false, false, false, false, false, false, false, false] rfl rfl (by kernel_rfl) (fun _ _ _ h => h) (Or.inl ⟨by rfl, ?_⟩) ?_ ?_
     rotate_left
     ·intro w'
      go_simp
      with_reducible rfl
     rotate_left
     ·simp only [Act.put, List.setIfInBounds_toArray, List.set_cons_zero, List.set_cons_succ, i64_w, i32_w]
      rfl
     refine pure_ (i := 11) (N := some 48) (v := ?_) (a' := ?_) #[true, true, true, true, true, true, true, true, true, true, true, true, false, false, false, false, false, false, false, false, false, false, false, false, false, false, false] rfl rfl (by kernel_rfl) (fun _ _ _ h => h) (Or.inl ⟨by rfl, ?_⟩) ?_ ?_
     rotate_left
     ·intro w'
      go_simp
      with_reducible rfl
     rotate_left
     ·simp only [Act.put, List.setIfInBounds_toArray, List.set_cons_zero, List.set_cons_succ, i64_w, i32_w]
      rfl
     refine pure_ (i := 12) (N := some 49) (v := ?_) (a' := ?_) #[true, true, true, true, true, true, true, true, true, true, true, true, true, false, false, false, false, false, false, false, false, false, false, false, false, false, false] rfl rfl (by kernel_rfl) (fun _ _ _ h => h) (Or.inl ⟨by rfl, ?_⟩) ?_ ?_
     rotate_left
     ·intro w'
      go_simp
      with_reducible rfl
     rotate_left
     ·simp only [Act.put, List.setIfInBounds_toArray, List.set_cons_zero, List.set_cons_succ, i64_w, i32_w]
      rfl
     refine take_ (i := 13) (N := some 50) (v := ?_) (a' := ?_) #[true, true, true, true, true, true, true, true, true, true, true, true, true, true, false, false, false, false, false, false, false, false, false, false, false, false, false] rfl rfl (by kernel_rfl) (fun _ _ _ h => h) (Or.inl ⟨by rfl, ?_⟩) hHeld ?_ ?_
     rotate_left
     ·rintro w' ⟨s0, s1, s2, s3, s4, s5, s6, s7⟩
      go_simp
      with_reducible rfl
     rotate_left
     ·simp only [Act.put, List.setIfInBounds_toArray, List.set_cons_zero, List.set_cons_succ, i64_w, i32_w]
      rfl
     refine pure_ (i := 14) (N := some 51) (v := ?_) (a' := ?_) #[true, true, true, true, true, true, true, true, true, true, true, true, true, true, true, false, false, false, false, false, false, false, false, false, false, false, false] rfl rfl (by kernel_rfl) (fun _ _ _ h => h) (Or.inl ⟨by rfl, ?_⟩) ?_ ?_
     rotate_left
     ·intro w'
      go_simp
      with_reducible rfl
     rotate_left
     ·simp only [Act.put, List.setIfInBounds_toArray, List.set_cons_zero, List.set_cons_succ, i64_w, i32_w]
      rfl
     refine pure_ (i := 15) (N := some 52) (v := ?_) (a' := ?_) #[true, true, true, true, true, true, true, true, true, true, true, true, true, true, true, true, false, false, false, false, false, false, false, false, false, false, false] rfl rfl (by kernel_rfl) (fun _ _ _ h => h) (Or.inl ⟨by rfl, ?_⟩) ?_ ?_
     rotate_left
     ·intro w'
      go_simp
      with_reducible rfl
     rotate_left
     ·simp only [Act.put, List.setIfInBounds_toArray, List.set_cons_zero, List.set_cons_succ, i64_w, i32_w]
      rfl
     refine pure_ (i := 16) (N := some 53) (v := ?_) (a' := ?_) #[true, true, true, true, true, true, true, true, true, true, true, true, true, true, true, true, true, false, false, false, false, false, false, false, false, false, false] rfl rfl (by kernel_rfl) (fun _ _ _ h => h) (Or.inl ⟨by rfl, ?_⟩) ?_ ?_
     rotate_left
     ·intro w'
      go_simp
      with_reducible rfl
     rotate_left
     ·simp only [Act.put, List.setIfInBounds_toArray, List.set_cons_zero, List.set_cons_succ, i64_w, i32_w]
      rfl
     refine take_ (i := 17) (N := some 54) (v := ?_) (a' := ?_) #[true, true, true, true, true, true, true, true, true, true, true, true, true, true, true, true, true, true, false, false, false, false, false, false, false, false, false] rfl rfl (by kernel_rfl) (fun _ _ _ h => h) (Or.inl ⟨by rfl, ?_⟩) hHeld ?_ ?_
     rotate_left
     ·rintro w' ⟨s0, s1, s2, s3, s4, s5, s6, s7⟩
      go_simp
      with_reducible rfl
     rotate_left
     ·simp only [Act.put, List.setIfInBounds_toArray, List.set_cons_zero, List.set_cons_succ, i64_w, i32_w]
      rfl
     refine pure_ (i := 18) (N := some 55) (v := ?_) (a' := ?_) #[true, true, true, true, true, true, true, true, true, true, true, true, true, true, true, true, true, true, true, false, false, false, false, false, false, false, false] rfl rfl (by kernel_rfl) (fun _ _ _ h => h) (Or.inl ⟨by rfl, ?_⟩) ?_ ?_
     rotate_left
     ·intro w'
      go_simp
      with_reducible rfl
     rotate_left
     ·simp only [Act.put, List.setIfInBounds_toArray, List.set_cons_zero, List.set_cons_succ, i64_w, i32_w]
      rfl
     refine pure_ (i := 19) (N := some 56) (v := ?_) (a' := ?_) #[true, true, true, true, true, true, true, true, true, true, true, true, true, true, true, true, true, true, true, true, false, false, false, false, false, false, false] rfl rfl (by kernel_rfl) (fun _ _ _ h => h) (Or.inl ⟨by rfl, ?_⟩) ?_ ?_
     rotate_left
     ·intro w'
      go_simp
      with_reducible rfl
     rotate_left
     ·simp only [Act.put, List.setIfInBounds_toArray, List.set_cons_zero, List.set_cons_succ, i64_w, i32_w]
      rfl
     refine pure_ (i := 20) (N := some 57) (v := ?_) (a' := ?_) #[true, true, true, true, true, true, true, true, true, true, true, true, true, true, true, true, true, true, true, true, true, false, false, false, false, false, false] rfl rfl (by kernel_rfl) (fun _ _ _ h => h) (Or.inl ⟨by rfl, ?_⟩) ?_ ?_
     rotate_left
     ·intro w'
      go_simp
      with_reducible rfl
     rotate_left
     ·simp only [Act.put, List.setIfInBounds_toArray, List.set_cons_zero, List.set_cons_succ, i64_w, i32_w]
      rfl
     refine take_ (i := 21) (N := some 58) (v := ?_) (a' := ?_) #[true, true, true, true, true, true, true, true, true, true, true, true, true, true, true, true, true, true, true, true, true, true, false, false, false, false, false] rfl rfl (by kernel_rfl) (fun _ _ _ h => h) (Or.inl ⟨by rfl, ?_⟩) hHeld ?_ ?_
     rotate_left
     ·rintro w' ⟨s0, s1, s2, s3, s4, s5, s6, s7⟩
      go_simp
      with_reducible rfl
     rotate_left
     ·simp only [Act.put, List.setIfInBounds_toArray, List.set_cons_zero, List.set_cons_succ, i64_w, i32_w]
      rfl
     refine one_ (i := 22) (N := some 59) #[true, true, true, true, true, true, true, true, true, true, true, true, true, true, true, true, true, true, true, true, true, true, true, false, false, false, false] rfl rfl (by kernel_rfl) (by decide) (fun K hK => ?_)
     refine goes_ Tryz.func43 (by kernel_rfl) rfl #[.slice Ab m.f4.length cb] (by rfl) rfl rfl (by first | rfl | (simp [Act.eval]; done)) ?_
     refine (Clone_calls Ab cb m.f4 wq (by rw [← hwq]; exact Kd.C_drew HCB.out) (HZ.out m (List.mem_of_getElem? HM.out))).mono ?_
     rintro e w5 ⟨v5, rfl, hR5, hb5⟩
     obtain ⟨Av, cv, rfl, hlv, hCv⟩ := Kd.R_reads hR5
     refine ⟨_, rfl, ?_⟩
     refine hK.out _ _ ⟨fkeep hb5 hHeld.1, fkeep hb5 hHeld.2.1, fkeep hb5 hHeld.2.2.1, fkeep hb5 hHeld.2.2.2.1, fkeep hb5 hHeld.2.2.2.2.1, fkeep hb5 hHeld.2.2.2.2.2.1, fkeep hb5 hHeld.2.2.2.2.2.2.1, fkeep hb5 hHeld.2.2.2.2.2.2.2⟩ (fun hHeld2 => ?_)
     clear hK K
     have HR5 := Aside0.mk hR5
     have HB5 := Aside0.mk hb5
     have HLV := Aside0.mk hlv
     clear hR5 hCv hlv
     refine norm_ (a' := ?_) ?_ ?_
     rotate_left
     ·show Act.put _ (some 59) _ = _
      simp only [Act.put, List.setIfInBounds_toArray, List.set_cons_zero, List.set_cons_succ, i64_w, i32_w]
      rfl
     refine pure_ (i := 23) (N := some 60) (v := ?_) (a' := ?_) #[true, true, true, true, true, true, true, true, true, true, true, true, true, true, true, true, true, true, true, true, true, true, true, true, false, false, false] rfl rfl (by kernel_rfl) (fun _ _ _ h => h) (Or.inl ⟨by rfl, ?_⟩) ?_ ?_
     rotate_left
     ·intro w'
      go_simp
      with_reducible rfl
     rotate_left
     ·simp only [Act.put, List.setIfInBounds_toArray, List.set_cons_zero, List.set_cons_succ, i64_w, i32_w]
      rfl
     refine one_ (i := 24) (N := some 61) #[true, true, true, true, true, true, true, true, true, true, true, true, true, true, true, true, true, true, true, true, true, true, true, true, true, false, false] rfl rfl (by kernel_rfl) (by decide) (fun K hK => ?_)
     refine value_ (w1 := ?_) (v := ?_) (by rfl) rfl ?_ ?_
     rotate_left 2
     ·go_simp
      constructor
      ·rfl
      ·rfl
     refine hK.out _ _ ⟨fcell hHeld2.1 _, fcell hHeld2.2.1 _, fcell hHeld2.2.2.1 _, fcell hHeld2.2.2.2.1 _, fcell hHeld2.2.2.2.2.1 _, fcell hHeld2.2.2.2.2.2.1 _, fcell hHeld2.2.2.2.2.2.2.1 _, fcell hHeld2.2.2.2.2.2.2.2 _⟩ (fun hHeld3 => ?_)
     clear hK K
     refine norm_ (a' := ?_) ?_ ?_
     rotate_left
     ·show Act.put _ (some 61) _ = _
      simp only [Act.put, List.setIfInBounds_toArray, List.set_cons_zero, List.set_cons_succ, i64_w, i32_w]
      rfl
     refine one_ (i := 25) (N := some 62) #[true, true, true, true, true, true, true, true, true, true, true, true, true, true, true, true, true, true, true, true, true, true, true, true, true, true, false] rfl rfl (by kernel_rfl) (by decide) (fun K hK => ?_)
     refine Kd.N_append_step k49 (w0 := W) (W := w5) base (by rfl) (.tmp 37) (.tmp 61) 30 49 (.agg #[(.string ⟨#[]⟩), (.string ⟨#[]⟩), (.string ⟨#[]⟩), (.int .u8 0), (.int .i64 0), (.int .i64 0), (.int .i64 0), (.int .i64 0), (.slice none 0 0)]) 112 rfl Tryz.underlying30 infoNode rfl (by decide) (by decide) (.slice Ao out.length co) out (⟨q.1, m.f1, ldn, m.f2, m.f3, m.f4⟩ : Node) [.string q.1, .string m.f1, .string ldn, .int .u8 m.f2, .int .i64 m.f3.f0, .int .i64 m.f3.f1, .int .i64 m.f3.f2, .int .i64 m.f3.f3, .slice Av m.f4.length cv] (fun k => W.heap.size ≤ k) (fun k => wq.heap.size ≤ k ∧ k < w5.heap.size) (by rfl) rfl (k49_mkF w5 _ _ HLV.out (Kd.R_F (Kd.R_mono (Kd.R_bound HR5.out) (fun k hk => ⟨hk.2.1, hk.2.2.1⟩)))) (fun k hk => ⟨by have := hk.1; omega, fun e => by have := HOB.out k e.symm; have := hk.1; omega⟩) (fun k hk => by have := HB5.out.size; omega) (Kd.N_below HNQ.out HB5.out) (HBQ.out.trans (HB5.out.mono (by omega))) (by have := HB5.out.size; omega) (by rw [HOL.out]; omega) ?_
     intro v6 w6 hN6 hB6 hg6 hat6
     have HN6 := Aside0.mk hN6
     have HB6 := Aside0.mk hB6
     have HG6 := Aside0.mk hg6
     clear hN6 hB6 hat6
     refine hK.out _ _ ⟨rcell' hg6 (HNE.out _ HB5.out) hHeld2.1, rcell' hg6 (HNE.out _ HB5.out) hHeld2.2.1, rcell' hg6 (HNE.out _ HB5.out) hHeld2.2.2.1, rcell' hg6 (HNE.out _ HB5.out) hHeld2.2.2.2.1, rcell' hg6 (HNE.out _ HB5.out) hHeld2.2.2.2.2.1, rcell' hg6 (HNE.out _ HB5.out) hHeld2.2.2.2.2.2.1, rcell' hg6 (HNE.out _ HB5.out) hHeld2.2.2.2.2.2.2.1, rcell' hg6 (HNE.out _ HB5.out) hHeld2.2.2.2.2.2.2.2⟩ (fun hHeld4 => ?_)
     clear hK K hg6 hHeld hHeld2 hHeld3 hb5
     refine norm_ (a' := ?_) ?_ ?_
     rotate_left
     ·show Act.put _ (some 62) _ = _
      simp only [Act.put, List.setIfInBounds_toArray, List.set_cons_zero, List.set_cons_succ, i64_w, i32_w]
      rfl
     refine pure_ (i := 26) (N := some 3) (v := ?_) (a' := ?_) #[true, true, true, true, true, true, true, true, true, true, true, true, true, true, true, true, true, true, true, true, true, true, true, true, true, true, true] rfl rfl (by kernel_rfl) (fun _ _ _ h => h) (Or.inl ⟨by rfl, ?_⟩) ?_ ?_
     rotate_left
     ·intro w'
      go_simp
      with_reducible rfl
     rotate_left
     ·simp only [Act.put, List.setIfInBounds_toArray, List.set_cons_zero, List.set_cons_succ, i64_w, i32_w]
      rfl
     refine done_ (by kernel_rfl) ?_
     have hfin : NodRel l s base d B W (.slice (some ad) (sortP s).length cq) (n + 1) v6 w6 := by
      refine mid_next h0 hnl HOUT.out HMM.out ((drew_below hwq).trans (HB5.out.mono (by rw [← hwq]; exact Nat.le_refl _))) HG6.out hdlt hbase (by omega) ?_ HB6.out
      ·have e := HND.out
       rw [HTK.out, HLN.out] at e
       rw [HQE.out, e]
       exact HN6.out
     have HFIN := Aside0.mk hfin
     clear hfin HN6 HB6 HG6 HB5 HR5 HNQ HBQ hHeld4 j0 j1 j2 j3 j4 j5 j6 j7
     go_wp2_with (fail)
     go_roundw
     case rel => exact ⟨n + 1, by go_num, HFIN⟩
     case measure => simp [intOf]; omega
    | false =>
     have hem : ld0.toList = [] := by rw [← HLD.out]; exact HLF.out.2 ha
     have hem2 : (ld0.toList == []) = true := by simpa using hem
     obtain ⟨hmid, hwz⟩ := HMID.out _ (.inr ⟨rfl, H48.out, ha⟩)
     have HMM := Aside0.mk hmid
     clear ha hmid
     go_upto_region 8 with (fail)
     obtain ⟨_, vb, hbm, hRm⟩ := HMM.out.2.1 q.2 m HM.out H49.out
     obtain ⟨Ab, cb, rfl, hlb, hCb⟩ := Kd.R_reads hRm
     rw [HTK.out] at hbm
     generalize hldn : ldF m ((sortP s).take n.toNat ++ [q]) q.2 = ldn at hbm
     obtain ⟨j0, j1, j2, j3, j4, j5, j6, j7⟩ := thing_cells hbm
     have HCB := Aside0.mk hCb
     have HLB := Aside0.mk hlb
     have HLN := Aside0.mk hldn
     have HBM := Aside0.mk hbm
     have hwlt : W.heap.size ≤ wr.heap.size := HW.out
     clear hRm hCb hlb hldn hbm hk0 hk1 hk2 hk3 hk4 hk5 hk6 hk7
     refine start_ (n := 27) (S := fun w' => w'.cell? ⟨B q.2, 0, none⟩ = some (.int .u8 m.f2) ∧ w'.cell? ⟨B q.2, 1, none⟩ = some (.int .i64 m.f3.f0) ∧ w'.cell? ⟨B q.2, 2, none⟩ = some (.int .i64 m.f3.f1) ∧ w'.cell? ⟨B q.2, 3, none⟩ = some (.int .i64 m.f3.f2) ∧ w'.cell? ⟨B q.2, 4, none⟩ = some (.int .i64 m.f3.f3) ∧ w'.cell? ⟨B q.2, 5, none⟩ = some (.string m.f1) ∧ w'.cell? ⟨B q.2, 6, none⟩ = some (.slice Ab m.f4.length cb) ∧ w'.cell? ⟨B q.2, 7, none⟩ = some (.string ldn)) (ds := []) #[false, false, false, false, false, false, false, false, false, false, false, false, false, false, false, false, false, false, false, false, false, false, false, false, false, false, false] (by kernel_rfl) rfl rfl ⟨j0, j1, j2, j3, j4, j5, j6, j7⟩ (fun hHeld => ?_)
     generalize hwq : World.drew _ = wq at hHeld ⊢
     have hzq : wr.heap.size = wq.heap.size := by rw [← hwq]; exact hwz
     have HNQ : Aside0 (Kd.N k49 49 wq base (fun k => W.heap.size ≤ k) (.slice Ao out.length co) out) := ⟨by rw [← hwq]; exact Kd.N_drew HMM.out.2.2.1⟩
     have HBQ : Aside0 (Below base W wq) := ⟨by rw [← hwq]; exact below_drew HMM.out.2.2.2.2⟩
     have HOB := Aside0.mk (Kd.N_lt HNQ.out)
     have HNE : Aside0 (∀ w5 : World, Below wq.heap.size wq w5 → some (B q.2) ≠ (Value.slice Ao out.length co).ownBlock) := ⟨fun w5 hb => Kd.N_ne (cells := thingCells m (.slice Ab m.f4.length cb) ldn) (t := 80) HNQ.out (by rw [← hwq]; exact HBM.out) (by decide)⟩
     refine pure_ (i := 0) (N := some 37) (v := ?_) (a' := ?_) #[true, false, false, false, false, false, false, false, false, false, false, false, false, false, false, false, false, false, false, false, false, false, false, false, false, false, false] rfl rfl (by kernel_rfl) (fun _ _ _ h => h) (Or.inl ⟨by rfl, ?_⟩) ?_ ?_
     rotate_left
     ·intro w'
      go_simp
      with_reducible rfl
     rotate_left
     ·simp only [Act.put, List.setIfInBounds_toArray, List.set_cons_zero, List.set_cons_succ, i64_w, i32_w]
      rfl
     refine pure_ (i := 1) (N := some 38) (v := ?_) (a' := ?_) #[true, true, false, false, false, false, false, false, false, false, false, false, false, false, false, false, false, false, false, false, false, false, false, false, false, false, false] rfl rfl (by kernel_rfl) (fun _ _ _ h => h) (Or.inl ⟨by rfl, ?_⟩) ?_ ?_
     rotate_left
     ·intro w'
      go_simp
      with_reducible rfl
     rotate_left
     ·simp only [Act.put, List.setIfInBounds_toArray, List.set_cons_zero, List.set_cons_succ, i64_w, i32_w]
      rfl
     refine pure_ (i := 2) (N := some 39) (v := ?_) (a' := ?_) #[true, true, true, false, false, false, false, false, false, false, false, false, false, false, false, false, false, false, false, false, false, false, false, false, false, false, false] rfl rfl (by kernel_rfl) (fun _ _ _ h => h) (Or.inl ⟨by rfl, ?_⟩) ?_ ?_
     rotate_left
     ·intro w'
      go_simp
      with_reducible rfl
     rotate_left
     ·simp only [Act.put, List.setIfInBounds_toArray, List.set_cons_zero, List.set_cons_succ, i64_w, i32_w]
      rfl
     refine pure_ (i := 3) (N := some 40) (v := ?_) (a' := ?_) #[true, true, true, true, false, false, false, false, false, false, false, false, false, false, false, false, false, false, false, false, false, false, false, false, false, false, false] rfl rfl (by kernel_rfl) (fun _ _ _ h => h) (Or.inl ⟨by rfl, ?_⟩) ?_ ?_
     rotate_left
     ·intro w'
      go_simp
      with_reducible rfl
     rotate_left
     ·simp only [Act.put, List.setIfInBounds_toArray, List.set_cons_zero, List.set_cons_succ, i64_w, i32_w]
      rfl
     refine pure_ (i := 4) (N := some 41) (v := ?_) (a' := ?_) #[true, true, true, true, true, false, false, false, false, false, false, false, false, false, false, false, false, false, false, false, false, false, false, false, false, false, false] rfl rfl (by kernel_rfl) (fun _ _ _ h => h) (Or.inl ⟨by rfl, ?_⟩) ?_ ?_
     rotate_left
     ·intro w'
      go_simp
      with_reducible rfl
     rotate_left
     ·simp only [Act.put, List.setIfInBounds_toArray, List.set_cons_zero, List.set_cons_succ, i64_w, i32_w]
      rfl
     refine take_ (i := 5) (N := some 42) (v := ?_) (a' := ?_) #[true, true, true, true, true, true, false, false, false, false, false, false, false, false, false, false, false, false, false, false, false, false, false, false, false, false, false] rfl rfl (by kernel_rfl) (fun _ _ _ h => h) (Or.inl ⟨by rfl, ?_⟩) hHeld ?_ ?_
     rotate_left
     ·rintro w' ⟨s0, s1, s2, s3, s4, s5, s6, s7⟩
      go_simp
      with_reducible rfl
     rotate_left
     ·simp only [Act.put, List.setIfInBounds_toArray, List.set_cons_zero, List.set_cons_succ, i64_w, i32_w]
      rfl
     refine pure_ (i := 6) (N := some 43) (v := ?_) (a' := ?_) #[true, true, true, true, true, true, true, false, false, false, false, false, false, false, false, false, false, false, false, false, false, false, false, false, false, false, false] rfl rfl (by kernel_rfl) (fun _ _ _ h => h) (Or.inl ⟨by rfl, ?_⟩) ?_ ?_
     rotate_left
     ·intro w'
      go_simp
      with_reducible rfl
     rotate_left
     ·simp only [Act.put, List.setIfInBounds_toArray, List.set_cons_zero, List.set_cons_succ, i64_w, i32_w]
      rfl
     refine pure_ (i := 7) (N := some 44) (v := ?_) (a' := ?_) #[true, true, true, true, true, true, true, true, false, false, false, false, false, false, false, false, false, false, false, false, false, false, false, false, false, false, false] rfl rfl (by kernel_rfl) (fun _ _ _ h => h) (Or.inl ⟨by rfl, ?_⟩) ?_ ?_
     rotate_left
     ·intro w'
      go_simp
      with_reducible rfl
     rotate_left
     ·simp only [Act.put, List.setIfInBounds_toArray, List.set_cons_zero, List.set_cons_succ, i64_w, i32_w]
      rfl
     refine pure_ (i := 8) (N := some 45) (v := ?_) (a' := ?_) #[true, true, true, true, true, true, true, true, true, false, false, false, false, false, false, false, false, false, false, false, false, false, false, false, false, false, false] rfl rfl (by kernel_rfl) (fun _ _ _ h => h) (Or.inl ⟨by rfl, ?_⟩) ?_ ?_
     rotate_left
     ·intro w'
      go_simp
      with_reducible rfl
     rotate_left
     ·simp only [Act.put, List.setIfInBounds_toArray, List.set_cons_zero, List.set_cons_succ, i64_w, i32_w]
      rfl
     refine take_ (i := 9) (N := some 46) (v := ?_) (a' := ?_) #[true, true, true, true, true, true, true, true, true, true, false, false, false, false, false, false, false, false, false, false, false, false, false, false, false, false, false] rfl rfl (by kernel_rfl) (fun _ _ _ h => h) (Or.inl ⟨by rfl, ?_⟩) hHeld ?_ ?_
     rotate_left
     ·rintro w' ⟨s0, s1, s2, s3, s4, s5, s6, s7⟩
      go_simp
      with_reducible rfl
     rotate_left
     ·simp only [Act.put, List.setIfInBounds_toArray, List.set_cons_zero, List.set_cons_succ, i64_w, i32_w]
      rfl
     refine pure_ (i := 10) (N := some 47) (v := ?_) (a' := ?_) #[true, true, true, true, true, true, true, true, true, true, true, false, false, false, false, false, false, false, false, false, false, false, false, false, false, false, false] rfl rfl (by kernel_rfl) (fun _ _ _ h => h) (Or.inl ⟨by rfl, ?_⟩) ?_ ?_
     rotate_left
     ·intro w'
      go_simp
      with_reducible rfl
     rotate_left
     ·simp only [Act.put, List.setIfInBounds_toArray, List.set_cons_zero, List.set_cons_succ, i64_w, i32_w]
      rfl
     refine pure_ (i := 11) (N := some 48) (v := ?_) (a' := ?_) #[true, true, true, true, true, true, true, true, true, true, true, true, false, false, false, false, false, false, false, false, false, false, false, false, false, false, false] rfl rfl (by kernel_rfl) (fun _ _ _ h => h) (Or.inl ⟨by rfl, ?_⟩) ?_ ?_
     rotate_left
     ·intro w'
      go_simp
      with_reducible rfl
     rotate_left
     ·simp only [Act.put, List.setIfInBounds_toArray, List.set_cons_zero, List.set_cons_succ, i64_w, i32_w]
      rfl
     refine pure_ (i := 12) (N := some 49) (v := ?_) (a' := ?_) #[true, true, true, true, true, true, true, true, true, true, true, true, true, false, false, false, false, false, false, false, false, false, false, false, false, false, false] rfl rfl (by kernel_rfl) (fun _ _ _ h => h) (Or.inl ⟨by rfl, ?_⟩) ?_ ?_
     rotate_left
     ·intro w'
      go_simp
      with_reducible rfl
     rotate_left
     ·simp only [Act.put, List.setIfInBounds_toArray, List.set_cons_zero, List.set_cons_succ, i64_w, i32_w]
      rfl
     refine take_ (i := 13) (N := some 50) (v := ?_) (a' := ?_) #[true, true, true, true, true, true, true, true, true, true, true, true, true, true, false, false, false, false, false, false, false, false, false, false, false, false, false] rfl rfl (by kernel_rfl) (fun _ _ _ h => h) (Or.inl ⟨by rfl, ?_⟩) hHeld ?_ ?_
     rotate_left
     ·rintro w' ⟨s0, s1, s2, s3, s4, s5, s6, s7⟩
      go_simp
      with_reducible rfl
     rotate_left
     ·simp only [Act.put, List.setIfInBounds_toArray, List.set_cons_zero, List.set_cons_succ, i64_w, i32_w]
      rfl
     refine pure_ (i := 14) (N := some 51) (v := ?_) (a' := ?_) #[true, true, true, true, true, true, true, true, true, true, true, true, true, true, true, false, false, false, false, false, false, false, false, false, false, false, false] rfl rfl (by kernel_rfl) (fun _ _ _ h => h) (Or.inl ⟨by rfl, ?_⟩) ?_ ?_
     rotate_left
     ·intro w'
      go_simp
      with_reducible rfl
     rotate_left
     ·simp only [Act.put, List.setIfInBounds_toArray, List.set_cons_zero, List.set_cons_succ, i64_w, i32_w]
      rfl
     refine pure_ (i := 15) (N := some 52) (v := ?_) (a' := ?_) #[true, true, true, true, true, true, true, true, true, true, true, true, true, true, true, true, false, false, false, false, false, false, false, false, false, false, false] rfl rfl (by kernel_rfl) (fun _ _ _ h => h) (Or.inl ⟨by rfl, ?_⟩) ?_ ?_
     rotate_left
     ·intro w'
      go_simp
      with_reducible rfl
     rotate_left
     ·simp only [Act.put, List.setIfInBounds_toArray, List.set_cons_zero, List.set_cons_succ, i64_w, i32_w]
      rfl
     refine pure_ (i := 16) (N := some 53) (v := ?_) (a' := ?_) #[true, true, true, true, true, true, true, true, true, true, true, true, true, true, true, true, true, false, false, false, false, false, false, false, false, false, false] rfl rfl (by kernel_rfl) (fun _ _ _ h => h) (Or.inl ⟨by rfl, ?_⟩) ?_ ?_
     rotate_left
     ·intro w'
      go_simp
      with_reducible rfl
     rotate_left
     ·simp only [Act.put, List.setIfInBounds_toArray, List.set_cons_zero, List.set_cons_succ, i64_w, i32_w]
      rfl
     refine take_ (i := 17) (N := some 54) (v := ?_) (a' := ?_) #[true, true, true, true, true, true, true, true, true, true, true, true, true, true, true, true, true, true, false, false, false, false, false, false, false, false, false] rfl rfl (by kernel_rfl) (fun _ _ _ h => h) (Or.inl ⟨by rfl, ?_⟩) hHeld ?_ ?_
     rotate_left
     ·rintro w' ⟨s0, s1, s2, s3, s4, s5, s6, s7⟩
      go_simp
      with_reducible rfl
     rotate_left
     ·simp only [Act.put, List.setIfInBounds_toArray, List.set_cons_zero, List.set_cons_succ, i64_w, i32_w]
      rfl
     refine pure_ (i := 18) (N := some 55) (v := ?_) (a' := ?_) #[true, true, true, true, true, true, true, true, true, true, true, true, true, true, true, true, true, true, true, false, false, false, false, false, false, false, false] rfl rfl (by kernel_rfl) (fun _ _ _ h => h) (Or.inl ⟨by rfl, ?_⟩) ?_ ?_
     rotate_left
     ·intro w'
      go_simp
      with_reducible rfl
     rotate_left
     ·simp only [Act.put, List.setIfInBounds_toArray, List.set_cons_zero, List.set_cons_succ, i64_w, i32_w]
      rfl
     refine pure_ (i := 19) (N := some 56) (v := ?_) (a' := ?_) #[true, true, true, true, true, true, true, true, true, true, true, true, true, true, true, true, true, true, true, true, false, false, false, false, false, false, false] rfl rfl (by kernel_rfl) (fun _ _ _ h => h) (Or.inl ⟨by rfl, ?_⟩) ?_ ?_
     rotate_left
     ·intro w'
      go_simp
      with_reducible rfl
     rotate_left
     ·simp only [Act.put, List.setIfInBounds_toArray, List.set_cons_zero, List.set_cons_succ, i64_w, i32_w]
      rfl
     refine pure_ (i := 20) (N := some 57) (v := ?_) (a' := ?_) #[true, true, true, true, true, true, true, true, true, true, true, true, true, true, true, true, true, true, true, true, true, false, false, false, false, false, false] rfl rfl (by kernel_rfl) (fun _ _ _ h => h) (Or.inl ⟨by rfl, ?_⟩) ?_ ?_
     rotate_left
     ·intro w'
      go_simp
      with_reducible rfl
     rotate_left
     ·simp only [Act.put, List.setIfInBounds_toArray, List.set_cons_zero, List.set_cons_succ, i64_w, i32_w]
      rfl
     refine take_ (i := 21) (N := some 58) (v := ?_) (a' := ?_) #[true, true, true, true, true, true, true, true, true, true, true, true, true, true, true, true, true, true, true, true, true, true, false, false, false, false, false] rfl rfl (by kernel_rfl) (fun _ _ _ h => h) (Or.inl ⟨by rfl, ?_⟩) hHeld ?_ ?_
     rotate_left
     ·rintro w' ⟨s0, s1, s2, s3, s4, s5, s6, s7⟩
      go_simp
      with_reducible rfl
     rotate_left
     ·simp only [Act.put, List.setIfInBounds_toArray, List.set_cons_zero, List.set_cons_succ, i64_w, i32_w]
      rfl
     refine one_ (i := 22) (N := some 59) #[true, true, true, true, true, true, true, true, true, true, true, true, true, true, true, true, true, true, true, true, true, true, true, false, false, false, false] rfl rfl (by kernel_rfl) (by decide) (fun K hK => ?_)
     refine goes_ Tryz.func43 (by kernel_rfl) rfl #[.slice Ab m.f4.length cb] (by rfl) rfl rfl (by first | rfl | (simp [Act.eval]; done)) ?_
     refine (Clone_calls Ab cb m.f4 wq (by rw [← hwq]; exact Kd.C_drew HCB.out) (HZ.out m (List.mem_of_getElem? HM.out))).mono ?_
     rintro e w5 ⟨v5, rfl, hR5, hb5⟩
     obtain ⟨Av, cv, rfl, hlv, hCv⟩ := Kd.R_reads hR5
     refine ⟨_, rfl, ?_⟩
     refine hK.out _ _ ⟨fkeep hb5 hHeld.1, fkeep hb5 hHeld.2.1, fkeep hb5 hHeld.2.2.1, fkeep hb5 hHeld.2.2.2.1, fkeep hb5 hHeld.2.2.2.2.1, fkeep hb5 hHeld.2.2.2.2.2.1, fkeep hb5 hHeld.2.2.2.2.2.2.1, fkeep hb5 hHeld.2.2.2.2.2.2.2⟩ (fun hHeld2 => ?_)
     clear hK K
     have HR5 := Aside0.mk hR5
     have HB5 := Aside0.mk hb5
     have HLV := Aside0.mk hlv
     clear hR5 hCv hlv
     refine norm_ (a' := ?_) ?_ ?_
     rotate_left
     ·show Act.put _ (some 59) _ = _
      simp only [Act.put, List.setIfInBounds_toArray, List.set_cons_zero, List.set_cons_succ, i64_w, i32_w]
      rfl
     refine pure_ (i := 23) (N := some 60) (v := ?_) (a' := ?_) #[true, true, true, true, true, true, true, true, true, true, true, true, true, true, true, true, true, true, true, true, true, true, true, true, false, false, false] rfl rfl (by kernel_rfl) (fun _ _ _ h => h) (Or.inl ⟨by rfl, ?_⟩) ?_ ?_
     rotate_left
     ·intro w'
      go_simp
      with_reducible rfl
     rotate_left
     ·simp only [Act.put, List.setIfInBounds_toArray, List.set_cons_zero, List.set_cons_succ, i64_w, i32_w]
      rfl
     refine one_ (i := 24) (N := some 61) #[true, true, true, true, true, true, true, true, true, true, true, true, true, true, true, true, true, true, true, true, true, true, true, true, true, false, false] rfl rfl (by kernel_rfl) (by decide) (fun K hK => ?_)
     refine value_ (w1 := ?_) (v := ?_) (by rfl) rfl ?_ ?_
     rotate_left 2
     ·go_simp
      constructor
      ·rfl
      ·rfl
     refine hK.out _ _ ⟨fcell hHeld2.1 _, fcell hHeld2.2.1 _, fcell hHeld2.2.2.1 _, fcell hHeld2.2.2.2.1 _, fcell hHeld2.2.2.2.2.1 _, fcell hHeld2.2.2.2.2.2.1 _, fcell hHeld2.2.2.2.2.2.2.1 _, fcell hHeld2.2.2.2.2.2.2.2 _⟩ (fun hHeld3 => ?_)
     clear hK K
     refine norm_ (a' := ?_) ?_ ?_
     rotate_left
     ·show Act.put _ (some 61) _ = _
      simp only [Act.put, List.setIfInBounds_toArray, List.set_cons_zero, List.set_cons_succ, i64_w, i32_w]
      rfl
     refine one_ (i := 25) (N := some 62) #[true, true, true, true, true, true, true, true, true, true, true, true, true, true, true, true, true, true, true, true, true, true, true, true, true, true, false] rfl rfl (by kernel_rfl) (by decide) (fun K hK => ?_)
     refine Kd.N_append_step k49 (w0 := W) (W := w5) base (by rfl) (.tmp 37) (.tmp 61) 30 49 (.agg #[(.string ⟨#[]⟩), (.string ⟨#[]⟩), (.string ⟨#[]⟩), (.int .u8 0), (.int .i64 0), (.int .i64 0), (.int .i64 0), (.int .i64 0), (.slice none 0 0)]) 112 rfl Tryz.underlying30 infoNode rfl (by decide) (by decide) (.slice Ao out.length co) out (⟨q.1, m.f1, ldn, m.f2, m.f3, m.f4⟩ : Node) [.string q.1, .string m.f1, .string ldn, .int .u8 m.f2, .int .i64 m.f3.f0, .int .i64 m.f3.f1, .int .i64 m.f3.f2, .int .i64 m.f3.f3, .slice Av m.f4.length cv] (fun k => W.heap.size ≤ k) (fun k => wq.heap.size ≤ k ∧ k < w5.heap.size) (by rfl) rfl (k49_mkF w5 _ _ HLV.out (Kd.R_F (Kd.R_mono (Kd.R_bound HR5.out) (fun k hk => ⟨hk.2.1, hk.2.2.1⟩)))) (fun k hk => ⟨by have := hk.1; omega, fun e => by have := HOB.out k e.symm; have := hk.1; omega⟩) (fun k hk => by have := HB5.out.size; omega) (Kd.N_below HNQ.out HB5.out) (HBQ.out.trans (HB5.out.mono (by omega))) (by have := HB5.out.size; omega) (by rw [HOL.out]; omega) ?_
     intro v6 w6 hN6 hB6 hg6 hat6
     have HN6 := Aside0.mk hN6
     have HB6 := Aside0.mk hB6
     have HG6 := Aside0.mk hg6
     clear hN6 hB6 hat6
     refine hK.out _ _ ⟨rcell' hg6 (HNE.out _ HB5.out) hHeld2.1, rcell' hg6 (HNE.out _ HB5.out) hHeld2.2.1, rcell' hg6 (HNE.out _ HB5.out) hHeld2.2.2.1, rcell' hg6 (HNE.out _ HB5.out) hHeld2.2.2.2.1, rcell' hg6 (HNE.out _ HB5.out) hHeld2.2.2.2.2.1, rcell' hg6 (HNE.out _ HB5.out) hHeld2.2.2.2.2.2.1, rcell' hg6 (HNE.out _ HB5.out) hHeld2.2.2.2.2.2.2.1, rcell' hg6 (HNE.out _ HB5.out) hHeld2.2.2.2.2.2.2.2⟩ (fun hHeld4 => ?_)
     clear hK K hg6 hHeld hHeld2 hHeld3 hb5
     refine norm_ (a' := ?_) ?_ ?_
     rotate_left
     ·show Act.put _ (some 62) _ = _
      simp only [Act.put, List.setIfInBounds_toArray, List.set_cons_zero, List.set_cons_succ, i64_w, i32_w]
      rfl
     refine pure_ (i := 26) (N := some 3) (v := ?_) (a' := ?_) #[true, true, true, true, true, true, true, true, true, true, true, true, true, true, true, true, true, true, true, true, true, true, true, true, true, true, true] rfl rfl (by kernel_rfl) (fun _ _ _ h => h) (Or.inl ⟨by rfl, ?_⟩) ?_ ?_
     rotate_left
     ·intro w'
      go_simp
      with_reducible rfl
     rotate_left
     ·simp only [Act.put, List.setIfInBounds_toArray, List.set_cons_zero, List.set_cons_succ, i64_w, i32_w]
      rfl
     refine done_ (by kernel_rfl) ?_
     have hfin : NodRel l s base d B W (.slice (some ad) (sortP s).length cq) (n + 1) v6 w6 := by
      refine mid_next h0 hnl HOUT.out HMM.out ((drew_below hwq).trans (HB5.out.mono (by rw [← hwq]; exact Nat.le_refl _))) HG6.out hdlt hbase (by omega) ?_ HB6.out
      ·have e := HND.out
       rw [HTK.out, HLN.out] at e
       rw [HQE.out, e]
       exact HN6.out
     have HFIN := Aside0.mk hfin
     clear hfin HN6 HB6 HG6 HB5 HR5 HNQ HBQ hHeld4 j0 j1 j2 j3 j4 j5 j6 j7
     go_wp2_with (fail)
     go_roundw
     case rel => exact ⟨n + 1, by go_num, HFIN⟩
     case measure => simp [intOf]; omega
   ·have e48 : (m.f2 == 48) = false := beq_eq_false_iff_ne.2 h48
    obtain ⟨hmid, hwz⟩ := HMID.out wr (.inl ⟨rfl, fun h => absurd h h48⟩)
    have HMM := Aside0.mk hmid
    clear h48 hmid
    go_upto_region 8 with (fail)
    obtain ⟨_, vb, hbm, hRm⟩ := HMM.out.2.1 q.2 m HM.out H49.out
    obtain ⟨Ab, cb, rfl, hlb, hCb⟩ := Kd.R_reads hRm
    rw [HTK.out] at hbm
    generalize hldn : ldF m ((sortP s).take n.toNat ++ [q]) q.2 = ldn at hbm
    obtain ⟨j0, j1, j2, j3, j4, j5, j6, j7⟩ := thing_cells hbm
    have HCB := Aside0.mk hCb
    have HLB := Aside0.mk hlb
    have HLN := Aside0.mk hldn
    have HBM := Aside0.mk hbm
    have hwlt : W.heap.size ≤ wr.heap.size := HW.out
    clear hRm hCb hlb hldn hbm hk0 hk1 hk2 hk3 hk4 hk5 hk6 hk7
    refine start_ (n := 27) (S := fun w' => w'.cell? ⟨B q.2, 0, none⟩ = some (.int .u8 m.f2) ∧ w'.cell? ⟨B q.2, 1, none⟩ = some (.int .i64 m.f3.f0) ∧ w'.cell? ⟨B q.2, 2, none⟩ = some (.int .i64 m.f3.f1) ∧ w'.cell? ⟨B q.2, 3, none⟩ = some (.int .i64 m.f3.f2) ∧ w'.cell? ⟨B q.2, 4, none⟩ = some (.int .i64 m.f3.f3) ∧ w'.cell? ⟨B q.2, 5, none⟩ = some (.string m.f1) ∧ w'.cell? ⟨B q.2, 6, none⟩ = some (.slice Ab m.f4.length cb) ∧ w'.cell? ⟨B q.2, 7, none⟩ = some (.string ldn)) (ds := []) #[false, false, false, false, false, false, false, false, false, false, false, false, false, false, false, false, false, false, false, false, false, false, false, false, false, false, false] (by kernel_rfl) rfl rfl ⟨j0, j1, j2, j3, j4, j5, j6, j7⟩ (fun hHeld => ?_)
    generalize hwq : World.drew _ = wq at hHeld ⊢
    have hzq : wr.heap.size = wq.heap.size := by rw [← hwq]; exact hwz
    have HNQ : Aside0 (Kd.N k49 49 wq base (fun k => W.heap.size ≤ k) (.slice Ao out.length co) out) := ⟨by rw [← hwq]; exact Kd.N_drew HMM.out.2.2.1⟩
    have HBQ : Aside0 (Below base W wq) := ⟨by rw [← hwq]; exact below_drew HMM.out.2.2.2.2⟩
    have HOB := Aside0.mk (Kd.N_lt HNQ.out)
    have HNE : Aside0 (∀ w5 : World, Below wq.heap.size wq w5 → some (B q.2) ≠ (Value.slice Ao out.length co).ownBlock) := ⟨fun w5 hb => Kd.N_ne (cells := thingCells m (.slice Ab m.f4.length cb) ldn) (t := 80) HNQ.out (by rw [← hwq]; exact HBM.out) (by decide)⟩
    refine pure_ (i := 0) (N := some 37) (v := ?_) (a' := ?_) #[true, false, false, false, false, false, false, false, false, false, false, false, false, false, false, false, false, false, false, false, false, false, false, false, false, false, false] rfl rfl (by kernel_rfl) (fun _ _ _ h => h) (Or.inl ⟨by rfl, ?_⟩) ?_ ?_
    rotate_left
    ·intro w'
     go_simp
     with_reducible rfl
    rotate_left
    ·simp only [Act.put, List.setIfInBounds_toArray, List.set_cons_zero, List.set_cons_succ, i64_w, i32_w]
     rfl
    refine pure_ (i := 1) (N := some 38) (v := ?_) (a' := ?_) #[true, true, false, false, false, false, false, false, false, false, false, false, false, false, false, false, false, false, false, false, false, false, false, false, false, false, false] rfl rfl (by kernel_rfl) (fun _ _ _ h => h) (Or.inl ⟨by rfl, ?_⟩) ?_ ?_
    rotate_left
    ·intro w'
     go_simp
     with_reducible rfl
    rotate_left
    ·simp only [Act.put, List.setIfInBounds_toArray, List.set_cons_zero, List.set_cons_succ, i64_w, i32_w]
     rfl
    refine pure_ (i := 2) (N := some 39) (v := ?_) (a' := ?_) #[true, true, true, false, false, false, false, false, false, false, false, false, false, false, false, false, false, false, false, false, false, false, false, false, false, false, false] rfl rfl (by kernel_rfl) (fun _ _ _ h => h) (Or.inl ⟨by rfl, ?_⟩) ?_ ?_
    rotate_left
    ·intro w'
     go_simp
     with_reducible rfl
    rotate_left
    ·simp only [Act.put, List.setIfInBounds_toArray, List.set_cons_zero, List.set_cons_succ, i64_w, i32_w]
     rfl
    refine pure_ (i := 3) (N := some 40) (v := ?_) (a' := ?_) #[true, true, true, true, false, false, false, false, false, false, false, false, false, false, false, false, false, false, false, false, false, false, false, false, false, false, false] rfl rfl (by kernel_rfl) (fun _ _ _ h => h) (Or.inl ⟨by rfl, ?_⟩) ?_ ?_
    rotate_left
    ·intro w'
     go_simp
     with_reducible rfl
    rotate_left
    ·simp only [Act.put, List.setIfInBounds_toArray, List.set_cons_zero, List.set_cons_succ, i64_w, i32_w]
     rfl
    refine pure_ (i := 4) (N := some 41) (v := ?_) (a' := ?_) #[true, true, true, true, true, false, false, false, false, false, false, false, false, false, false, false, false, false, false, false, false, false, false, false, false, false, false] rfl rfl (by kernel_rfl) (fun _ _ _ h => h) (Or.inl ⟨by rfl, ?_⟩) ?_ ?_
    rotate_left
    ·intro w'
     go_simp
     with_reducible rfl
    rotate_left
    ·simp only [Act.put, List.setIfInBounds_toArray, List.set_cons_zero, List.set_cons_succ, i64_w, i32_w]
     rfl
    refine take_ (i := 5) (N := some 42) (v := ?_) (a' := ?_) #[true, true, true, true, true, true, false, false, false, false, false, false, false, false, false, false, false, false, false, false, false, false, false, false, false, false, false] rfl rfl (by kernel_rfl) (fun _ _ _ h => h) (Or.inl ⟨by rfl, ?_⟩) hHeld ?_ ?_
    rotate_left
    ·rintro w' ⟨s0, s1, s2, s3, s4, s5, s6, s7⟩
     go_simp
     with_reducible rfl
    rotate_left
    ·simp only [Act.put, List.setIfInBounds_toArray, List.set_cons_zero, List.set_cons_succ, i64_w, i32_w]
     rfl
    refine pure_ (i := 6) (N := some 43) (v := ?_) (a' := ?_) #[true, true, true, true, true, true, true, false, false, false, false, false, false, false, false, false, false, false, false, false, false, false, false, false, false, false, false] rfl rfl (by kernel_rfl) (fun _ _ _ h => h) (Or.inl ⟨by rfl, ?_⟩) ?_ ?_
    rotate_left
    ·intro w'
     go_simp
     with_reducible rfl
    rotate_left
    ·simp only [Act.put, List.setIfInBounds_toArray, List.set_cons_zero, List.set_cons_succ, i64_w, i32_w]
     rfl
    refine pure_ (i := 7) (N := some 44) (v := ?_) (a' := ?_) #[true, true, true, true, true, true, true, true, false, false, false, false, false, false, false, false, false, false, false, false, false, false, false, false, false, false, false] rfl rfl (by kernel_rfl) (fun _ _ _ h => h) (Or.inl ⟨by rfl, ?_⟩) ?_ ?_
    rotate_left
    ·intro w'
     go_simp
     with_reducible rfl
    rotate_left
    ·simp only [Act.put, List.setIfInBounds_toArray, List.set_cons_zero, List.set_cons_succ, i64_w, i32_w]
     rfl
    refine pure_ (i := 8) (N := some 45) (v := ?_) (a' := ?_) #[true, true, true, true, true, true, true, true, true, false, false, false, false, false, false, false, false, false, false, false, false, false, false, false, false, false, false] rfl rfl (by kernel_rfl) (fun _ _ _ h => h) (Or.inl ⟨by rfl, ?_⟩) ?_ ?_
    rotate_left
    ·intro w'
     go_simp
     with_reducible rfl
    rotate_left
    ·simp only [Act.put, List.setIfInBounds_toArray, List.set_cons_zero, List.set_cons_succ, i64_w, i32_w]
     rfl
    refine take_ (i := 9) (N := some 46) (v := ?_) (a' := ?_) #[true, true, true, true, true, true, true, true, true, true, false, false, false, false, false, false, false, false, false, false, false, false, false, false, false, false, false] rfl rfl (by kernel_rfl) (fun _ _ _ h => h) (Or.inl ⟨by rfl, ?_⟩) hHeld ?_ ?_
    rotate_left
    ·rintro w' ⟨s0, s1, s2, s3, s4, s5, s6, s7⟩
     go_simp
     with_reducible rfl
    rotate_left
    ·simp only [Act.put, List.setIfInBounds_toArray, List.set_cons_zero, List.set_cons_succ, i64_w, i32_w]
     rfl
    refine pure_ (i := 10) (N := some 47) (v := ?_) (a' := ?_) #[true, true, true, true, true, true, true, true, true, true, true, false, false, false, false, false, false, false, false, false, false, false, false, false, false, false, false] rfl rfl (by kernel_rfl) (fun _ _ _ h => h) (Or.inl ⟨by rfl, ?_⟩) ?_ ?_
    rotate_left
    ·intro w'
     go_simp
     with_reducible rfl
    rotate_left
    ·simp only [Act.put, List.setIfInBounds_toArray, List.set_cons_zero, List.set_cons_succ, i64_w, i32_w]
     rfl
    refine pure_ (i := 11) (N := some 48) (v := ?_) (a' := ?_) #[true, true, true, true, true, true, true, true, true, true, true, true, false, false, false, false, false, false, false, false, false, false, false, false, false, false, false] rfl rfl (by kernel_rfl) (fun _ _ _ h => h) (Or.inl ⟨by rfl, ?_⟩) ?_ ?_
    rotate_left
    ·intro w'
     go_simp
     with_reducible rfl
    rotate_left
    ·simp only [Act.put, List.setIfInBounds_toArray, List.set_cons_zero, List.set_cons_succ, i64_w, i32_w]
     rfl
    refine pure_ (i := 12) (N := some 49) (v := ?_) (a' := ?_) #[true, true, true, true, true, true, true, true, true, true, true, true, true, false, false, false, false, false, false, false, false, false, false, false, false, false, false] rfl rfl (by kernel_rfl) (fun _ _ _ h => h) (Or.inl ⟨by rfl, ?_⟩) ?_ ?_
    rotate_left
    ·intro w'
     go_simp
     with_reducible rfl
    rotate_left
    ·simp only [Act.put, List.setIfInBounds_toArray, List.set_cons_zero, List.set_cons_succ, i64_w, i32_w]
     rfl
    refine take_ (i := 13) (N := some 50) (v := ?_) (a' := ?_) #[true, true, true, true, true, true, true, true, true, true, true, true, true, true, false, false, false, false, false, false, false, false, false, false, false, false, false] rfl rfl (by kernel_rfl) (fun _ _ _ h => h) (Or.inl ⟨by rfl, ?_⟩) hHeld ?_ ?_
    rotate_left
    ·rintro w' ⟨s0, s1, s2, s3, s4, s5, s6, s7⟩
     go_simp
     with_reducible rfl
    rotate_left
    ·simp only [Act.put, List.setIfInBounds_toArray, List.set_cons_zero, List.set_cons_succ, i64_w, i32_w]
     rfl
    refine pure_ (i := 14) (N := some 51) (v := ?_) (a' := ?_) #[true, true, true, true, true, true, true, true, true, true, true, true, true, true, true, false, false, false, false, false, false, false, false, false, false, false, false] rfl rfl (by kernel_rfl) (fun _ _ _ h => h) (Or.inl ⟨by rfl, ?_⟩) ?_ ?_
    rotate_left
    ·intro w'
     go_simp
     with_reducible rfl
    rotate_left
    ·simp only [Act.put, List.setIfInBounds_toArray, List.set_cons_zero, List.set_cons_succ, i64_w, i32_w]
     rfl
    refine pure_ (i := 15) (N := some 52) (v := ?_) (a' := ?_) #[true, true, true, true, true, true, true, true, true, true, true, true, true, true, true, true, false, false, false, false, false, false, false, false, false, false, false] rfl rfl (by kernel_rfl) (fun _ _ _ h => h) (Or.inl ⟨by rfl, ?_⟩) ?_ ?_
    rotate_left
    ·intro w'
     go_simp
     with_reducible rfl
    rotate_left
    ·simp only [Act.put, List.setIfInBounds_toArray, List.set_cons_zero, List.set_cons_succ, i64_w, i32_w]
     rfl
    refine pure_ (i := 16) (N := some 53) (v := ?_) (a' := ?_) #[true, true, true, true, true, true, true, true, true, true, true, true, true, true, true, true, true, false, false, false, false, false, false, false, false, false, false] rfl rfl (by kernel_rfl) (fun _ _ _ h => h) (Or.inl ⟨by rfl, ?_⟩) ?_ ?_
    rotate_left
    ·intro w'
     go_simp
     with_reducible rfl
    rotate_left
    ·simp only [Act.put, List.setIfInBounds_toArray, List.set_cons_zero, List.set_cons_succ, i64_w, i32_w]
     rfl
    refine take_ (i := 17) (N := some 54) (v := ?_) (a' := ?_) #[true, true, true, true, true, true, true, true, true, true, true, true, true, true, true, true, true, true, false, false, false, false, false, false, false, false, false] rfl rfl (by kernel_rfl) (fun _ _ _ h => h) (Or.inl ⟨by rfl, ?_⟩) hHeld ?_ ?_
    rotate_left
    ·rintro w' ⟨s0, s1, s2, s3, s4, s5, s6, s7⟩
     go_simp
     with_reducible rfl
    rotate_left
    ·simp only [Act.put, List.setIfInBounds_toArray, List.set_cons_zero, List.set_cons_succ, i64_w, i32_w]
     rfl
    refine pure_ (i := 18) (N := some 55) (v := ?_) (a' := ?_) #[true, true, true, true, true, true, true, true, true, true, true, true, true, true, true, true, true, true, true, false, false, false, false, false, false, false, false] rfl rfl (by kernel_rfl) (fun _ _ _ h => h) (Or.inl ⟨by rfl, ?_⟩) ?_ ?_
    rotate_left
    ·intro w'
     go_simp
     with_reducible rfl
    rotate_left
    ·simp only [Act.put, List.setIfInBounds_toArray, List.set_cons_zero, List.set_cons_succ, i64_w, i32_w]
     rfl
    refine pure_ (i := 19) (N := some 56) (v := ?_) (a' := ?_) #[true, true, true, true, true, true, true, true, true, true, true, true, true, true, true, true, true, true, true, true, false, false, false, false, false, false, false] rfl rfl (by kernel_rfl) (fun _ _ _ h => h) (Or.inl ⟨by rfl, ?_⟩) ?_ ?_
    rotate_left
    ·intro w'
     go_simp
     with_reducible rfl
    rotate_left
    ·simp only [Act.put, List.setIfInBounds_toArray, List.set_cons_zero, List.set_cons_succ, i64_w, i32_w]
     rfl
    refine pure_ (i := 20) (N := some 57) (v := ?_) (a' := ?_) #[true, true, true, true, true, true, true, true, true, true, true, true, true, true, true, true, true, true, true, true, true, false, false, false, false, false, false] rfl rfl (by kernel_rfl) (fun _ _ _ h => h) (Or.inl ⟨by rfl, ?_⟩) ?_ ?_
    rotate_left
    ·intro w'
     go_simp
     with_reducible rfl
    rotate_left
    ·simp only [Act.put, List.setIfInBounds_toArray, List.set_cons_zero, List.set_cons_succ, i64_w, i32_w]
     rfl
    refine take_ (i := 21) (N := some 58) (v := ?_) (a' := ?_) #[true, true, true, true, true, true, true, true, true, true, true, true, true, true, true, true, true, true, true, true, true, true, false, false, false, false, false] rfl rfl (by kernel_rfl) (fun _ _ _ h => h) (Or.inl ⟨by rfl, ?_⟩) hHeld ?_ ?_
    rotate_left
    ·rintro w' ⟨s0, s1, s2, s3, s4, s5, s6, s7⟩
     go_simp
     with_reducible rfl
    rotate_left
    ·simp only [Act.put, List.setIfInBounds_toArray, List.set_cons_zero, List.set_cons_succ, i64_w, i32_w]
     rfl
    refine one_ (i := 22) (N := some 59) #[true, true, true, true, true, true, true, true, true, true, true, true, true, true, true, true, true, true, true, true, true, true, true, false, false, false, false] rfl rfl (by kernel_rfl) (by decide) (fun K hK => ?_)
    refine goes_ Tryz.func43 (by kernel_rfl) rfl #[.slice Ab m.f4.length cb] (by rfl) rfl rfl (by first | rfl | (simp [Act.eval]; done)) ?_
    refine (Clone_calls Ab cb m.f4 wq (by rw [← hwq]; exact Kd.C_drew HCB.out) (HZ.out m (List.mem_of_getElem? HM.out))).mono ?_
    rintro e w5 ⟨v5, rfl, hR5, hb5⟩
    obtain ⟨Av, cv, rfl, hlv, hCv⟩ := Kd.R_reads hR5
    refine ⟨_, rfl, ?_⟩
    refine hK.out _ _ ⟨fkeep hb5 hHeld.1, fkeep hb5 hHeld.2.1, fkeep hb5 hHeld.2.2.1, fkeep hb5 hHeld.2.2.2.1, fkeep hb5 hHeld.2.2.2.2.1, fkeep hb5 hHeld.2.2.2.2.2.1, fkeep hb5 hHeld.2.2.2.2.2.2.1, fkeep hb5 hHeld.2.2.2.2.2.2.2⟩ (fun hHeld2 => ?_)
    clear hK K
    have HR5 := Aside0.mk hR5
    have HB5 := Aside0.mk hb5
    have HLV := Aside0.mk hlv
    clear hR5 hCv hlv
    refine norm_ (a' := ?_) ?_ ?_
    rotate_left
    ·show Act.put _ (some 59) _ = _
     simp only [Act.put, List.setIfInBounds_toArray, List.set_cons_zero, List.set_cons_succ, i64_w, i32_w]
     rfl
    refine pure_ (i := 23) (N := some 60) (v := ?_) (a' := ?_) #[true, true, true, true, true, true, true, true, true, true, true, true, true, true, true, true, true, true, true, true, true, true, true, true, false, false, false] rfl rfl (by kernel_rfl) (fun _ _ _ h => h) (Or.inl ⟨by rfl, ?_⟩) ?_ ?_
    rotate_left
    ·intro w'
     go_simp
     with_reducible rfl
    rotate_left
    ·simp only [Act.put, List.setIfInBounds_toArray, List.set_cons_zero, List.set_cons_succ, i64_w, i32_w]
     rfl
    refine one_ (i := 24) (N := some 61) #[true, true, true, true, true, true, true, true, true, true, true, true, true, true, true, true, true, true, true, true, true, true, true, true, true, false, false] rfl rfl (by kernel_rfl) (by decide) (fun K hK => ?_)
    refine value_ (w1 := ?_) (v := ?_) (by rfl) rfl ?_ ?_
    rotate_left 2
    ·go_simp
     constructor
     ·rfl
     ·rfl
    refine hK.out _ _ ⟨fcell hHeld2.1 _, fcell hHeld2.2.1 _, fcell hHeld2.2.2.1 _, fcell hHeld2.2.2.2.1 _, fcell hHeld2.2.2.2.2.1 _, fcell hHeld2.2.2.2.2.2.1 _, fcell hHeld2.2.2.2.2.2.2.1 _, fcell hHeld2.2.2.2.2.2.2.2 _⟩ (fun hHeld3 => ?_)
    clear hK K
    refine norm_ (a' := ?_) ?_ ?_
    rotate_left
    ·show Act.put _ (some 61) _ = _
     simp only [Act.put, List.setIfInBounds_toArray, List.set_cons_zero, List.set_cons_succ, i64_w, i32_w]
     rfl
    refine one_ (i := 25) (N := some 62) #[true, true, true, true, true, true, true, true, true, true, true, true, true, true, true, true, true, true, true, true, true, true, true, true, true, true, false] rfl rfl (by kernel_rfl) (by decide) (fun K hK => ?_)
    refine Kd.N_append_step k49 (w0 := W) (W := w5) base (by rfl) (.tmp 37) (.tmp 61) 30 49 (.agg #[(.string ⟨#[]⟩), (.string ⟨#[]⟩), (.string ⟨#[]⟩), (.int .u8 0), (.int .i64 0), (.int .i64 0), (.int .i64 0), (.int .i64 0), (.slice none 0 0)]) 112 rfl Tryz.underlying30 infoNode rfl (by decide) (by decide) (.slice Ao out.length co) out (⟨q.1, m.f1, ldn, m.f2, m.f3, m.f4⟩ : Node) [.string q.1, .string m.f1, .string ldn, .int .u8 m.f2, .int .i64 m.f3.f0, .int .i64 m.f3.f1, .int .i64 m.f3.f2, .int .i64 m.f3.f3, .slice Av m.f4.length cv] (fun k => W.heap.size ≤ k) (fun k => wq.heap.size ≤ k ∧ k < w5.heap.size) (by rfl) rfl (k49_mkF w5 _ _ HLV.out (Kd.R_F (Kd.R_mono (Kd.R_bound HR5.out) (fun k hk => ⟨hk.2.1, hk.2.2.1⟩)))) (fun k hk => ⟨by have := hk.1; omega, fun e => by have := HOB.out k e.symm; have := hk.1; omega⟩) (fun k hk => by have := HB5.out.size; omega) (Kd.N_below HNQ.out HB5.out) (HBQ.out.trans (HB5.out.mono (by omega))) (by have := HB5.out.size; omega) (by rw [HOL.out]; omega) ?_
    intro v6 w6 hN6 hB6 hg6 hat6
    have HN6 := Aside0.mk hN6
    have HB6 := Aside0.mk hB6
    have HG6 := Aside0.mk hg6
    clear hN6 hB6 hat6
    refine hK.out _ _ ⟨rcell' hg6 (HNE.out _ HB5.out) hHeld2.1, rcell' hg6 (HNE.out _ HB5.out) hHeld2.2.1, rcell' hg6 (HNE.out _ HB5.out) hHeld2.2.2.1, rcell' hg6 (HNE.out _ HB5.out) hHeld2.2.2.2.1, rcell' hg6 (HNE.out _ HB5.out) hHeld2.2.2.2.2.1, rcell' hg6 (HNE.out _ HB5.out) hHeld2.2.2.2.2.2.1, rcell' hg6 (HNE.out _ HB5.out) hHeld2.2.2.2.2.2.2.1, rcell' hg6 (HNE.out _ HB5.out) hHeld2.2.2.2.2.2.2.2⟩ (fun hHeld4 => ?_)
    clear hK K hg6 hHeld hHeld2 hHeld3 hb5
    refine norm_ (a' := ?_) ?_ ?_
    rotate_left
    ·show Act.put _ (some 62) _ = _
     simp only [Act.put, List.setIfInBounds_toArray, List.set_cons_zero, List.set_cons_succ, i64_w, i32_w]
     rfl
    refine pure_ (i := 26) (N := some 3) (v := ?_) (a' := ?_) #[true, true, true, true, true, true, true, true, true, true, true, true, true, true, true, true, true, true, true, true, true, true, true, true, true, true, true] rfl rfl (by kernel_rfl) (fun _ _ _ h => h) (Or.inl ⟨by rfl, ?_⟩) ?_ ?_
    rotate_left
    ·intro w'
     go_simp
     with_reducible rfl
    rotate_left
    ·simp only [Act.put, List.setIfInBounds_toArray, List.set_cons_zero, List.set_cons_succ, i64_w, i32_w]
     rfl
    refine done_ (by kernel_rfl) ?_
    have hfin : NodRel l s base d B W (.slice (some ad) (sortP s).length cq) (n + 1) v6 w6 := by
     refine mid_next h0 hnl HOUT.out HMM.out ((drew_below hwq).trans (HB5.out.mono (by rw [← hwq]; exact Nat.le_refl _))) HG6.out hdlt hbase (by omega) ?_ HB6.out
     ·have e := HND.out
      rw [HTK.out, HLN.out] at e
      rw [HQE.out, e]
      exact HN6.out
    have HFIN := Aside0.mk hfin
    clear hfin HN6 HB6 HG6 HB5 HR5 HNQ HBQ hHeld4 j0 j1 j2 j3 j4 j5 j6 j7
    go_wp2_with (fail)
    go_roundw
    case rel => exact ⟨n + 1, by go_num, HFIN⟩
    case measure => simp [intOf]; omega
  ·have c1b : decide (n < ((sortP s).length : Int)) = false := decide_eq_false hlt
   go_wp2
   rw [← hQ.out]
   have hN := HNV.out
   rw [← HOUT.out, List.take_of_length_le (by omega)] at hN
   rw [← HOUT.out, List.take_of_length_le (by omega)]
   exact ⟨_, rfl, hN, HR.out.2.2.2.2.2.2⟩
end Go.Proofs.YtiijbmaamblidaaGreatDoor
