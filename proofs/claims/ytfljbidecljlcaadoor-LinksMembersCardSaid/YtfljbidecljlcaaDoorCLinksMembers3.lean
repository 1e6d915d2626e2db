/-
  Part of the proof that LinksMembers answers true: texts put together (wip/bundle.py).
-/
import Derived.Test.YtfljbidecljlcaaDoorCLinksMembers2
import Derived.Maps.OwnSet
import Derived.Maps.Ext
import Derived.StringKeys
import Derived.Below
import Derived.Deep.Draws
import Derived.RowKit
import Derived.WalkKit
import Derived.LoopTactic
import Derived.WalkSpells
namespace Go.Proofs.YtfljbidecljlcaaDoor.Print
open Go.RowKit Go.Proofs.YtfljbidecljlcaaDoorW.PrintWords Go.Proofs.YtfljbidecljlcaaDoorW.PrintLast Go.Proofs.YtfljbidecljlcaaDoorW.PrintMore
attribute [local go_sem] max2_int min2_int max_two min_two max_three min_three max_four min_four   -- for this text's walks alone
set_option linter.unusedVariables false
set_option linter.unusedSimpArgs false
mutual
def bindleref08_Good.j0 : Nat → Bool → ByteArray → ByteArray → Int → Int → Int → Int → Int → List Int → Option (Bool)
 | 0, _, _, _, _, _, _, _, _, _ => none
 | k + 1, x29, x225000, x225001, x225002, x225003, x225004, x225005, x225006, x225007 => if x29 = true then (some false) else (if x225002 = 48 then (bindleref08_Good.j1 k x225002 (x225002 == 48) x225000 x225001 x225002 x225003 x225004 x225005 x225006 x225007) else (bindleref08_Good.j1 k x225002 (x225002 == 53) x225000 x225001 x225002 x225003 x225004 x225005 x225006 x225007))
def bindleref08_Good.j1 : Nat → Int → Bool → ByteArray → ByteArray → Int → Int → Int → Int → Int → List Int → Option (Bool)
 | 0, _, _, _, _, _, _, _, _, _, _ => none
 | k + 1, x31, x32, x225000, x225001, x225002, x225003, x225004, x225005, x225006, x225007 => if x32 = true then (some (x225001.toList == ([] : List UInt8))) else (if x31 = 49 then ((bindleref08_clean.f k x225001).bind fun t227 => (some t227)) else (if x31 = 50 then ((bindleref08_Target.f k x225001).bind fun t228 => (some (t228 == 0))) else (some false)))
end
def bindleref08_Good.f (k : Nat) (a0_0 : ByteArray) (a0_1 : ByteArray) (a0_2 : Int) (a0_3 : Int) (a0_4 : Int) (a0_5 : Int) (a0_6 : Int) (l0_7 : List Int) : Option (Bool) := (bindleref08_clean.f k a0_0).bind fun t225 => (if t225 = true then ((bindleref08_Meta.f a0_3 a0_4 a0_5 a0_6).bind fun t226 => (if t226 = true then (if (l0_7.length : Int) > 1048576 then (bindleref08_Good.j0 k true a0_0 a0_1 a0_2 a0_3 a0_4 a0_5 a0_6 l0_7) else (if a0_2 = 48 then (bindleref08_Good.j0 k false a0_0 a0_1 a0_2 a0_3 a0_4 a0_5 a0_6 l0_7) else (bindleref08_Good.j0 k (decide ((l0_7.length : Int) > 0)) a0_0 a0_1 a0_2 a0_3 a0_4 a0_5 a0_6 l0_7))) else (bindleref08_Good.j0 k true a0_0 a0_1 a0_2 a0_3 a0_4 a0_5 a0_6 l0_7))) else (bindleref08_Good.j0 k true a0_0 a0_1 a0_2 a0_3 a0_4 a0_5 a0_6 l0_7))
set_option maxHeartbeats 8000000 in
set_option maxRecDepth 100000 in
theorem bindleref08_Good.calls (k : Nat) (a0_0 : ByteArray) (a0_1 : ByteArray) (a0_2 : Int) (a0_3 : Int) (a0_4 : Int) (a0_5 : Int) (a0_6 : Int) (A0_7 : Option Addr) (c0_7 : Nat) (l0_7 : List Int) (r : Bool) (w : World) (hr0_7 : Kd.C (Kd.int .u8) w A0_7 l0_7.length l0_7) (hc0_7 : l0_7.length ≤ c0_7) (h : bindleref08_Good.f k a0_0 a0_1 a0_2 a0_3 a0_4 a0_5 a0_6 l0_7 = some r) :
  Calls Tryd.prog 34 #[.agg #[.string a0_0, .string a0_1, .int .u8 a0_2, .int .i64 a0_3, .int .i64 a0_4, .int .i64 a0_5, .int .i64 a0_6, .slice A0_7 l0_7.length c0_7]] w fun e w' => e = .returned (.bool r) ∧ Below w.heap.size w w' := by
 have hu45 := Tryd.underlying45
 have hu38 := Tryd.underlying38
 have HR0_7 := A0_ hr0_7
 have HC0_7 := A0_ hc0_7
 clear hr0_7 hc0_7
 have HB := A0_ (Below.refl w.heap.size w)
 have H : ((bindleref08_clean.f k a0_0).bind fun t225 => (if t225 = true then ((bindleref08_Meta.f a0_3 a0_4 a0_5 a0_6).bind fun t226 => (if t226 = true then (if (l0_7.length : Int) > 1048576 then (bindleref08_Good.j0 k true a0_0 a0_1 a0_2 a0_3 a0_4 a0_5 a0_6 l0_7) else (if a0_2 = 48 then (bindleref08_Good.j0 k false a0_0 a0_1 a0_2 a0_3 a0_4 a0_5 a0_6 l0_7) else (bindleref08_Good.j0 k (decide ((l0_7.length : Int) > 0)) a0_0 a0_1 a0_2 a0_3 a0_4 a0_5 a0_6 l0_7))) else (bindleref08_Good.j0 k true a0_0 a0_1 a0_2 a0_3 a0_4 a0_5 a0_6 l0_7))) else (bindleref08_Good.j0 k true a0_0 a0_1 a0_2 a0_3 a0_4 a0_5 a0_6 l0_7))) = some r := h
 clear h
 have HC2 := A0_ H
 clear H
 go_enter Tryd.func34, Tryd.ntmps34
 go_upto_region 1 with (first | ((with_reducible refine gate_dst (N := 1) rfl ?_); (try (refine gate_guard (by rfl) ?_; dsimp only)); refine box_event ?hg (N := 1) ?hd (cs := #[.string a0_0, .string a0_1, .int .u8 a0_2, .int .i64 a0_3, .int .i64 a0_4, .int .i64 a0_5, .int .i64 a0_6, .slice A0_7 l0_7.length c0_7]) (t := 45) ?hr ?_; (case hd => rfl); (case hg => rfl); (case hr => first | (go_simp; done) | (go_simp; rfl)); intro gb224 hg w3 hbox hb; have n0_ := A0_ (below_step (wb_ HB.out) hb); have n1_ := A0_ (hbox); have n2_ := A0_ ((by rw [hg]; exact (below_size (wb_ HB.out)) : w.heap.size ≤ gb224)); have n3_ := A0_ ((by rw [hg]; exact (below_size (wb_ HB.out)) : w.heap.size ≤ gb224)); clear HB; have HB := n0_; have BK224 := n1_; have GW224 := n2_; have GE224 := n3_; clear n0_ n1_ n2_ n3_; clear hb hbox hg))
 (try simp only [Act.put, List.setIfInBounds_toArray, List.set_cons_zero, List.set_cons_succ])
 go_cut [29] (fun v29 wc => ∃ (kq : Nat) (x29_1 : Bool), v29 = .bool x29_1 ∧ Aside0 (bindleref08_Good.j0 kq x29_1 a0_0 a0_1 a0_2 a0_3 a0_4 a0_5 a0_6 l0_7 = some r) ∧ Aside0 (kq ≤ k) ∧ Aside0 (wc.heap[gb224]? = some (.cells #[.string a0_0, .string a0_1, .int .u8 a0_2, .int .i64 a0_3, .int .i64 a0_4, .int .i64 a0_5, .int .i64 a0_6, (.slice A0_7 l0_7.length c0_7)] 45 (0, 0))) ∧ Aside0 (Below w.heap.size w wc))
 case first =>
  have H := HC2.out
  clear HC2
  replace H := Option.bind_eq_some_iff.mp H
  obtain ⟨t225, A40, H⟩ := H
  replace H : (if t225 = true then ((bindleref08_Meta.f a0_3 a0_4 a0_5 a0_6).bind fun t226 => (if t226 = true then (if (l0_7.length : Int) > 1048576 then (bindleref08_Good.j0 k true a0_0 a0_1 a0_2 a0_3 a0_4 a0_5 a0_6 l0_7) else (if a0_2 = 48 then (bindleref08_Good.j0 k false a0_0 a0_1 a0_2 a0_3 a0_4 a0_5 a0_6 l0_7) else (bindleref08_Good.j0 k (decide ((l0_7.length : Int) > 0)) a0_0 a0_1 a0_2 a0_3 a0_4 a0_5 a0_6 l0_7))) else (bindleref08_Good.j0 k true a0_0 a0_1 a0_2 a0_3 a0_4 a0_5 a0_6 l0_7))) else (bindleref08_Good.j0 k true a0_0 a0_1 a0_2 a0_3 a0_4 a0_5 a0_6 l0_7)) = some r := H
  have A4 := A0_ A40
  clear A40
  by_cases c5 : t225 = true
  rotate_left
  ·replace c5 := Bool.eq_false_iff.mpr c5
   subst c5
   have H1 : (bindleref08_Good.j0 k true a0_0 a0_1 a0_2 a0_3 a0_4 a0_5 a0_6 l0_7) = some r := by rw [if_neg (show ¬ (false = true) by decide)] at H; exact H
   clear H
   have H := H1
   clear H1
   have H' := A0_ H
   clear H
   have hcz21_0 : w3.cell? ⟨gb224, 0, none⟩ = some (.string a0_0) := (bc_ BK224.out 0).trans rfl
   have hcz21_1 : w3.cell? ⟨gb224, 1, none⟩ = some (.string a0_1) := (bc_ BK224.out 1).trans rfl
   have hcz21_2 : w3.cell? ⟨gb224, 2, none⟩ = some (.int .u8 a0_2) := (bc_ BK224.out 2).trans rfl
   have hcz21_3 : w3.cell? ⟨gb224, 3, none⟩ = some (.int .i64 a0_3) := (bc_ BK224.out 3).trans rfl
   have hcz21_4 : w3.cell? ⟨gb224, 4, none⟩ = some (.int .i64 a0_4) := (bc_ BK224.out 4).trans rfl
   have hcz21_5 : w3.cell? ⟨gb224, 5, none⟩ = some (.int .i64 a0_5) := (bc_ BK224.out 5).trans rfl
   have hcz21_6 : w3.cell? ⟨gb224, 6, none⟩ = some (.int .i64 a0_6) := (bc_ BK224.out 6).trans rfl
   have hcz21_7 : w3.cell? ⟨gb224, 7, none⟩ = some (.slice A0_7 l0_7.length c0_7) := (bc_ BK224.out 7).trans rfl
   have hfz21_0 := bf_ BK224.out 0
   have hfz21_1 := bf_ BK224.out 1
   have hfz21_2 := bf_ BK224.out 2
   have hfz21_3 := bf_ BK224.out 3
   have hfz21_4 := bf_ BK224.out 4
   have hfz21_5 := bf_ BK224.out 5
   have hfz21_6 := bf_ BK224.out 6
   have hfz21_7 := bf_ BK224.out 7
   go_wp2_with (first | ((with_reducible refine gate_callee (f := 53) rfl ?_); refine goesL_ (some 5) rfl rfl Tryd.func53 (by kernel_rfl) rfl #[.string a0_0] rfl wm_ ?_; (with_reducible refine (bindleref08_clean.calls k a0_0 false _ A4.out).mono ?_); rintro e w' ⟨rfl, ⟨nd, rfl⟩⟩; refine ⟨_, rfl, ?_⟩))
   go_meet
   case rel => exact ⟨_, (true), wr_, H', ⟨by first | omega | exact Nat.le_refl _⟩, ⟨wB_ BK224.out⟩, ⟨wb1_ HB.out GE224.out⟩⟩
  subst c5
  have H1 : ((bindleref08_Meta.f a0_3 a0_4 a0_5 a0_6).bind fun t226 => (if t226 = true then (if (l0_7.length : Int) > 1048576 then (bindleref08_Good.j0 k true a0_0 a0_1 a0_2 a0_3 a0_4 a0_5 a0_6 l0_7) else (if a0_2 = 48 then (bindleref08_Good.j0 k false a0_0 a0_1 a0_2 a0_3 a0_4 a0_5 a0_6 l0_7) else (bindleref08_Good.j0 k (decide ((l0_7.length : Int) > 0)) a0_0 a0_1 a0_2 a0_3 a0_4 a0_5 a0_6 l0_7))) else (bindleref08_Good.j0 k true a0_0 a0_1 a0_2 a0_3 a0_4 a0_5 a0_6 l0_7))) = some r := by rw [if_pos rfl] at H; exact H
  clear H
  have H := H1
  clear H1
  replace H := Option.bind_eq_some_iff.mp H
  obtain ⟨t226, A60, H⟩ := H
  replace H : (if t226 = true then (if (l0_7.length : Int) > 1048576 then (bindleref08_Good.j0 k true a0_0 a0_1 a0_2 a0_3 a0_4 a0_5 a0_6 l0_7) else (if a0_2 = 48 then (bindleref08_Good.j0 k false a0_0 a0_1 a0_2 a0_3 a0_4 a0_5 a0_6 l0_7) else (bindleref08_Good.j0 k (decide ((l0_7.length : Int) > 0)) a0_0 a0_1 a0_2 a0_3 a0_4 a0_5 a0_6 l0_7))) else (bindleref08_Good.j0 k true a0_0 a0_1 a0_2 a0_3 a0_4 a0_5 a0_6 l0_7)) = some r := H
  have A6 := A0_ A60
  clear A60
  by_cases c7 : t226 = true
  rotate_left
  ·replace c7 := Bool.eq_false_iff.mpr c7
   subst c7
   have H1 : (bindleref08_Good.j0 k true a0_0 a0_1 a0_2 a0_3 a0_4 a0_5 a0_6 l0_7) = some r := by rw [if_neg (show ¬ (false = true) by decide)] at H; exact H
   clear H
   have H := H1
   clear H1
   have H' := A0_ H
   clear H
   have hcz19_0 : w3.cell? ⟨gb224, 0, none⟩ = some (.string a0_0) := (bc_ BK224.out 0).trans rfl
   have hcz19_1 : w3.cell? ⟨gb224, 1, none⟩ = some (.string a0_1) := (bc_ BK224.out 1).trans rfl
   have hcz19_2 : w3.cell? ⟨gb224, 2, none⟩ = some (.int .u8 a0_2) := (bc_ BK224.out 2).trans rfl
   have hcz19_3 : w3.cell? ⟨gb224, 3, none⟩ = some (.int .i64 a0_3) := (bc_ BK224.out 3).trans rfl
   have hcz19_4 : w3.cell? ⟨gb224, 4, none⟩ = some (.int .i64 a0_4) := (bc_ BK224.out 4).trans rfl
   have hcz19_5 : w3.cell? ⟨gb224, 5, none⟩ = some (.int .i64 a0_5) := (bc_ BK224.out 5).trans rfl
   have hcz19_6 : w3.cell? ⟨gb224, 6, none⟩ = some (.int .i64 a0_6) := (bc_ BK224.out 6).trans rfl
   have hcz19_7 : w3.cell? ⟨gb224, 7, none⟩ = some (.slice A0_7 l0_7.length c0_7) := (bc_ BK224.out 7).trans rfl
   have hfz19_0 := bf_ BK224.out 0
   have hfz19_1 := bf_ BK224.out 1
   have hfz19_2 := bf_ BK224.out 2
   have hfz19_3 := bf_ BK224.out 3
   have hfz19_4 := bf_ BK224.out 4
   have hfz19_5 := bf_ BK224.out 5
   have hfz19_6 := bf_ BK224.out 6
   have hfz19_7 := bf_ BK224.out 7
   go_wp2_with (first | ((with_reducible refine gate_callee (f := 53) rfl ?_); refine goesL_ (some 5) rfl rfl Tryd.func53 (by kernel_rfl) rfl #[.string a0_0] rfl wm_ ?_; (with_reducible refine (bindleref08_clean.calls k a0_0 true _ A4.out).mono ?_); rintro e w' ⟨rfl, ⟨nd, rfl⟩⟩; refine ⟨_, rfl, ?_⟩) | (go_at_call 54; (with_reducible refine (bindleref08_Meta.calls a0_3 a0_4 a0_5 a0_6 false _ A6.out).mono ?_); rintro e w20 ⟨rfl, hb⟩; have n0_ := A0_ (blk_below (g := gb224) (o := .cells #[.string a0_0, .string a0_1, .int .u8 a0_2, .int .i64 a0_3, .int .i64 a0_4, .int .i64 a0_5, .int .i64 a0_6, .slice A0_7 l0_7.length c0_7] 45 (0, 0)) (wB_ BK224.out) hb); have n1_ := A0_ (below_step (wb1_ HB.out GE224.out) hb); clear BK224; clear HB; have BK224 := n0_; have HB := n1_; clear n0_ n1_; (try clear hb); (try clear hb2); (try clear hk); (try clear hi)))
   go_meet
   case rel => exact ⟨_, (true), wr_, H', ⟨by first | omega | exact Nat.le_refl _⟩, ⟨wB_ BK224.out⟩, ⟨wb1_ HB.out GE224.out⟩⟩
  subst c7
  have H1 : (if (l0_7.length : Int) > 1048576 then (bindleref08_Good.j0 k true a0_0 a0_1 a0_2 a0_3 a0_4 a0_5 a0_6 l0_7) else (if a0_2 = 48 then (bindleref08_Good.j0 k false a0_0 a0_1 a0_2 a0_3 a0_4 a0_5 a0_6 l0_7) else (bindleref08_Good.j0 k (decide ((l0_7.length : Int) > 0)) a0_0 a0_1 a0_2 a0_3 a0_4 a0_5 a0_6 l0_7))) = some r := by rw [if_pos rfl] at H; exact H
  clear H
  have H := H1
  clear H1
  by_cases c8 : (l0_7.length : Int) > 1048576
  ·rw [if_pos c8] at H
   have c8b0 : decide (1048576 < (l0_7.length : Int)) = true := decide_eq_true c8
   have c8b1 : decide (1048576 < l0_7.length) = true := decide_eq_true (by omega)
   clear c8
   (first | rw [c8b0] | (simp only [i64_w, i32_w]; rw [c8b0]) | skip)
   have H' := A0_ H
   clear H
   have hcz9_0 : w3.cell? ⟨gb224, 0, none⟩ = some (.string a0_0) := (bc_ BK224.out 0).trans rfl
   have hcz9_1 : w3.cell? ⟨gb224, 1, none⟩ = some (.string a0_1) := (bc_ BK224.out 1).trans rfl
   have hcz9_2 : w3.cell? ⟨gb224, 2, none⟩ = some (.int .u8 a0_2) := (bc_ BK224.out 2).trans rfl
   have hcz9_3 : w3.cell? ⟨gb224, 3, none⟩ = some (.int .i64 a0_3) := (bc_ BK224.out 3).trans rfl
   have hcz9_4 : w3.cell? ⟨gb224, 4, none⟩ = some (.int .i64 a0_4) := (bc_ BK224.out 4).trans rfl
   have hcz9_5 : w3.cell? ⟨gb224, 5, none⟩ = some (.int .i64 a0_5) := (bc_ BK224.out 5).trans rfl
   have hcz9_6 : w3.cell? ⟨gb224, 6, none⟩ = some (.int .i64 a0_6) := (bc_ BK224.out 6).trans rfl
   have hcz9_7 : w3.cell? ⟨gb224, 7, none⟩ = some (.slice A0_7 l0_7.length c0_7) := (bc_ BK224.out 7).trans rfl
   have hfz9_0 := bf_ BK224.out 0
   have hfz9_1 := bf_ BK224.out 1
   have hfz9_2 := bf_ BK224.out 2
   have hfz9_3 := bf_ BK224.out 3
   have hfz9_4 := bf_ BK224.out 4
   have hfz9_5 := bf_ BK224.out 5
   have hfz9_6 := bf_ BK224.out 6
   have hfz9_7 := bf_ BK224.out 7
   go_wp2_with (first | ((with_reducible refine gate_callee (f := 53) rfl ?_); refine goesL_ (some 5) rfl rfl Tryd.func53 (by kernel_rfl) rfl #[.string a0_0] rfl wm_ ?_; (with_reducible refine (bindleref08_clean.calls k a0_0 true _ A4.out).mono ?_); rintro e w' ⟨rfl, ⟨nd, rfl⟩⟩; refine ⟨_, rfl, ?_⟩) | (go_at_call 54; (with_reducible refine (bindleref08_Meta.calls a0_3 a0_4 a0_5 a0_6 true _ A6.out).mono ?_); rintro e w10 ⟨rfl, hb⟩; have n0_ := A0_ (blk_below (g := gb224) (o := .cells #[.string a0_0, .string a0_1, .int .u8 a0_2, .int .i64 a0_3, .int .i64 a0_4, .int .i64 a0_5, .int .i64 a0_6, .slice A0_7 l0_7.length c0_7] 45 (0, 0)) (wB_ BK224.out) hb); have n1_ := A0_ (below_step (wb1_ HB.out GE224.out) hb); clear BK224; clear HB; have BK224 := n0_; have HB := n1_; clear n0_ n1_; (try clear hb); (try clear hb2); (try clear hk); (try clear hi); have hcz11_0 : w10.cell? ⟨gb224, 0, none⟩ = some (.string a0_0) := (bc_ BK224.out 0).trans rfl; have hcz11_1 : w10.cell? ⟨gb224, 1, none⟩ = some (.string a0_1) := (bc_ BK224.out 1).trans rfl; have hcz11_2 : w10.cell? ⟨gb224, 2, none⟩ = some (.int .u8 a0_2) := (bc_ BK224.out 2).trans rfl; have hcz11_3 : w10.cell? ⟨gb224, 3, none⟩ = some (.int .i64 a0_3) := (bc_ BK224.out 3).trans rfl; have hcz11_4 : w10.cell? ⟨gb224, 4, none⟩ = some (.int .i64 a0_4) := (bc_ BK224.out 4).trans rfl; have hcz11_5 : w10.cell? ⟨gb224, 5, none⟩ = some (.int .i64 a0_5) := (bc_ BK224.out 5).trans rfl; have hcz11_6 : w10.cell? ⟨gb224, 6, none⟩ = some (.int .i64 a0_6) := (bc_ BK224.out 6).trans rfl; have hcz11_7 : w10.cell? ⟨gb224, 7, none⟩ = some (.slice A0_7 l0_7.length c0_7) := (bc_ BK224.out 7).trans rfl; have hfz11_0 := bf_ BK224.out 0; have hfz11_1 := bf_ BK224.out 1; have hfz11_2 := bf_ BK224.out 2; have hfz11_3 := bf_ BK224.out 3; have hfz11_4 := bf_ BK224.out 4; have hfz11_5 := bf_ BK224.out 5; have hfz11_6 := bf_ BK224.out 6; have hfz11_7 := bf_ BK224.out 7))
   go_meet
   case rel => exact ⟨_, (true), wr_, H', ⟨by first | omega | exact Nat.le_refl _⟩, ⟨wB_ BK224.out⟩, ⟨wb1_ HB.out GE224.out⟩⟩
  rw [if_neg c8] at H
  have c8b0 : decide (1048576 < (l0_7.length : Int)) = false := decide_eq_false c8
  have c8b1 : decide (1048576 < l0_7.length) = false := decide_eq_false (by omega)
  clear c8
  (first | rw [c8b0] | (simp only [i64_w, i32_w]; rw [c8b0]) | skip)
  by_cases c12 : a0_2 = 48
  ·rw [if_pos c12] at H
   have c12b0 : (a0_2 == 48) = true := beq_iff_eq.mpr c12
   have c12b1 : (a0_2 != 48) = false := bne_eq_false_iff_eq.mpr c12
   clear c12
   have H' := A0_ H
   clear H
   have hcz13_0 : w3.cell? ⟨gb224, 0, none⟩ = some (.string a0_0) := (bc_ BK224.out 0).trans rfl
   have hcz13_1 : w3.cell? ⟨gb224, 1, none⟩ = some (.string a0_1) := (bc_ BK224.out 1).trans rfl
   have hcz13_2 : w3.cell? ⟨gb224, 2, none⟩ = some (.int .u8 a0_2) := (bc_ BK224.out 2).trans rfl
   have hcz13_3 : w3.cell? ⟨gb224, 3, none⟩ = some (.int .i64 a0_3) := (bc_ BK224.out 3).trans rfl
   have hcz13_4 : w3.cell? ⟨gb224, 4, none⟩ = some (.int .i64 a0_4) := (bc_ BK224.out 4).trans rfl
   have hcz13_5 : w3.cell? ⟨gb224, 5, none⟩ = some (.int .i64 a0_5) := (bc_ BK224.out 5).trans rfl
   have hcz13_6 : w3.cell? ⟨gb224, 6, none⟩ = some (.int .i64 a0_6) := (bc_ BK224.out 6).trans rfl
   have hcz13_7 : w3.cell? ⟨gb224, 7, none⟩ = some (.slice A0_7 l0_7.length c0_7) := (bc_ BK224.out 7).trans rfl
   have hfz13_0 := bf_ BK224.out 0
   have hfz13_1 := bf_ BK224.out 1
   have hfz13_2 := bf_ BK224.out 2
   have hfz13_3 := bf_ BK224.out 3
   have hfz13_4 := bf_ BK224.out 4
   have hfz13_5 := bf_ BK224.out 5
   have hfz13_6 := bf_ BK224.out 6
   have hfz13_7 := bf_ BK224.out 7
   go_wp2_with (first | ((with_reducible refine gate_callee (f := 53) rfl ?_); refine goesL_ (some 5) rfl rfl Tryd.func53 (by kernel_rfl) rfl #[.string a0_0] rfl wm_ ?_; (with_reducible refine (bindleref08_clean.calls k a0_0 true _ A4.out).mono ?_); rintro e w' ⟨rfl, ⟨nd, rfl⟩⟩; refine ⟨_, rfl, ?_⟩) | (go_at_call 54; (with_reducible refine (bindleref08_Meta.calls a0_3 a0_4 a0_5 a0_6 true _ A6.out).mono ?_); rintro e w14 ⟨rfl, hb⟩; have n0_ := A0_ (blk_below (g := gb224) (o := .cells #[.string a0_0, .string a0_1, .int .u8 a0_2, .int .i64 a0_3, .int .i64 a0_4, .int .i64 a0_5, .int .i64 a0_6, .slice A0_7 l0_7.length c0_7] 45 (0, 0)) (wB_ BK224.out) hb); have n1_ := A0_ (below_step (wb1_ HB.out GE224.out) hb); clear BK224; clear HB; have BK224 := n0_; have HB := n1_; clear n0_ n1_; (try clear hb); (try clear hb2); (try clear hk); (try clear hi); have hcz15_0 : w14.cell? ⟨gb224, 0, none⟩ = some (.string a0_0) := (bc_ BK224.out 0).trans rfl; have hcz15_1 : w14.cell? ⟨gb224, 1, none⟩ = some (.string a0_1) := (bc_ BK224.out 1).trans rfl; have hcz15_2 : w14.cell? ⟨gb224, 2, none⟩ = some (.int .u8 a0_2) := (bc_ BK224.out 2).trans rfl; have hcz15_3 : w14.cell? ⟨gb224, 3, none⟩ = some (.int .i64 a0_3) := (bc_ BK224.out 3).trans rfl; have hcz15_4 : w14.cell? ⟨gb224, 4, none⟩ = some (.int .i64 a0_4) := (bc_ BK224.out 4).trans rfl; have hcz15_5 : w14.cell? ⟨gb224, 5, none⟩ = some (.int .i64 a0_5) := (bc_ BK224.out 5).trans rfl; have hcz15_6 : w14.cell? ⟨gb224, 6, none⟩ = some (.int .i64 a0_6) := (bc_ BK224.out 6).trans rfl; have hcz15_7 : w14.cell? ⟨gb224, 7, none⟩ = some (.slice A0_7 l0_7.length c0_7) := (bc_ BK224.out 7).trans rfl; have hfz15_0 := bf_ BK224.out 0; have hfz15_1 := bf_ BK224.out 1; have hfz15_2 := bf_ BK224.out 2; have hfz15_3 := bf_ BK224.out 3; have hfz15_4 := bf_ BK224.out 4; have hfz15_5 := bf_ BK224.out 5; have hfz15_6 := bf_ BK224.out 6; have hfz15_7 := bf_ BK224.out 7))
   go_meet
   case rel => exact ⟨_, (false), wr_, H', ⟨by first | omega | exact Nat.le_refl _⟩, ⟨wB_ BK224.out⟩, ⟨wb1_ HB.out GE224.out⟩⟩
  rw [if_neg c12] at H
  have c12b0 : (a0_2 == 48) = false := beq_eq_false_iff_ne.mpr c12
  have c12b1 : (a0_2 != 48) = true := bne_iff_ne.mpr c12
  have H' := A0_ H
  clear H
  have hcz16_0 : w3.cell? ⟨gb224, 0, none⟩ = some (.string a0_0) := (bc_ BK224.out 0).trans rfl
  have hcz16_1 : w3.cell? ⟨gb224, 1, none⟩ = some (.string a0_1) := (bc_ BK224.out 1).trans rfl
  have hcz16_2 : w3.cell? ⟨gb224, 2, none⟩ = some (.int .u8 a0_2) := (bc_ BK224.out 2).trans rfl
  have hcz16_3 : w3.cell? ⟨gb224, 3, none⟩ = some (.int .i64 a0_3) := (bc_ BK224.out 3).trans rfl
  have hcz16_4 : w3.cell? ⟨gb224, 4, none⟩ = some (.int .i64 a0_4) := (bc_ BK224.out 4).trans rfl
  have hcz16_5 : w3.cell? ⟨gb224, 5, none⟩ = some (.int .i64 a0_5) := (bc_ BK224.out 5).trans rfl
  have hcz16_6 : w3.cell? ⟨gb224, 6, none⟩ = some (.int .i64 a0_6) := (bc_ BK224.out 6).trans rfl
  have hcz16_7 : w3.cell? ⟨gb224, 7, none⟩ = some (.slice A0_7 l0_7.length c0_7) := (bc_ BK224.out 7).trans rfl
  have hfz16_0 := bf_ BK224.out 0
  have hfz16_1 := bf_ BK224.out 1
  have hfz16_2 := bf_ BK224.out 2
  have hfz16_3 := bf_ BK224.out 3
  have hfz16_4 := bf_ BK224.out 4
  have hfz16_5 := bf_ BK224.out 5
  have hfz16_6 := bf_ BK224.out 6
  have hfz16_7 := bf_ BK224.out 7
  go_wp2_with (first | ((with_reducible refine gate_callee (f := 53) rfl ?_); refine goesL_ (some 5) rfl rfl Tryd.func53 (by kernel_rfl) rfl #[.string a0_0] rfl wm_ ?_; (with_reducible refine (bindleref08_clean.calls k a0_0 true _ A4.out).mono ?_); rintro e w' ⟨rfl, ⟨nd, rfl⟩⟩; refine ⟨_, rfl, ?_⟩) | (go_at_call 54; (with_reducible refine (bindleref08_Meta.calls a0_3 a0_4 a0_5 a0_6 true _ A6.out).mono ?_); rintro e w17 ⟨rfl, hb⟩; have n0_ := A0_ (blk_below (g := gb224) (o := .cells #[.string a0_0, .string a0_1, .int .u8 a0_2, .int .i64 a0_3, .int .i64 a0_4, .int .i64 a0_5, .int .i64 a0_6, .slice A0_7 l0_7.length c0_7] 45 (0, 0)) (wB_ BK224.out) hb); have n1_ := A0_ (below_step (wb1_ HB.out GE224.out) hb); clear BK224; clear HB; have BK224 := n0_; have HB := n1_; clear n0_ n1_; (try clear hb); (try clear hb2); (try clear hk); (try clear hi); have hcz18_0 : w17.cell? ⟨gb224, 0, none⟩ = some (.string a0_0) := (bc_ BK224.out 0).trans rfl; have hcz18_1 : w17.cell? ⟨gb224, 1, none⟩ = some (.string a0_1) := (bc_ BK224.out 1).trans rfl; have hcz18_2 : w17.cell? ⟨gb224, 2, none⟩ = some (.int .u8 a0_2) := (bc_ BK224.out 2).trans rfl; have hcz18_3 : w17.cell? ⟨gb224, 3, none⟩ = some (.int .i64 a0_3) := (bc_ BK224.out 3).trans rfl; have hcz18_4 : w17.cell? ⟨gb224, 4, none⟩ = some (.int .i64 a0_4) := (bc_ BK224.out 4).trans rfl; have hcz18_5 : w17.cell? ⟨gb224, 5, none⟩ = some (.int .i64 a0_5) := (bc_ BK224.out 5).trans rfl; have hcz18_6 : w17.cell? ⟨gb224, 6, none⟩ = some (.int .i64 a0_6) := (bc_ BK224.out 6).trans rfl; have hcz18_7 : w17.cell? ⟨gb224, 7, none⟩ = some (.slice A0_7 l0_7.length c0_7) := (bc_ BK224.out 7).trans rfl; have hfz18_0 := bf_ BK224.out 0; have hfz18_1 := bf_ BK224.out 1; have hfz18_2 := bf_ BK224.out 2; have hfz18_3 := bf_ BK224.out 3; have hfz18_4 := bf_ BK224.out 4; have hfz18_5 := bf_ BK224.out 5; have hfz18_6 := bf_ BK224.out 6; have hfz18_7 := bf_ BK224.out 7))
  go_meet
  case rel => exact ⟨_, (decide ((l0_7.length : Int) > 0)), wr_, H', ⟨by first | omega | exact Nat.le_refl _⟩, ⟨wB_ BK224.out⟩, ⟨wb1_ HB.out GE224.out⟩⟩
 case rest =>
  clear HC2
  try clear c1
  try clear p2
  try clear c3
  try clear c5
  try clear c7
  try clear c8
  try clear c8b0
  try clear c8b1
  try clear c12
  try clear c12b0
  try clear c12b1
  try clear hcz11_0
  try clear hcz11_1
  try clear hcz11_2
  try clear hcz11_3
  try clear hcz11_4
  try clear hcz11_5
  try clear hcz11_6
  try clear hcz11_7
  try clear hcz13_0
  try clear hcz13_1
  try clear hcz13_2
  try clear hcz13_3
  try clear hcz13_4
  try clear hcz13_5
  try clear hcz13_6
  try clear hcz13_7
  try clear hcz15_0
  try clear hcz15_1
  try clear hcz15_2
  try clear hcz15_3
  try clear hcz15_4
  try clear hcz15_5
  try clear hcz15_6
  try clear hcz15_7
  try clear hcz16_0
  try clear hcz16_1
  try clear hcz16_2
  try clear hcz16_3
  try clear hcz16_4
  try clear hcz16_5
  try clear hcz16_6
  try clear hcz16_7
  try clear hcz18_0
  try clear hcz18_1
  try clear hcz18_2
  try clear hcz18_3
  try clear hcz18_4
  try clear hcz18_5
  try clear hcz18_6
  try clear hcz18_7
  try clear hcz19_0
  try clear hcz19_1
  try clear hcz19_2
  try clear hcz19_3
  try clear hcz19_4
  try clear hcz19_5
  try clear hcz19_6
  try clear hcz19_7
  try clear hcz21_0
  try clear hcz21_1
  try clear hcz21_2
  try clear hcz21_3
  try clear hcz21_4
  try clear hcz21_5
  try clear hcz21_6
  try clear hcz21_7
  try clear hcz9_0
  try clear hcz9_1
  try clear hcz9_2
  try clear hcz9_3
  try clear hcz9_4
  try clear hcz9_5
  try clear hcz9_6
  try clear hcz9_7
  try clear hfz11_0
  try clear hfz11_1
  try clear hfz11_2
  try clear hfz11_3
  try clear hfz11_4
  try clear hfz11_5
  try clear hfz11_6
  try clear hfz11_7
  try clear hfz13_0
  try clear hfz13_1
  try clear hfz13_2
  try clear hfz13_3
  try clear hfz13_4
  try clear hfz13_5
  try clear hfz13_6
  try clear hfz13_7
  try clear hfz15_0
  try clear hfz15_1
  try clear hfz15_2
  try clear hfz15_3
  try clear hfz15_4
  try clear hfz15_5
  try clear hfz15_6
  try clear hfz15_7
  try clear hfz16_0
  try clear hfz16_1
  try clear hfz16_2
  try clear hfz16_3
  try clear hfz16_4
  try clear hfz16_5
  try clear hfz16_6
  try clear hfz16_7
  try clear hfz18_0
  try clear hfz18_1
  try clear hfz18_2
  try clear hfz18_3
  try clear hfz18_4
  try clear hfz18_5
  try clear hfz18_6
  try clear hfz18_7
  try clear hfz19_0
  try clear hfz19_1
  try clear hfz19_2
  try clear hfz19_3
  try clear hfz19_4
  try clear hfz19_5
  try clear hfz19_6
  try clear hfz19_7
  try clear hfz21_0
  try clear hfz21_1
  try clear hfz21_2
  try clear hfz21_3
  try clear hfz21_4
  try clear hfz21_5
  try clear hfz21_6
  try clear hfz21_7
  try clear hfz9_0
  try clear hfz9_1
  try clear hfz9_2
  try clear hfz9_3
  try clear hfz9_4
  try clear hfz9_5
  try clear hfz9_6
  try clear hfz9_7
  obtain ⟨kq, x29_1, rfl, HA, HJ1, BK224, HB⟩ := hcut
  cases kq with
  | zero => exact absurd HA.out (by simp [bindleref08_Good.j0])
  | succ kj1 =>
   have H := HA.out
   clear HA
   simp only [bindleref08_Good.j0] at H
   by_cases c22 : x29_1 = true
   ·subst c22
    have H1 : (some false) = some r := by rw [if_pos rfl] at H; exact H
    clear H
    have H := H1
    clear H1
    obtain rfl := Option.some.inj H
    go_wp2
    go_ret
    exact ⟨we_, wb1_ HB.out GE224.out⟩
   replace c22 := Bool.eq_false_iff.mpr c22
   subst c22
   have H1 : (if a0_2 = 48 then (bindleref08_Good.j1 kj1 a0_2 (a0_2 == 48) a0_0 a0_1 a0_2 a0_3 a0_4 a0_5 a0_6 l0_7) else (bindleref08_Good.j1 kj1 a0_2 (a0_2 == 53) a0_0 a0_1 a0_2 a0_3 a0_4 a0_5 a0_6 l0_7)) = some r := by rw [if_neg (show ¬ (false = true) by decide)] at H; exact H
   clear H
   have H := H1
   clear H1
   have HC23 := A0_ H
   clear H
   have hcz24_0 : wc.cell? ⟨gb224, 0, none⟩ = some (.string a0_0) := (bc_ BK224.out 0).trans rfl
   have hcz24_1 : wc.cell? ⟨gb224, 1, none⟩ = some (.string a0_1) := (bc_ BK224.out 1).trans rfl
   have hcz24_2 : wc.cell? ⟨gb224, 2, none⟩ = some (.int .u8 a0_2) := (bc_ BK224.out 2).trans rfl
   have hcz24_3 : wc.cell? ⟨gb224, 3, none⟩ = some (.int .i64 a0_3) := (bc_ BK224.out 3).trans rfl
   have hcz24_4 : wc.cell? ⟨gb224, 4, none⟩ = some (.int .i64 a0_4) := (bc_ BK224.out 4).trans rfl
   have hcz24_5 : wc.cell? ⟨gb224, 5, none⟩ = some (.int .i64 a0_5) := (bc_ BK224.out 5).trans rfl
   have hcz24_6 : wc.cell? ⟨gb224, 6, none⟩ = some (.int .i64 a0_6) := (bc_ BK224.out 6).trans rfl
   have hcz24_7 : wc.cell? ⟨gb224, 7, none⟩ = some (.slice A0_7 l0_7.length c0_7) := (bc_ BK224.out 7).trans rfl
   have hfz24_0 := bf_ BK224.out 0
   have hfz24_1 := bf_ BK224.out 1
   have hfz24_2 := bf_ BK224.out 2
   have hfz24_3 := bf_ BK224.out 3
   have hfz24_4 := bf_ BK224.out 4
   have hfz24_5 := bf_ BK224.out 5
   have hfz24_6 := bf_ BK224.out 6
   have hfz24_7 := bf_ BK224.out 7
   go_upto_if 32 with (fail)
   go_cut [32] (fun v32 wc => ∃ (kq : Nat) (x32_22 : Bool), v32 = .bool x32_22 ∧ Aside0 (bindleref08_Good.j1 kq a0_2 x32_22 a0_0 a0_1 a0_2 a0_3 a0_4 a0_5 a0_6 l0_7 = some r) ∧ Aside0 (kq ≤ kj1) ∧ Aside0 (wc.heap[gb224]? = some (.cells #[.string a0_0, .string a0_1, .int .u8 a0_2, .int .i64 a0_3, .int .i64 a0_4, .int .i64 a0_5, .int .i64 a0_6, (.slice A0_7 l0_7.length c0_7)] 45 (0, 0))) ∧ Aside0 (Below w.heap.size w wc))
   case first =>
    have H := HC23.out
    clear HC23
    by_cases c25 : a0_2 = 48
    rotate_left
    ·rw [if_neg c25] at H
     have c25b0 : (a0_2 == 48) = false := beq_eq_false_iff_ne.mpr c25
     have c25b1 : (a0_2 != 48) = true := bne_iff_ne.mpr c25
     (first | rw [c25b0] | (simp only [i64_w, i32_w]; rw [c25b0]) | skip)
     have H' := A0_ H
     clear H
     go_wp2
     go_meet
     case rel => exact ⟨_, ((a0_2 == 53)), wr_, H', ⟨by have := HJ1.out; first | omega | exact Nat.le_refl _⟩, ⟨wB_ BK224.out⟩, ⟨wb1_ HB.out GE224.out⟩⟩
    rw [if_pos c25] at H
    have c25b0 : (a0_2 == 48) = true := beq_iff_eq.mpr c25
    have c25b1 : (a0_2 != 48) = false := bne_eq_false_iff_eq.mpr c25
    clear c25
    (first | rw [c25b0] | (simp only [i64_w, i32_w]; rw [c25b0]) | skip)
    have H' := A0_ H
    clear H
    go_wp2
    go_meet
    case rel => exact ⟨_, ((a0_2 == 48)), wr_, H', ⟨by have := HJ1.out; first | omega | exact Nat.le_refl _⟩, ⟨wB_ BK224.out⟩, ⟨wb1_ HB.out GE224.out⟩⟩
   case rest =>
    clear HC23
    try clear c1
    try clear c2
    try clear p2
    try clear c3
    try clear c5
    try clear c7
    try clear c8
    try clear c8b0
    try clear c8b1
    try clear c12
    try clear c12b0
    try clear c12b1
    try clear c22
    try clear c25
    try clear c25b0
    try clear c25b1
    try clear hcz11_0
    try clear hcz11_1
    try clear hcz11_2
    try clear hcz11_3
    try clear hcz11_4
    try clear hcz11_5
    try clear hcz11_6
    try clear hcz11_7
    try clear hcz13_0
    try clear hcz13_1
    try clear hcz13_2
    try clear hcz13_3
    try clear hcz13_4
    try clear hcz13_5
    try clear hcz13_6
    try clear hcz13_7
    try clear hcz15_0
    try clear hcz15_1
    try clear hcz15_2
    try clear hcz15_3
    try clear hcz15_4
    try clear hcz15_5
    try clear hcz15_6
    try clear hcz15_7
    try clear hcz16_0
    try clear hcz16_1
    try clear hcz16_2
    try clear hcz16_3
    try clear hcz16_4
    try clear hcz16_5
    try clear hcz16_6
    try clear hcz16_7
    try clear hcz18_0
    try clear hcz18_1
    try clear hcz18_2
    try clear hcz18_3
    try clear hcz18_4
    try clear hcz18_5
    try clear hcz18_6
    try clear hcz18_7
    try clear hcz19_0
    try clear hcz19_1
    try clear hcz19_2
    try clear hcz19_3
    try clear hcz19_4
    try clear hcz19_5
    try clear hcz19_6
    try clear hcz19_7
    try clear hcz21_0
    try clear hcz21_1
    try clear hcz21_2
    try clear hcz21_3
    try clear hcz21_4
    try clear hcz21_5
    try clear hcz21_6
    try clear hcz21_7
    try clear hcz24_0
    try clear hcz24_1
    try clear hcz24_2
    try clear hcz24_3
    try clear hcz24_4
    try clear hcz24_5
    try clear hcz24_6
    try clear hcz24_7
    try clear hcz9_0
    try clear hcz9_1
    try clear hcz9_2
    try clear hcz9_3
    try clear hcz9_4
    try clear hcz9_5
    try clear hcz9_6
    try clear hcz9_7
    try clear hfz11_0
    try clear hfz11_1
    try clear hfz11_2
    try clear hfz11_3
    try clear hfz11_4
    try clear hfz11_5
    try clear hfz11_6
    try clear hfz11_7
    try clear hfz13_0
    try clear hfz13_1
    try clear hfz13_2
    try clear hfz13_3
    try clear hfz13_4
    try clear hfz13_5
    try clear hfz13_6
    try clear hfz13_7
    try clear hfz15_0
    try clear hfz15_1
    try clear hfz15_2
    try clear hfz15_3
    try clear hfz15_4
    try clear hfz15_5
    try clear hfz15_6
    try clear hfz15_7
    try clear hfz16_0
    try clear hfz16_1
    try clear hfz16_2
    try clear hfz16_3
    try clear hfz16_4
    try clear hfz16_5
    try clear hfz16_6
    try clear hfz16_7
    try clear hfz18_0
    try clear hfz18_1
    try clear hfz18_2
    try clear hfz18_3
    try clear hfz18_4
    try clear hfz18_5
    try clear hfz18_6
    try clear hfz18_7
    try clear hfz19_0
    try clear hfz19_1
    try clear hfz19_2
    try clear hfz19_3
    try clear hfz19_4
    try clear hfz19_5
    try clear hfz19_6
    try clear hfz19_7
    try clear hfz21_0
    try clear hfz21_1
    try clear hfz21_2
    try clear hfz21_3
    try clear hfz21_4
    try clear hfz21_5
    try clear hfz21_6
    try clear hfz21_7
    try clear hfz24_0
    try clear hfz24_1
    try clear hfz24_2
    try clear hfz24_3
    try clear hfz24_4
    try clear hfz24_5
    try clear hfz24_6
    try clear hfz24_7
    try clear hfz9_0
    try clear hfz9_1
    try clear hfz9_2
    try clear hfz9_3
    try clear hfz9_4
    try clear hfz9_5
    try clear hfz9_6
    try clear hfz9_7
    try clear p2
    obtain ⟨kq, x32_22, rfl, HA, HJ22, BK224, HB⟩ := hcut
    cases kq with
    | zero => exact absurd HA.out (by simp [bindleref08_Good.j1])
    | succ kj22 =>
     have H := HA.out
     clear HA
     simp only [bindleref08_Good.j1] at H
     by_cases c26 : x32_22 = true
     ·subst c26
      have H1 : (some (a0_1.toList == ([] : List UInt8))) = some r := by rw [if_pos rfl] at H; exact H
      clear H
      have H := H1
      clear H1
      obtain rfl := Option.some.inj H
      have hcz27_0 : wc.cell? ⟨gb224, 0, none⟩ = some (.string a0_0) := (bc_ BK224.out 0).trans rfl
      have hcz27_1 : wc.cell? ⟨gb224, 1, none⟩ = some (.string a0_1) := (bc_ BK224.out 1).trans rfl
      have hcz27_2 : wc.cell? ⟨gb224, 2, none⟩ = some (.int .u8 a0_2) := (bc_ BK224.out 2).trans rfl
      have hcz27_3 : wc.cell? ⟨gb224, 3, none⟩ = some (.int .i64 a0_3) := (bc_ BK224.out 3).trans rfl
      have hcz27_4 : wc.cell? ⟨gb224, 4, none⟩ = some (.int .i64 a0_4) := (bc_ BK224.out 4).trans rfl
      have hcz27_5 : wc.cell? ⟨gb224, 5, none⟩ = some (.int .i64 a0_5) := (bc_ BK224.out 5).trans rfl
      have hcz27_6 : wc.cell? ⟨gb224, 6, none⟩ = some (.int .i64 a0_6) := (bc_ BK224.out 6).trans rfl
      have hcz27_7 : wc.cell? ⟨gb224, 7, none⟩ = some (.slice A0_7 l0_7.length c0_7) := (bc_ BK224.out 7).trans rfl
      have hfz27_0 := bf_ BK224.out 0
      have hfz27_1 := bf_ BK224.out 1
      have hfz27_2 := bf_ BK224.out 2
      have hfz27_3 := bf_ BK224.out 3
      have hfz27_4 := bf_ BK224.out 4
      have hfz27_5 := bf_ BK224.out 5
      have hfz27_6 := bf_ BK224.out 6
      have hfz27_7 := bf_ BK224.out 7
      go_wp2
      go_ret
      exact ⟨we_, wb1_ HB.out GE224.out⟩
     replace c26 := Bool.eq_false_iff.mpr c26
     subst c26
     have H1 : (if a0_2 = 49 then ((bindleref08_clean.f kj22 a0_1).bind fun t227 => (some t227)) else (if a0_2 = 50 then ((bindleref08_Target.f kj22 a0_1).bind fun t228 => (some (t228 == 0))) else (some false))) = some r := by rw [if_neg (show ¬ (false = true) by decide)] at H; exact H
     clear H
     have H := H1
     clear H1
     by_cases c28 : a0_2 = 49
     ·rw [if_pos c28] at H
      have c28b0 : (a0_2 == 49) = true := beq_iff_eq.mpr c28
      have c28b1 : (a0_2 != 49) = false := bne_eq_false_iff_eq.mpr c28
      clear c28
      replace H := Option.bind_eq_some_iff.mp H
      obtain ⟨t227, A290, H⟩ := H
      replace H : (some t227) = some r := H
      have A29 := A0_ A290
      clear A290
      obtain rfl := Option.some.inj H
      have hcz30_0 : wc.cell? ⟨gb224, 0, none⟩ = some (.string a0_0) := (bc_ BK224.out 0).trans rfl
      have hcz30_1 : wc.cell? ⟨gb224, 1, none⟩ = some (.string a0_1) := (bc_ BK224.out 1).trans rfl
      have hcz30_2 : wc.cell? ⟨gb224, 2, none⟩ = some (.int .u8 a0_2) := (bc_ BK224.out 2).trans rfl
      have hcz30_3 : wc.cell? ⟨gb224, 3, none⟩ = some (.int .i64 a0_3) := (bc_ BK224.out 3).trans rfl
      have hcz30_4 : wc.cell? ⟨gb224, 4, none⟩ = some (.int .i64 a0_4) := (bc_ BK224.out 4).trans rfl
      have hcz30_5 : wc.cell? ⟨gb224, 5, none⟩ = some (.int .i64 a0_5) := (bc_ BK224.out 5).trans rfl
      have hcz30_6 : wc.cell? ⟨gb224, 6, none⟩ = some (.int .i64 a0_6) := (bc_ BK224.out 6).trans rfl
      have hcz30_7 : wc.cell? ⟨gb224, 7, none⟩ = some (.slice A0_7 l0_7.length c0_7) := (bc_ BK224.out 7).trans rfl
      have hfz30_0 := bf_ BK224.out 0
      have hfz30_1 := bf_ BK224.out 1
      have hfz30_2 := bf_ BK224.out 2
      have hfz30_3 := bf_ BK224.out 3
      have hfz30_4 := bf_ BK224.out 4
      have hfz30_5 := bf_ BK224.out 5
      have hfz30_6 := bf_ BK224.out 6
      have hfz30_7 := bf_ BK224.out 7
      go_wp2_with (first | ((with_reducible refine gate_callee (f := 53) rfl ?_); refine goesL_ (some 42) rfl rfl Tryd.func53 (by kernel_rfl) rfl #[.string a0_1] rfl wm_ ?_; (with_reducible refine (bindleref08_clean.calls kj22 a0_1 t227 _ A29.out).mono ?_); rintro e w' ⟨rfl, ⟨nd, rfl⟩⟩; refine ⟨_, rfl, ?_⟩))
      go_ret
      exact ⟨we_, wb1_ HB.out GE224.out⟩
     rw [if_neg c28] at H
     have c28b0 : (a0_2 == 49) = false := beq_eq_false_iff_ne.mpr c28
     have c28b1 : (a0_2 != 49) = true := bne_iff_ne.mpr c28
     by_cases c31 : a0_2 = 50
     rotate_left
     ·rw [if_neg c31] at H
      have c31b0 : (a0_2 == 50) = false := beq_eq_false_iff_ne.mpr c31
      have c31b1 : (a0_2 != 50) = true := bne_iff_ne.mpr c31
      obtain rfl := Option.some.inj H
      go_wp2
      go_ret
      exact ⟨we_, wb1_ HB.out GE224.out⟩
     rw [if_pos c31] at H
     have c31b0 : (a0_2 == 50) = true := beq_iff_eq.mpr c31
     have c31b1 : (a0_2 != 50) = false := bne_eq_false_iff_eq.mpr c31
     clear c31
     replace H := Option.bind_eq_some_iff.mp H
     obtain ⟨t228, A320, H⟩ := H
     replace H : (some (t228 == 0)) = some r := H
     have A32 := A0_ A320
     clear A320
     obtain rfl := Option.some.inj H
     have hcz33_0 : wc.cell? ⟨gb224, 0, none⟩ = some (.string a0_0) := (bc_ BK224.out 0).trans rfl
     have hcz33_1 : wc.cell? ⟨gb224, 1, none⟩ = some (.string a0_1) := (bc_ BK224.out 1).trans rfl
     have hcz33_2 : wc.cell? ⟨gb224, 2, none⟩ = some (.int .u8 a0_2) := (bc_ BK224.out 2).trans rfl
     have hcz33_3 : wc.cell? ⟨gb224, 3, none⟩ = some (.int .i64 a0_3) := (bc_ BK224.out 3).trans rfl
     have hcz33_4 : wc.cell? ⟨gb224, 4, none⟩ = some (.int .i64 a0_4) := (bc_ BK224.out 4).trans rfl
     have hcz33_5 : wc.cell? ⟨gb224, 5, none⟩ = some (.int .i64 a0_5) := (bc_ BK224.out 5).trans rfl
     have hcz33_6 : wc.cell? ⟨gb224, 6, none⟩ = some (.int .i64 a0_6) := (bc_ BK224.out 6).trans rfl
     have hcz33_7 : wc.cell? ⟨gb224, 7, none⟩ = some (.slice A0_7 l0_7.length c0_7) := (bc_ BK224.out 7).trans rfl
     have hfz33_0 := bf_ BK224.out 0
     have hfz33_1 := bf_ BK224.out 1
     have hfz33_2 := bf_ BK224.out 2
     have hfz33_3 := bf_ BK224.out 3
     have hfz33_4 := bf_ BK224.out 4
     have hfz33_5 := bf_ BK224.out 5
     have hfz33_6 := bf_ BK224.out 6
     have hfz33_7 := bf_ BK224.out 7
     go_wp2_with (first | ((with_reducible refine gate_callee (f := 55) rfl ?_); refine goesL_ (some 47) rfl rfl Tryd.func55 (by kernel_rfl) rfl #[.string a0_1] rfl wm_ ?_; (with_reducible refine (bindleref08_Target.calls kj22 a0_1 t228 _ A32.out).mono ?_); rintro e w' ⟨rfl, ⟨nd, rfl⟩⟩; refine ⟨_, rfl, ?_⟩))
     go_ret
     exact ⟨we_, wb1_ HB.out GE224.out⟩
end Go.Proofs.YtfljbidecljlcaaDoor.Print

namespace Go.Proofs.YtfljbidecljlcaaDoor
open Go.RowKit Go.Proofs.YtfljbidecljlcaaDoor.Print Go.Proofs.YtfljbidecljlcaaDoorW.PrintWords
theorem beq_dec {α : Type} [BEq α] [LawfulBEq α] [DecidableEq α] (a b : α) : (a == b) = decide (a = b) := by
 rw [Bool.eq_iff_iff, beq_iff_eq, decide_eq_true_eq]
theorem mclean_f (s : ByteArray) (h2 : s.size ≤ 8000000000000) : member_clean.f s = some (cleanOk s) := by
 have e : path_Clean.f s = some (cleanF s) := by unfold path_Clean.f; rw [if_pos h2]
 unfold member_clean.f cleanOk
 rw [e, Option.bind_some, beq_dec]
 by_cases h0 : (cleanF s).2 = 0
 ·rw [if_pos h0, decide_eq_true h0, Bool.true_and]
  congr 1
  exact decide_eq_decide.2 ⟨fun h => h.symm, fun h => h.symm⟩
 ·rw [if_neg h0, decide_eq_false h0]; rfl
theorem rclean_f (s : ByteArray) (h : s.size ≤ 140737488351232) : Ev (fun k => bindleref08_clean.f k s) (cleanOk s) := by
 refine Ev.congr (f := fun k => (bindleref01_Clean.f k s).bind fun bt => (if bt.2 = 0 then (some (s.toList == bt.1.toList)) else (some false))) (fun k => rfl) (Ev.bind (RefClean_eq s (by omega)) ?_)
 refine Ev.congr (fun k => ?_) (Ev.now _)
 unfold cleanOk
 rw [beq_dec]
 by_cases h0 : (cleanF s).2 = 0
 ·rw [if_pos h0, decide_eq_true h0, Bool.true_and]
 ·rw [if_neg h0, decide_eq_false h0]; rfl
theorem mmeta_f (m : Met) : member_meta.f m.f0 m.f1 m.f2 m.f3 = some (metaOk m) := by
 unfold member_meta.f num_In.f metaOk
 have hd : ∀ (a b c : Int), (if a ≥ b then some (decide (a ≤ c)) else some false) = some (decide (b ≤ a ∧ a ≤ c)) := by
  intro a b c
  split
  ·congr 1; exact decide_eq_decide.2 (by omega)
  ·congr 1; symm; simp; omega
 simp only [hd, Option.bind_some]
 split
 ·split
  ·split
   ·congr 1
    simp only [decide_eq_true_eq] at *
    exact decide_eq_decide.2 (by omega)
   all_goals (congr 1; simp only [decide_eq_true_eq] at *; symm; simp; omega)
  all_goals (congr 1; simp only [decide_eq_true_eq] at *; symm; simp; omega)
 all_goals (congr 1; simp only [decide_eq_true_eq] at *; symm; simp; omega)
theorem rmeta_f (m : Met) : bindleref08_Meta.f m.f0 m.f1 m.f2 m.f3 = some (metaOk m) := by
 unfold bindleref08_Meta.f metaOk
 repeat' split
 all_goals (congr 1; first | (symm; simp; omega) | (apply decide_eq_decide.2; omega))
theorem mtarget_f (s : ByteArray) (h2 : s.size ≤ 8000000000000) : ∃ r, path_Target.f s = some r ∧ (r == 0) = targetOk s := by
 have e : path_right.f s = some (rightB s) := by unfold path_right.f; rw [if_pos h2]
 have hz : s.toList = [] ↔ s.size = 0 := by rw [Lib.toList_data, ← List.length_eq_zero_iff]; simp
 unfold path_Target.f targetOk
 rw [e, Option.bind_some]
 cases rightB s with
 | false => exact ⟨9, rfl, rfl⟩
 | true =>
  rw [if_pos rfl]
  by_cases h0 : s.toList = []
  ·rw [if_pos h0]
   refine ⟨6, rfl, ?_⟩
   have := hz.1 h0
   simp [this]
  ·rw [if_neg h0]
   have h1 : s.size ≠ 0 := fun e => h0 (hz.2 e)
   by_cases h3 : (s.size : Int) > 200
   ·rw [if_pos h3]
    refine ⟨6, rfl, ?_⟩
    simp
    omega
   ·rw [if_neg h3]
    refine ⟨0, rfl, ?_⟩
    simp
    omega
theorem rtarget_f (s : ByteArray) (h : s.size ≤ 140737488351232) : ∃ r, Ev (fun k => bindleref08_Target.f k s) r ∧ (r == 0) = targetOk s := by
 have e := Text_eq s (by omega)
 have hz : s.toList = [] ↔ s.size = 0 := by rw [Lib.toList_data, ← List.length_eq_zero_iff]; simp
 have start : ∀ r, Ev (fun _ => if rightB s = true then (if s.toList = ([] : List UInt8) then (some 6) else (if (s.size : Int) > 200 then (some 6) else (some 0))) else (some 9)) r → Ev (fun k => bindleref08_Target.f k s) r := fun r hr =>
  Ev.congr (f := fun k => (bindleref01_Text.f k s).bind fun t => (if t = true then (if s.toList = ([] : List UInt8) then (some 6) else (if (s.size : Int) > 200 then (some 6) else (some 0))) else (some 9))) (fun k => rfl) (Ev.bind e hr)
 unfold targetOk
 cases hr : rightB s with
 | false => exact ⟨9, start _ (Ev.congr (fun k => by rw [hr]; rfl) (Ev.now _)), rfl⟩
 | true =>
  by_cases h0 : s.toList = []
  ·refine ⟨6, start _ (Ev.congr (fun k => by rw [hr, if_pos rfl, if_pos h0]) (Ev.now _)), ?_⟩
   have := hz.1 h0
   simp [this]
  ·have h1 : s.size ≠ 0 := fun e => h0 (hz.2 e)
   by_cases h3 : (s.size : Int) > 200
   ·refine ⟨6, start _ (Ev.congr (fun k => by rw [hr, if_pos rfl, if_neg h0, if_pos h3]) (Ev.now _)), ?_⟩
    simp
    omega
   ·refine ⟨0, start _ (Ev.congr (fun k => by rw [hr, if_pos rfl, if_neg h0, if_neg h3]) (Ev.now _)), ?_⟩
    simp
    omega
def kindB (m : Mem) : Bool := if m.f2 = 48 ∨ m.f2 = 53 then decide (m.f1.toList = []) else if m.f2 = 49 then cleanOk m.f1 else if m.f2 = 50 then targetOk m.f1 else false
theorem mj0_f (m : Mem) (b : Bool) (hz : MemZ m) : Ev (fun k => member_Good.j0 k b m.f0 m.f1 m.f2 m.f3.f0 m.f3.f1 m.f3.f2 m.f3.f3 m.f4) (!b && kindB m) := by
 obtain ⟨r, h1, h3⟩ := mtarget_f m.f1 hz.2.1
 have hj1 : Ev (fun k => member_Good.j1 k m.f2 (if m.f2 = 48 then (m.f2 == 48) else (m.f2 == 53)) m.f0 m.f1 m.f2 m.f3.f0 m.f3.f1 m.f3.f2 m.f3.f3 m.f4) (kindB m) := by
  refine Ev.step (f := fun _ => some (kindB m)) (fun k => ?_) (Ev.now _)
  rw [member_Good.j1]
  unfold kindB
  by_cases a : m.f2 = 48
  ·rw [if_pos a, if_pos (by rw [beq_iff_eq]; exact a), if_pos (.inl a), beq_dec]
  ·rw [if_neg a]
   by_cases b : m.f2 = 53
   ·rw [if_pos (by rw [beq_iff_eq]; exact b), if_pos (.inr b), beq_dec]
   ·rw [if_neg (by rw [beq_iff_eq]; exact b), if_neg (show ¬ (m.f2 = 48 ∨ m.f2 = 53) from fun h => h.elim a b)]
    by_cases c : m.f2 = 49
    ·rw [if_pos c, if_pos c, mclean_f _ hz.2.1]; rfl
    ·rw [if_neg c, if_neg c]
     by_cases d : m.f2 = 50
     ·rw [if_pos d, if_pos d, h1, Option.bind_some, h3]
     ·rw [if_neg d, if_neg d]
 cases b with
 | true => exact Ev.step (f := fun _ => some false) (fun k => by rw [member_Good.j0, if_pos rfl]) (Ev.now _)
 | false =>
  refine Ev.step (fun k => ?_) hj1
  rw [member_Good.j0, if_neg (by decide)]
  by_cases a : m.f2 = 48
  ·rw [if_pos a, if_pos a]
  ·rw [if_neg a, if_neg a]
theorem goodM_eq (m : Mem) : goodM m = (cleanOk m.f0 && metaOk m.f3 && !(decide (1048576 < m.f4.length) || (!decide (m.f2 = 48) && decide (0 < m.f4.length))) && kindB m) := by
 unfold goodM kindB
 congr 1
 rw [Bool.and_assoc, Bool.and_assoc, Bool.and_assoc]
 congr 2
 by_cases a : m.f2 = 48 <;> by_cases b : m.f4.length ≤ 1048576 <;> by_cases c : m.f4.length = 0 <;> simp [a, b, c] <;> omega
theorem member_Good_eq (m : Mem) (hz : MemZ m) : Ev (fun k => member_Good.f k m.f0 m.f1 m.f2 m.f3.f0 m.f3.f1 m.f3.f2 m.f3.f3 m.f4) (goodM m) := by
 rw [goodM_eq]
 cases hc : cleanOk m.f0 with
 | false => exact Ev.congr (fun k => by unfold member_Good.f; rw [mclean_f _ hz.1, Option.bind_some, hc, if_neg (by decide)]) (mj0_f m true hz)
 | true =>
  cases hm : metaOk m.f3 with
  | false => exact Ev.congr (fun k => by unfold member_Good.f; rw [mclean_f _ hz.1, Option.bind_some, hc, if_pos rfl, mmeta_f, Option.bind_some, hm, if_neg (by decide)]) (mj0_f m true hz)
  | true =>
   by_cases a : (m.f4.length : Int) > 1048576
   ·rw [decide_eq_true (show 1048576 < m.f4.length by omega)]
    exact Ev.congr (fun k => by unfold member_Good.f; rw [mclean_f _ hz.1, Option.bind_some, hc, if_pos rfl, mmeta_f, Option.bind_some, hm, if_pos rfl, if_pos a]) (mj0_f m true hz)
   ·by_cases b : m.f2 = 48
    ·rw [decide_eq_false (show ¬ 1048576 < m.f4.length by omega), decide_eq_true b]
     exact Ev.congr (fun k => by unfold member_Good.f; rw [mclean_f _ hz.1, Option.bind_some, hc, if_pos rfl, mmeta_f, Option.bind_some, hm, if_pos rfl, if_neg a, if_pos b]) (mj0_f m false hz)
    ·have e : decide ((m.f4.length : Int) > 0) = decide (0 < m.f4.length) := decide_eq_decide.2 (by omega)
     rw [decide_eq_false (show ¬ 1048576 < m.f4.length by omega), decide_eq_false b]
     simp only [Bool.true_and, Bool.false_or, Bool.not_false]
     refine Ev.congr (fun k => ?_) (mj0_f m (decide (0 < m.f4.length)) hz)
     unfold member_Good.f
     rw [mclean_f _ hz.1, Option.bind_some, hc, if_pos rfl, mmeta_f, Option.bind_some, hm, if_pos rfl, if_neg a, if_neg b, e]
theorem rj0_f (m : Mem) (b : Bool) (hz : MemR m) : Ev (fun k => bindleref08_Good.j0 k b m.f0 m.f1 m.f2 m.f3.f0 m.f3.f1 m.f3.f2 m.f3.f3 m.f4) (!b && kindB m) := by
 obtain ⟨r, ⟨K1, h1⟩, h3⟩ := rtarget_f m.f1 hz.2.1
 obtain ⟨K2, h2⟩ := rclean_f m.f1 hz.2.1
 have hj1 : Ev (fun k => bindleref08_Good.j1 k m.f2 (if m.f2 = 48 then (m.f2 == 48) else (m.f2 == 53)) m.f0 m.f1 m.f2 m.f3.f0 m.f3.f1 m.f3.f2 m.f3.f3 m.f4) (kindB m) := by
  refine ⟨K1 + K2 + 1, fun k hk => ?_⟩
  obtain ⟨k, rfl⟩ : ∃ m, k = m + 1 := ⟨k - 1, by omega⟩
  dsimp only at *
  rw [bindleref08_Good.j1]
  unfold kindB
  by_cases a : m.f2 = 48
  ·rw [if_pos a, if_pos (by rw [beq_iff_eq]; exact a), if_pos (.inl a), beq_dec]
  ·rw [if_neg a]
   by_cases b : m.f2 = 53
   ·rw [if_pos (by rw [beq_iff_eq]; exact b), if_pos (.inr b), beq_dec]
   ·rw [if_neg (by rw [beq_iff_eq]; exact b), if_neg (show ¬ (m.f2 = 48 ∨ m.f2 = 53) from fun h => h.elim a b)]
    by_cases c : m.f2 = 49
    ·rw [if_pos c, if_pos c, h2 k (by omega)]; rfl
    ·rw [if_neg c, if_neg c]
     by_cases d : m.f2 = 50
     ·rw [if_pos d, if_pos d, h1 k (by omega), Option.bind_some, h3]
     ·rw [if_neg d, if_neg d]
 cases b with
 | true => exact Ev.step (f := fun _ => some false) (fun k => by rw [bindleref08_Good.j0, if_pos rfl]) (Ev.now _)
 | false =>
  refine Ev.step (fun k => ?_) hj1
  rw [bindleref08_Good.j0, if_neg (by decide)]
  by_cases a : m.f2 = 48
  ·rw [if_pos a, if_pos a]
  ·rw [if_neg a, if_neg a]
theorem refGood_eq (m : Mem) (hz : MemR m) : Ev (fun k => bindleref08_Good.f k m.f0 m.f1 m.f2 m.f3.f0 m.f3.f1 m.f3.f2 m.f3.f3 m.f4) (goodM m) := by
 rw [goodM_eq]
 refine Ev.bind (f := fun k t175 => (if t175 = true then ((bindleref08_Meta.f m.f3.f0 m.f3.f1 m.f3.f2 m.f3.f3).bind fun t176 => (if t176 = true then (if (m.f4.length : Int) > 1048576 then (bindleref08_Good.j0 k true m.f0 m.f1 m.f2 m.f3.f0 m.f3.f1 m.f3.f2 m.f3.f3 m.f4) else (if m.f2 = 48 then (bindleref08_Good.j0 k false m.f0 m.f1 m.f2 m.f3.f0 m.f3.f1 m.f3.f2 m.f3.f3 m.f4) else (bindleref08_Good.j0 k (decide ((m.f4.length : Int) > 0)) m.f0 m.f1 m.f2 m.f3.f0 m.f3.f1 m.f3.f2 m.f3.f3 m.f4))) else (bindleref08_Good.j0 k true m.f0 m.f1 m.f2 m.f3.f0 m.f3.f1 m.f3.f2 m.f3.f3 m.f4))) else (bindleref08_Good.j0 k true m.f0 m.f1 m.f2 m.f3.f0 m.f3.f1 m.f3.f2 m.f3.f3 m.f4))) (rclean_f m.f0 hz.1) ?_
 cases hc : cleanOk m.f0 with
 | false => exact Ev.congr (fun k => by rw [if_neg (by decide)]) (rj0_f m true hz)
 | true =>
  cases hm : metaOk m.f3 with
  | false => exact Ev.congr (fun k => by rw [if_pos rfl, rmeta_f, Option.bind_some, hm, if_neg (by decide)]) (rj0_f m true hz)
  | true =>
   by_cases a : (m.f4.length : Int) > 1048576
   ·rw [decide_eq_true (show 1048576 < m.f4.length by omega)]
    exact Ev.congr (fun k => by rw [if_pos rfl, rmeta_f, Option.bind_some, hm, if_pos rfl, if_pos a]) (rj0_f m true hz)
   ·by_cases b : m.f2 = 48
    ·rw [decide_eq_false (show ¬ 1048576 < m.f4.length by omega), decide_eq_true b]
     exact Ev.congr (fun k => by rw [if_pos rfl, rmeta_f, Option.bind_some, hm, if_pos rfl, if_neg a, if_pos b]) (rj0_f m false hz)
    ·have e : decide ((m.f4.length : Int) > 0) = decide (0 < m.f4.length) := decide_eq_decide.2 (by omega)
     rw [decide_eq_false (show ¬ 1048576 < m.f4.length by omega), decide_eq_false b]
     change Ev _ (!decide (0 < m.f4.length) && kindB m)
     refine Ev.congr (fun k => ?_) (rj0_f m (decide (0 < m.f4.length)) hz)
     rw [if_pos rfl, rmeta_f, Option.bind_some, hm, if_pos rfl, if_neg a, if_neg b, e]
end Go.Proofs.YtfljbidecljlcaaDoor

namespace Go.Proofs.YtfljbidecljlcaaDoor
open Go.RowKit Go.Maps Go.ChangeMaps Go.WideMaps
def heldE (v : Value) : Option (DataW Value × List MemPlace) := some (.held v, [])
def MapS (P : Program) (K : TypeId) (w : World) (b n : Nat) (f : List UInt8 → Option Value) : Prop :=
 ∃ D : DataW Value, w.ownsMap P K heldE b n D ∧ (∀ s, Maps.has D (.string s) = (f s).isSome) ∧ (∀ s v, f s = some v → ∀ z, D.atKey (.string s) z = .held v)
section
variable {P : Program} {K e t : TypeId} {w w' : World} {b n : Nat} {f : List UInt8 → Option Value}
theorem MapS.made (P : Program) (K : TypeId) (w : World) : MapS P K (w.alloc (.map #[] 0)) w.heap.size 0 (fun _ => none) :=
 ⟨.map [], World.ownsMap_made _ _ _ _, fun _ => rfl, fun _ _ h => by cases h⟩
theorem MapS.lt (h : MapS P K w b n f) : b < w.heap.size := by
 obtain ⟨D, h, _⟩ := h
 exact h.lt
theorem MapS.mono (h : MapS P K w b n f) {m : Nat} (hm : n ≤ m) : MapS P K w b m f := by
 obtain ⟨D, h, h2⟩ := h
 exact ⟨D, h.mono hm, h2⟩
theorem MapS.kept {row : Option Nat} (h : MapS P K w b n f) (hg : w.grownBy w' row) (hne : some b ≠ row) : MapS P K w' b n f := by
 obtain ⟨D, h, h2⟩ := h
 exact ⟨D, h.kept hg hne, h2⟩
theorem MapS.step (h : MapS P K w b n f) (he : w'.heap[b]? = w.heap[b]?) : MapS P K w' b n f := by
 obtain ⟨D, ⟨es, clock, hb, F, r⟩, h2⟩ := h
 exact ⟨D, ⟨es, clock, he.trans hb, F, r⟩, h2⟩
theorem MapS.below (h : MapS P K w b n f) (hb : Below w.heap.size w w') : MapS P K w' b n f := h.step (hb.block b h.lt)
theorem MapS.alloc (h : MapS P K w b n f) (o : Obj) : MapS P K (w.alloc o) b n f := h.kept (World.grownBy_alloc w o none) (by simp)
theorem MapS.drew (h : MapS P K w b n f) : MapS P K w.drew b n f := h
theorem MapS.drewN (h : MapS P K w b n f) (m : Nat) : MapS P K (w.drewN m) b n f := by
 induction m generalizing w with
 | zero => exact h
 | succ m ih => exact ih h.drew
theorem MapS.setCell (h : MapS P K w b n f) {a : Addr} (ha : b ≠ a.block) (u : Value) : MapS P K (w.setCell a u) b n f := by
 obtain ⟨D, h, h2⟩ := h
 exact ⟨D, h.setCell ha u, h2⟩
theorem MapS.ext {g : List UInt8 → Option Value} (h : MapS P K w b n f) (hg : ∀ s, f s = g s) : MapS P K w b n g := by
 obtain rfl : f = g := funext hg
 exact h
theorem MapS.look_ok (h : MapS P K w b n f) (hK : P.underlying K = some .string) (ht : P.underlying t = some (.map K e)) {z : Value} (hz : (zeroValue e).run P w = .ok z w) {s : ByteArray} (hs : s.size ≤ maxLen) :
  (Instr.lookup t (.map (some b)) (.string s) true).run P w = .ok (.tuple #[(f s.data.toList).getD z, .bool (f s.data.toList).isSome]) w := by
 obtain ⟨D, h, hh, ha⟩ := h
 obtain ⟨v, ps, hrun, hv⟩ := h.look_ok (string_keyed hK) ht hz (zd := .held z) (zp := []) rfl (keyOf_string_mk hK hs)
 rw [hrun, hh]
 simp only [heldE, Option.some.injEq, Prod.mk.injEq] at hv
 cases hf : f s.data.toList with
 | none =>
  have h0 : Maps.has D (.string s.data.toList) = false := by rw [hh, hf]; rfl
  have h1 := hv.1
  rw [Maps.atKey_of_not_has h0] at h1
  cases h1
  rfl
 | some v' =>
  have h1 := hv.1
  rw [ha _ _ hf] at h1
  cases h1
  rfl
theorem MapS.look (h : MapS P K w b n f) (hK : P.underlying K = some .string) (ht : P.underlying t = some (.map K e)) {z : Value} (hz : (zeroValue e).run P w = .ok z w) {s : ByteArray} (hs : s.size ≤ maxLen) :
  (Instr.lookup t (.map (some b)) (.string s) false).run P w = .ok ((f s.data.toList).getD z) w := by
 obtain ⟨D, h, hh, ha⟩ := h
 obtain ⟨v, ps, hrun, hv⟩ := h.lookup (string_keyed hK) ht hz (zd := .held z) (zp := []) rfl (keyOf_string_mk hK hs)
 rw [hrun]
 simp only [heldE, Option.some.injEq, Prod.mk.injEq] at hv
 cases hf : f s.data.toList with
 | none =>
  have h0 : Maps.has D (.string s.data.toList) = false := by rw [hh, hf]; rfl
  have h1 := hv.1
  rw [Maps.atKey_of_not_has h0] at h1
  cases h1
  rfl
 | some v' =>
  have h1 := hv.1
  rw [ha _ _ hf] at h1
  cases h1
  rfl
def putS (f : List UInt8 → Option Value) (s : List UInt8) (v : Value) : List UInt8 → Option Value := fun t => if t = s then some v else f t
theorem MapS.put (h : MapS P K w b n f) (hK : P.underlying K = some .string) (ht : P.underlying t = some (.map K e)) (hn : n < maxLen) {s : ByteArray} (hs : s.size ≤ maxLen) (v : Value) :
  ∃ w', (Instr.mapUpdate t (.map (some b)) (.string s) v).run P w = .ok () w' ∧ MapS P K w' b (n + 1) (putS f s.data.toList v) ∧ w.mapTurned w' b := by
 obtain ⟨D, h, hh, ha⟩ := h
 obtain ⟨w', hrun, h', hturn⟩ := h.store (string_keyed hK) ht hn (d := .held v) (ps := []) (keyOf_string_mk hK hs) rfl
 have hk : WideAt.IsKeyLit (.string s.data.toList) := trivial
 refine ⟨w', hrun, ⟨D.put (.string s.data.toList) (.held v), h', fun t => ?_, fun t u hu z => ?_⟩, hturn⟩
 ·unfold putS
  by_cases e : t = s.data.toList
  ·rw [if_pos e, e, Maps.has_put_same h.isMap hk]; rfl
  ·rw [if_neg e, Maps.has_put_other (by intro h; injection h with h; exact e h), hh]
 ·unfold putS at hu
  by_cases e : t = s.data.toList
  ·rw [if_pos e] at hu
   cases hu
   rw [e, Maps.atKey_put_same h.isMap hk]
  ·rw [if_neg e] at hu
   rw [Maps.atKey_put_other (by intro h; injection h with h; exact e h)]
   exact ha _ _ hu z
theorem MapS.wpput {ops : Array Oper} {rest : List Oper} {o : Oper} {a : Act} {Q : Exit → Act → World → Prop} (h : MapS P K w b n f) (hg : o.guard = none) (m x v : Operand) (hop : o.op = Op.mapUpdate t m x v)
  (hK : P.underlying K = some .string) (ht : P.underlying t = some (.map K e)) (hn : n < maxLen) (hm : a.eval m = .map (some b)) {s : ByteArray} (hx : a.eval x = .string s) (hs : s.size ≤ maxLen) {u : Value} (hv : a.eval v = u)
  (hk : ∀ w', MapS P K w' b (n + 1) (putS f s.data.toList u) → w.mapTurned w' b → wpList P ops Q rest (a.put o.dst undef) w') : wpList P ops Q (o :: rest) a w := by
 refine wpList_plain hg fun K' hK' => ?_
 obtain ⟨w', hrun, r1, r2⟩ := h.put hK ht hn hs u
 unfold Oper.wp
 simp [execOp, hop, hm, hx, hv, hrun, Result.andThen]
 exact hK' _ _ (hk w' r1 r2)
theorem MapS.len (h : MapS P K w b n f) : ∃ m : Nat, m ≤ n ∧ ∀ {t e ty : TypeId}, P.underlying t = some (.map K e) → (Builtin.len_ #[t] ty #[.map (some b)]).run P w = .ok (.int .i64 m) w := by
 obtain ⟨D, h, _⟩ := h
 exact ⟨Maps.size D, h.size_le, fun ht => h.len ht _⟩
end
end Go.Proofs.YtfljbidecljlcaaDoor

namespace Go.Proofs.YtfljbidecljlcaaDoor
open Go.RowKit Go.Maps Go.Proofs.YtfljbidecljlcaaDoor.Print Go.Proofs.YtfljbidecljlcaaDoorW.PrintWords Go.Proofs.YtfljbidecljlcaaDoorW.PrintLast Go.Proofs.YtfljbidecljlcaaDoorW.PrintMore
set_option linter.unusedVariables false
set_option linter.unusedSimpArgs false
theorem zeroU8 (w : World) : (zeroValue 5).run Tryd.prog w = .ok (.int .u8 0) w := by kernel_rfl
def kindsV (f : List (List UInt8 × Int)) : List UInt8 → Option Value := fun s => (lkI f s).map (Value.int .u8)
theorem kindsV_put (f : List (List UInt8 × Int)) (s : List UInt8) (v : Int) (t : List UInt8) : putS (kindsV f) s (.int .u8 v) t = kindsV ((s, v) :: f) t := by
 unfold putS kindsV
 rw [lkI]
 by_cases h : t = s
 ·rw [if_pos h, if_pos h]; rfl
 ·rw [if_neg h, if_neg h]
theorem sound_take (l : List Mem) (i : Nat) (hi : i < l.length) {f : List (List UInt8 × Int)} (h : (l.take i).foldlM stepS [] = some f) : (l.take (i + 1)).foldlM stepS [] = stepS f l[i] := by
 rw [List.take_add_one, List.getElem?_eq_getElem hi, List.foldlM_append, h]
 simp
theorem sound_none (l : List Mem) (i : Nat) (h : (l.take i).foldlM stepS [] = none) : soundF l = false := by
 unfold soundF
 rw [← List.take_append_drop i l, List.foldlM_append, h]
 rfl
theorem sound_stop (l : List Mem) (i : Nat) (hi : i < l.length) {f : List (List UInt8 × Int)} (h : (l.take i).foldlM stepS [] = some f) (hs : stepS f l[i] = none) : soundF l = false :=
 sound_none l (i + 1) (by rw [sound_take l i hi h, hs])
theorem sound_end (l : List Mem) {f : List (List UInt8 × Int)} (h : (l.take l.length).foldlM stepS [] = some f) : soundF l = true := by
 rw [List.take_length] at h
 unfold soundF
 rw [h]
 rfl
theorem rdM_at (l : List Mem) (i : Int) (h0 : 0 ≤ i) (h1 : i < l.length) : rd_T45 l i = l[i.toNat]'(by omega) := by
 unfold rd_T45
 rw [List.getD_eq_getElem?_getD, List.getElem?_eq_getElem (by omega)]
 rfl
theorem bcell {W w1 : World} (hb : Below W.heap.size W w1) : (∀ b o, b < W.heap.size → w1.cell? ⟨b, o, none⟩ = W.cell? ⟨b, o, none⟩) ∧ (∀ b o, b < W.heap.size → w1.frozen? ⟨b, o, none⟩ = W.frozen? ⟨b, o, none⟩) :=
 ⟨fun b o h => hb.cell (p := ⟨b, o, none⟩) h, fun b o h => hb.frozen (p := ⟨b, o, none⟩) h⟩
def SoundRel (l : List Mem) (W : World) (i : Int) (wr : World) : Prop :=
 0 ≤ i ∧ i ≤ l.length ∧ (∃ f, (l.take i.toNat).foldlM stepS [] = some f ∧ MapS Tryd.prog 9 wr W.heap.size i.toNat (kindsV f)) ∧ Below W.heap.size W wr
set_option maxRecDepth 100000 in
set_option maxHeartbeats 2000000 in
theorem Sound_calls (A0 : Option Addr) (c0 : Nat) (l : List Mem) (W : World) (hT : Tabs W) (hC : Kd.C k45 W A0 l.length l) (hz : MemsZ l) :
  Calls Tryd.prog 22 #[.slice A0 l.length c0] W fun e W' => e = .returned (.bool (soundF l)) ∧ Below W.heap.size W W' := by
 have hmm := @run_makeMap Tryd.prog
 have HC := Aside0.mk hC
 have HT := Aside0.mk hT
 have HZ := Aside0.mk hz
 have hlen : (l.length : Int) ≤ 1000000000000 := by have := hz.1; omega
 clear hC hT hz
 generalize hpost : (fun (e : Ending) (W' : World) => e = .returned (.bool (soundF l)) ∧ Below W.heap.size W W') = Q
 have hQ := Aside0.mk hpost
 clear hpost
 go_enter Tryd.func22, Tryd.ntmps22
 go_wp2
 go_loopw [11] (fun i wr => ∃ n : Int, i = .int .i64 n ∧ Aside0 (SoundRel l W n wr)) (fun i _ => (l.length - (intOf i)).toNat)
 case atStart => exact ⟨0, rfl, ⟨⟨by omega, by omega, ⟨[], rfl, (MapS.made _ _ _).ext (fun s => rfl)⟩, (Below.refl _ _).alloc (Nat.le_refl _) _⟩⟩⟩
 case round =>
  obtain ⟨n, rfl, HR⟩ := hrel
  have h0 := HR.out.1
  have h1 := HR.out.2.1
  obtain ⟨f, hf, hM⟩ := HR.out.2.2.1
  have hB := HR.out.2.2.2
  have HB := Aside0.mk hB
  have HF := Aside0.mk hf
  clear hf
  by_cases hlt : n < (l.length : Int)
  ·obtain ⟨ad, A7, c7, rfl, x0, x1, x2, x3, x4, x5, x6, x7, hl7, hC7⟩ := at_T45 (Kd.C_below HC.out hB) n h0 hlt
   have hx := rdM_at l n h0 hlt
   have hxz : MemZ (rd_T45 l n) := by rw [hx]; exact HZ.out.2 _ (List.getElem_mem _)
   generalize rd_T45 l n = x at hx hxz x0 x1 x2 x3 x4 x5 x6 x7 hl7 hC7
   have hlen7 : x.f4.length ≤ c7 := hl7
   have HX := Aside0.mk hx
   have HXZ := Aside0.mk hxz
   have HC7 := Aside0.mk hC7
   have hs0 : x.f0.size ≤ maxLen := by have := hxz.1; unfold maxLen; omega
   have hs1 : x.f1.size ≤ maxLen := by have := hxz.2.1; unfold maxLen; omega
   have HM := Aside0.mk hM
   have hlook := fun o => (hM.alloc o).look_ok Tryd.underlying9 Tryd.underlying66 (zeroU8 _) hs0
   have c1b : decide (n < (l.length : Int)) = true := decide_eq_true hlt
   clear hx hxz hC7 hl7 hB hM hs0 hs1
   cases ht : (kindsV f x.f0.data.toList) with
   | some v =>
    simp only [ht, Option.getD_some, Option.isSome_some] at hlook
    obtain ⟨vi, rfl⟩ : ∃ vi, v = Value.int .u8 vi := by
     unfold kindsV at ht
     cases hk : lkI f x.f0.data.toList with
     | none => rw [hk] at ht; cases ht
     | some q => rw [hk] at ht; cases ht; exact ⟨q, rfl⟩
    have HTW := Aside0.mk ht
    clear ht
    go_wp2
    rw [← hQ.out]
    refine ⟨?_, HB.out.alloc HB.out.size _⟩
    rw [sound_stop l n.toNat (by omega) HF.out (by rw [← HX.out]; unfold stepS; rw [if_pos (.inl (by unfold kindsV at HTW; have := HTW.out; cases hk : lkI f x.f0.data.toList with | none => rw [hk] at this; cases this | some q => rfl))])]
    rfl
   | none =>
    simp only [ht, Option.getD_none, Option.isSome_none] at hlook
    have hnone : lkI f x.f0.data.toList = none := by
     unfold kindsV at ht
     cases hk : lkI f x.f0.data.toList with
     | none => rfl
     | some q => rw [hk] at ht; cases ht
    have HN := Aside0.mk hnone
    clear hnone ht
    obtain ⟨kk, hkk⟩ := Ev.rounds (member_Good_eq x HXZ.out)
    have hTa : ∀ o, Aside0 (Tabs (wr.alloc o)) := fun o => ⟨Tabs.below HT.out (HB.out.alloc HB.out.size _)⟩
    have hCa : ∀ o, Kd.C (Kd.int .u8) (wr.alloc o) A7 x.f4.length x.f4 := fun o => Kd.C_alloc HC7.out o
    cases hg : goodM x with
    | false =>
     rw [hg] at hkk
     have HG := Aside0.mk hg
     have HK := Aside0.mk hkk
     have HTA := Aside0.mk hTa
     have HCA := Aside0.mk hCa
     clear hg hkk hTa hCa
     go_wp2_with (go_at_call 43; (with_reducible refine (member_Good.calls kk x.f0 x.f1 x.f2 x.f3.f0 x.f3.f1 x.f3.f2 x.f3.f3 A7 c7 x.f4 false _ (HTA.out _) (HCA.out _) hlen7 HK.out).mono ?_); rintro e w5 ⟨rfl, hb5⟩)
     rw [← hQ.out]
     refine ⟨?_, (HB.out.alloc HB.out.size _).trans (hb5.mono (by simp; have := HB.out.size; omega))⟩
     rw [sound_stop l n.toNat (by omega) HF.out (by rw [← HX.out]; unfold stepS; rw [if_pos (.inr (.inl HG.out))])]
     rfl
    | true =>
     rw [hg] at hkk
     have HG := Aside0.mk hg
     have HK := Aside0.mk hkk
     have HTA := Aside0.mk hTa
     have HCA := Aside0.mk hCa
     clear hg hkk hTa hCa
     have hs0 : x.f0.size ≤ maxLen := by have := HXZ.out.1; unfold maxLen; omega
     have hs1 : x.f1.size ≤ maxLen := by have := HXZ.out.2.1; unfold maxLen; omega
     by_cases h49 : x.f2 = 49
     ·have e49 : (x.f2 == 49) = true := beq_iff_eq.2 h49
      have H49 := Aside0.mk h49
      clear h49
      cases ht1 : (kindsV f x.f1.data.toList) with
      | none =>
       have HV := Aside0.mk ht1
       clear ht1
       go_wp2_with (go_at_call 43; (with_reducible refine (member_Good.calls kk x.f0 x.f1 x.f2 x.f3.f0 x.f3.f1 x.f3.f2 x.f3.f3 A7 c7 x.f4 true _ (HTA.out _) (HCA.out _) hlen7 HK.out).mono ?_); rintro e w5 ⟨rfl, hb5⟩; obtain ⟨hc5, hf5⟩ := bcell hb5; have hM5 := (HM.out.alloc _).below hb5; have HB5 := Aside0.mk ((HB.out.alloc HB.out.size _).trans (hb5.mono (by simp; have := HB.out.size; omega))); have hl5 := hM5.look Tryd.underlying9 Tryd.underlying66 (zeroU8 _) hs1; rw [HV.out] at hl5; simp only [Option.getD_none] at hl5)
       rw [← hQ.out]
       refine ⟨?_, HB5.out⟩
       rw [sound_stop l n.toNat (by omega) HF.out (by rw [← HX.out]; unfold stepS; rw [if_pos (.inr (.inr ⟨H49.out, by rw [show lkI f x.f1.data.toList = none from by have := HV.out; unfold kindsV at this; cases hk : lkI f x.f1.data.toList with | none => rfl | some q => rw [hk] at this; cases this]; decide⟩))])]
       rfl
      | some v =>
       obtain ⟨q, rfl, hq⟩ : ∃ q, v = Value.int .u8 q ∧ lkI f x.f1.data.toList = some q := by
        unfold kindsV at ht1
        cases hk : lkI f x.f1.data.toList with
        | none => rw [hk] at ht1; cases ht1
        | some q => rw [hk] at ht1; cases ht1; exact ⟨q, rfl, rfl⟩
       have HV := Aside0.mk ht1
       have HVL := Aside0.mk hq
       clear ht1 hq
       by_cases hq48 : q = 48
       ·subst hq48
        go_wp2_with (first | (go_at_call 43; (with_reducible refine (member_Good.calls kk x.f0 x.f1 x.f2 x.f3.f0 x.f3.f1 x.f3.f2 x.f3.f3 A7 c7 x.f4 true _ (HTA.out _) (HCA.out _) hlen7 HK.out).mono ?_); rintro e w5 ⟨rfl, hb5⟩; obtain ⟨hc5, hf5⟩ := bcell hb5; have hM5 := (HM.out.alloc _).below hb5; have HB5 := Aside0.mk ((HB.out.alloc HB.out.size _).trans (hb5.mono (by simp; have := HB.out.size; omega))); have hl5 := hM5.look Tryd.underlying9 Tryd.underlying66 (zeroU8 _) hs1; rw [HV.out] at hl5; simp only [Option.getD_some] at hl5) | (at_mapUpdate; refine MapS.wpput hM5 rfl _ _ _ rfl Tryd.underlying9 Tryd.underlying66 (by unfold maxLen; omega) rfl rfl hs0 rfl ?_; intro w6 hM6 hturn6))
        have HB6 := HB5.out.grown hturn6.grown HB5.out.size (fun j hj => by cases hj; exact Nat.le_refl _)
        have hfin : SoundRel l W (n + 1) w6 := by
         refine ⟨by omega, by omega, ⟨(x.f0.data.toList, x.f2) :: f, ?_, ?_⟩, HB6⟩
         ·rw [show (n + 1).toNat = n.toNat + 1 from by omega, sound_take l n.toNat (by omega) HF.out, ← HX.out]
          unfold stepS
          rw [if_neg (by rintro (h | h | h); rw [HN.out] at h; cases h; rw [HG.out] at h; cases h; rw [HVL.out] at h; exact h.2 rfl)]
         ·rw [show (n + 1).toNat = n.toNat + 1 from by omega]
          exact hM6.ext (fun s => kindsV_put f _ _ s)
        clear hM6 hM5 hc5 hf5 hturn6 hl5
        go_roundw
        case rel => exact ⟨n + 1, by go_num, ⟨hfin⟩⟩
        case measure => simp [intOf]; omega
       ·have q48 : (q != 48) = true := by rw [bne_iff_ne]; exact hq48
        have q48b : (q == 48) = false := beq_eq_false_iff_ne.2 hq48
        have HQ := Aside0.mk hq48
        clear hq48
        go_wp2_with (go_at_call 43; (with_reducible refine (member_Good.calls kk x.f0 x.f1 x.f2 x.f3.f0 x.f3.f1 x.f3.f2 x.f3.f3 A7 c7 x.f4 true _ (HTA.out _) (HCA.out _) hlen7 HK.out).mono ?_); rintro e w5 ⟨rfl, hb5⟩; obtain ⟨hc5, hf5⟩ := bcell hb5; have hM5 := (HM.out.alloc _).below hb5; have HB5 := Aside0.mk ((HB.out.alloc HB.out.size _).trans (hb5.mono (by simp; have := HB.out.size; omega))); have hl5 := hM5.look Tryd.underlying9 Tryd.underlying66 (zeroU8 _) hs1; rw [HV.out] at hl5; simp only [Option.getD_some] at hl5)
        rw [← hQ.out]
        refine ⟨?_, HB5.out⟩
        rw [sound_stop l n.toNat (by omega) HF.out (by rw [← HX.out]; unfold stepS; rw [if_pos (.inr (.inr ⟨H49.out, by rw [HVL.out]; exact HQ.out⟩))])]
        rfl
     ·have e49 : (x.f2 == 49) = false := beq_eq_false_iff_ne.2 h49
      have H49 := Aside0.mk h49
      clear h49
      go_wp2_with (first | (go_at_call 43; (with_reducible refine (member_Good.calls kk x.f0 x.f1 x.f2 x.f3.f0 x.f3.f1 x.f3.f2 x.f3.f3 A7 c7 x.f4 true _ (HTA.out _) (HCA.out _) hlen7 HK.out).mono ?_); rintro e w5 ⟨rfl, hb5⟩; obtain ⟨hc5, hf5⟩ := bcell hb5; have hM5 := (HM.out.alloc _).below hb5; have HB5 := Aside0.mk ((HB.out.alloc HB.out.size _).trans (hb5.mono (by simp; have := HB.out.size; omega)))) | (at_mapUpdate; refine MapS.wpput hM5 rfl _ _ _ rfl Tryd.underlying9 Tryd.underlying66 (by unfold maxLen; omega) rfl rfl hs0 rfl ?_; intro w6 hM6 hturn6))
      have HB6 := HB5.out.grown hturn6.grown HB5.out.size (fun j hj => by cases hj; exact Nat.le_refl _)
      have hfin : SoundRel l W (n + 1) w6 := by
       refine ⟨by omega, by omega, ⟨(x.f0.data.toList, x.f2) :: f, ?_, ?_⟩, HB6⟩
       ·rw [show (n + 1).toNat = n.toNat + 1 from by omega, sound_take l n.toNat (by omega) HF.out, ← HX.out]
        unfold stepS
        rw [if_neg (by rintro (h | h | h); rw [HN.out] at h; cases h; rw [HG.out] at h; cases h; exact H49.out h.1)]
       ·rw [show (n + 1).toNat = n.toNat + 1 from by omega]
        exact hM6.ext (fun s => kindsV_put f _ _ s)
      clear hM6 hM5 hc5 hf5 hturn6
      go_roundw
      case rel => exact ⟨n + 1, by go_num, ⟨hfin⟩⟩
      case measure => simp [intOf]; omega
  ·have c1b : decide (n < (l.length : Int)) = false := decide_eq_false hlt
   clear hM hB
   go_wp2
   rw [← hQ.out]
   refine ⟨?_, HB.out⟩
   rw [sound_end l (f := f) (by rw [show l.length = n.toNat from by omega]; exact HF.out)]
end Go.Proofs.YtfljbidecljlcaaDoor

namespace Go.Proofs.YtfljbidecljlcaaDoor
open Go.RowKit Go.Maps Go.Proofs.YtfljbidecljlcaaDoor.Print Go.Proofs.YtfljbidecljlcaaDoorW.PrintWords Go.Proofs.YtfljbidecljlcaaDoorW.PrintLast Go.Proofs.YtfljbidecljlcaaDoorW.PrintMore
set_option linter.unusedVariables false
set_option linter.unusedSimpArgs false
set_option maxRecDepth 100000 in
set_option maxHeartbeats 1000000 in
theorem Clone_calls (A : Option Addr) (c : Nat) (xs : List Int) (W : World) (hC : Kd.C (Kd.int .u8) W A xs.length xs) (hl : xs.length ≤ 140737488351232) :
  Calls Tryd.prog 59 #[.slice A xs.length c] W fun e W' => ∃ v, e = .returned v ∧ Kd.R (Kd.int .u8) 5 W' W.heap.size (fun _ => True) v xs ∧ Below W.heap.size W W' := by
 rcases A with _ | ad
 ·have h0 : xs = [] := by
   rcases Nat.eq_zero_or_pos xs.length with h | h
   ·exact List.eq_nil_of_length_eq_zero h
   ·obtain ⟨ad, h1, _⟩ := hC.2.2 h
    cases h1
  subst h0
  have hcmp := fun (w : World) => Lib.run_eql_slice_nil (P := Tryd.prog) w 23 5 none 0 c 0 0 Tryd.underlying23
  go_enter Tryd.func59, Tryd.ntmps59
  go_wp2
  go_ret
  exact ⟨_, rfl, Kd.R_nil _ _ _ _ _, Below.refl _ _⟩
 ·have hcmp := fun (w : World) => Lib.run_eql_slice_nil (P := Tryd.prog) w 23 5 (some ad) xs.length c 0 0 Tryd.underlying23
  have hown := own_lit W W.heap.size 5 .u8 [] (Nat.le_refl _) (by decide)
  have HC := Aside0.mk hC
  have HO := Aside0.mk hown
  clear hC hown
  go_enter Tryd.func59, Tryd.ntmps59
  go_wp2_with (at_builtin; refine Kd.R_append_row (Value.int .u8) (0 : Int) (h1 := fun _ => rfl) (w0 := W) W.heap.size rfl _ _ 23 5 (.int .u8 0) 1 rfl Tryd.underlying23 info5 rfl (by decide) (.slice (some ⟨W.heap.size, 0, none⟩) 0 0) [] xs (some ad) xs.length c (fun _ => True) rfl rfl (fun _ _ => trivial) (Kd.R_of_own (enc := Value.int .u8) (h1 := fun _ => rfl) HO.out (fun _ _ => trivial)) (Kd.C_alloc HC.out _) ((Below.refl _ _).alloc (Nat.le_refl _) _) (by simp) (by simp; omega) ?_; intro v1 w1 hr1 hb1 hg1 hat1)
  go_ret
  exact ⟨_, rfl, hr1, hb1⟩
end Go.Proofs.YtfljbidecljlcaaDoor

namespace Go.Proofs.YtfljbidecljlcaaDoor
open Go.RowKit Go.Maps Go.Proofs.YtfljbidecljlcaaDoor.Print Go.Proofs.YtfljbidecljlcaaDoorW.PrintWords Go.Proofs.YtfljbidecljlcaaDoorW.PrintLast Go.Proofs.YtfljbidecljlcaaDoorW.PrintMore
set_option linter.unusedVariables false
set_option linter.unusedSimpArgs false
theorem Find1_calls (x : Node) (A : Option Addr) (n c : Nat) (p : ByteArray) (W : World) :
  Calls Tryd.prog 57 #[.agg #[.string x.f0, .string x.f1, .string x.f2, .int .u8 x.f3, .int .i64 x.f4.f0, .int .i64 x.f4.f1, .int .i64 x.f4.f2, .int .i64 x.f4.f3, .slice A n c], .string p] W fun e W' =>
   e = .returned (.int .i64 (Lib.compareBytes x.f0.data.toList p.data.toList)) ∧ Below W.heap.size W W' := by
 go_enter Tryd.func57, Tryd.ntmps57
 go_wp2_with (go_at_call 58; refine (Tryd.strings_Compare _ _ _).mono ?_; rintro e w' ⟨rfl, rfl⟩)
 go_ret
 exact ⟨rfl, (Below.refl _ _).alloc (Nat.le_refl _) _⟩
theorem rdN_at (l : List Node) (i : Int) (h0 : 0 ≤ i) (h1 : i < l.length) : rd_T40 l i = l[i.toNat]'(by omega) := by
 unfold rd_T40
 rw [List.getD_eq_getElem?_getD, List.getElem?_eq_getElem (by omega)]
 rfl
def FoundAt (l : List Node) (p : ByteArray) (n : Int) (b : Bool) : Prop :=
 0 ≤ n ∧ n ≤ l.length ∧ (b = true ↔ ∃ h : n.toNat < l.length, l[n.toNat].f0.toList = p.toList) ∧ (b = false → ∀ (i : Nat) (hi : i < l.length), l[i].f0.toList ≠ p.toList)
def SearchRel (l : List Node) (p : ByteArray) (W : World) (i j : Int) (wr : World) : Prop :=
 0 ≤ i ∧ i ≤ j ∧ j ≤ l.length ∧ (∀ (t : Nat) (ht : t < l.length), (t : Int) < i → lt l[t].f0 p = true) ∧ (∀ (t : Nat) (ht : t < l.length), j ≤ (t : Int) → lt l[t].f0 p = false) ∧ Below W.heap.size W wr
set_option maxRecDepth 100000 in
set_option maxHeartbeats 2000000 in
theorem Search_calls (A0 : Option Addr) (c0 : Nat) (l : List Node) (p : ByteArray) (W : World) (hC : Kd.C k40 W A0 l.length l) (hr : riseB l = true) (hz : NodesZ l) :
  Calls Tryd.prog 56 #[.slice A0 l.length c0, .string p, .func (.func 57) #[] #[]] W fun e W' => ∃ n b, e = .returned (.tuple #[.int .i64 n, .bool b]) ∧ FoundAt l p n b ∧ Below W.heap.size W W' := by
 have HC := Aside0.mk hC
 have HZ := Aside0.mk hz
 have HRI := Aside0.mk hr
 have hlen : (l.length : Int) ≤ 1000000000000 := by have := hz.1; omega
 clear hC hr hz
 generalize hpost : (fun (e : Ending) (W' : World) => ∃ n b, e = .returned (.tuple #[.int .i64 n, .bool b]) ∧ FoundAt l p n b ∧ Below W.heap.size W W') = Q
 have hQ := Aside0.mk hpost
 clear hpost
 go_enter Tryd.func56, Tryd.ntmps56
 go_wp2
 go_loopw [9, 10] (fun i j wr => ∃ n m : Int, i = .int .i64 n ∧ j = .int .i64 m ∧ Aside0 (SearchRel l p W n m wr)) (fun i j _ => (intOf j - intOf i).toNat)
 case atStart => exact ⟨0, _, rfl, rfl, ⟨⟨by omega, by omega, by omega, fun t ht h => by omega, fun t ht h => by omega, Below.refl _ _⟩⟩⟩
 case round =>
  obtain ⟨n, m, rfl, rfl, HR⟩ := hrel
  have h0 := HR.out.1
  have h1 := HR.out.2.1
  have h2 := HR.out.2.2.1
  have HB := Aside0.mk HR.out.2.2.2.2.2
  by_cases hlt : n < m
  ·have c1 : decide (n < m) = true := decide_eq_true hlt
   have hh0 : 0 ≤ (n + m) / 2 := by omega
   have hh1 : (n + m) / 2 < (l.length : Int) := by omega
   obtain ⟨ad, A7, c7, rfl, x0, x1, x2, x3, x4, x5, x6, x7, x8, hl7, hC7⟩ := at_T40 (Kd.C_below HC.out HB.out) ((n + m) / 2) hh0 hh1
   have hx := rdN_at l _ hh0 hh1
   generalize rd_T40 l ((n + m) / 2) = x at hx x0 x1 x2 x3 x4 x5 x6 x7 x8 hl7 hC7
   have HX := Aside0.mk hx
   clear hx hC7 hl7
   go_wp2_with (go_at_call 57; refine (Find1_calls x A7 x.f5.length c7 p _).mono ?_; rintro e w' ⟨rfl, hb⟩)
   ·have hn : Lib.compareBytes x.f0.data.toList p.data.toList < 0 := by assumption
    have hltx : lt x.f0 p = true := by rw [lt_data]; exact (cmp_neg _ _).1 hn
    have hfin : SearchRel l p W ((n + m) / 2 + 1) m w' := by
     refine ⟨by omega, by omega, h2, fun t ht h => ?_, HR.out.2.2.2.2.1, HB.out.trans (hb.mono HB.out.size)⟩
     rcases Nat.lt_or_ge t ((n + m) / 2).toNat with h3 | h3
     ·have := riseB_at HRI.out t ((n + m) / 2).toNat ht (by omega) h3
      rw [← HX.out] at this
      exact lt_trans this hltx
     ·have e : t = ((n + m) / 2).toNat := by omega
      subst e
      rw [← HX.out]; exact hltx
    clear hltx hn hb
    go_roundw
    case rel => exact ⟨_, _, rfl, rfl, ⟨hfin⟩⟩
    case measure => simp [intOf]; omega
   ·have hn : 0 ≤ Lib.compareBytes x.f0.data.toList p.data.toList := by assumption
    have hltx : lt x.f0 p = false := by
     rw [lt_data, Bool.eq_false_iff]
     intro h
     have := (cmp_neg _ _).2 h
     omega
    have hfin : SearchRel l p W n ((n + m) / 2) w' := by
     refine ⟨h0, by omega, by omega, HR.out.2.2.2.1, fun t ht h => ?_, HB.out.trans (hb.mono HB.out.size)⟩
     rcases Nat.lt_or_ge ((n + m) / 2).toNat t with h3 | h3
     ·have := riseB_at HRI.out ((n + m) / 2).toNat t (by omega) ht h3
      rw [← HX.out] at this
      cases h4 : lt l[t].f0 p with
      | false => rfl
      | true =>
       have := lt_trans this h4
       rw [hltx] at this
       cases this
     ·have e : t = ((n + m) / 2).toNat := by omega
      subst e
      rw [← HX.out]; exact hltx
    clear hltx hn hb
    go_roundw
    case rel => exact ⟨_, _, rfl, rfl, ⟨hfin⟩⟩
    case measure => simp [intOf]; omega
  ·have c1 : decide (n < m) = false := decide_eq_false hlt
   obtain rfl : n = m := by omega
   by_cases hnl : n < (l.length : Int)
   ·have c2 : decide (n < (l.length : Int)) = true := decide_eq_true hnl
    obtain ⟨ad, A7, c7, rfl, x0, x1, x2, x3, x4, x5, x6, x7, x8, hl7, hC7⟩ := at_T40 (Kd.C_below HC.out HB.out) n h0 hnl
    have hx := rdN_at l _ h0 hnl
    generalize rd_T40 l n = x at hx x0 x1 x2 x3 x4 x5 x6 x7 x8 hl7 hC7
    have HX := Aside0.mk hx
    clear hx hC7 hl7
    go_wp2_with (go_at_call 57; refine (Find1_calls x A7 x.f5.length c7 p _).mono ?_; rintro e w' ⟨rfl, hb⟩)
    rw [← hQ.out]
    refine ⟨n, _, rfl, ⟨h0, h2, ?_, ?_⟩, HB.out.trans (hb.mono HB.out.size)⟩
    ·rw [beq_iff_eq, cmp_zero, ← Lib.toList_data, ← Lib.toList_data]
     constructor
     ·intro h; exact ⟨by omega, by rw [← HX.out]; exact h⟩
     ·rintro ⟨_, h⟩; rw [← HX.out] at h; exact h
    ·intro h i hi he
     rw [beq_eq_false_iff_ne, ne_eq, cmp_zero, ← Lib.toList_data, ← Lib.toList_data] at h
     rcases Nat.lt_trichotomy i n.toNat with h3 | h3 | h3
     ·exact lt_ne (HR.out.2.2.2.1 i hi (by omega)) he
     ·subst h3; rw [← HX.out] at he; exact h he
     ·have h4 := riseB_at HRI.out n.toNat i (by omega) hi h3
      have h5 := HR.out.2.2.2.2.1 n.toNat (by omega) (by omega)
      have h6 : lt l[n.toNat].f0 p = lt l[n.toNat].f0 l[i].f0 := by unfold lt; rw [he]
      rw [h6, h4] at h5
      cases h5
   ·have c2 : decide (n < (l.length : Int)) = false := decide_eq_false hnl
    go_wp2
    rw [← hQ.out]
    refine ⟨n, false, rfl, ⟨h0, h2, ⟨fun h => (by cases h), fun ⟨h, _⟩ => absurd h (by omega)⟩, fun _ i hi he => ?_⟩, HB.out⟩
    exact lt_ne (HR.out.2.2.2.1 i hi (by omega)) he
theorem below_put {B : Nat} {a w : World} (h : Below B a w) (g j : Nat) (hg : B ≤ g) (u : Value) : Below B a (w.setCell ⟨g, j, none⟩ u) := h.setCell (p := ⟨g, j, none⟩) hg u
theorem row_put {α : Type} {d : Kd α} {e base B : Nat} {w : World} {v : Value} {xs : List α} (h : d.R e w base (fun k => B ≤ k) v xs) (g j : Nat) (hg : g < B) (u : Value) : d.R e (w.setCell ⟨g, j, none⟩ u) base (fun k => B ≤ k) v xs :=
 Kd.R_far h (p := ⟨g, j, none⟩) (fun k hk e => by have : k = g := e; omega) u
def nodeCells (x : Node) (v : Value) : Array Value := #[.string x.f0, .string x.f1, .string x.f2, .int .u8 x.f3, .int .i64 x.f4.f0, .int .i64 x.f4.f1, .int .i64 x.f4.f2, .int .i64 x.f4.f3, v]
set_option maxRecDepth 100000 in
set_option maxHeartbeats 2000000 in
theorem Find_calls (A0 : Option Addr) (c0 : Nat) (l : List Node) (p : ByteArray) (W : World) (hC : Kd.C k40 W A0 l.length l) (hr : riseB l = true) (hz : NodesZ l) :
  Calls Tryd.prog 36 #[.slice A0 l.length c0, .string p] W fun e W' => ∃ x b v, (match findF l p with | some y => x = y ∧ b = true | none => x = z40 ∧ b = false) ∧ e = .returned (.tuple #[.agg (nodeCells x v), .bool b]) ∧ Kd.R (Kd.int .u8) 5 W' W.heap.size (fun _ => True) v x.f5 ∧ Below W.heap.size W W' := by
 have cS := fun W2 (h : Kd.C k40 W2 A0 l.length l) => Search_calls A0 c0 l p W2 h hr hz
 have HC := Aside0.mk hC
 have HZ := Aside0.mk hz
 have HS := Aside0.mk cS
 have HRI := Aside0.mk hr
 have hlen : (l.length : Int) ≤ 1000000000000 := by have := hz.1; omega
 clear hC hz cS hr
 generalize hpost : (fun (e : Ending) (W' : World) => ∃ x b v, (match findF l p with | some y => x = y ∧ b = true | none => x = z40 ∧ b = false) ∧ e = .returned (.tuple #[.agg (nodeCells x v), .bool b]) ∧ Kd.R (Kd.int .u8) 5 W' W.heap.size (fun _ => True) v x.f5 ∧ Below W.heap.size W W') = Q
 have hQ := Aside0.mk hpost
 clear hpost
 go_enter Tryd.func36, Tryd.ntmps36
 go_wp2_with (first
  | (go_at_call 56; refine (HS.out _ (Kd.C_alloc HC.out _)).mono ?_; rintro e w1 ⟨n, b, rfl, hF, hb1⟩; have HF := Aside0.mk hF; clear hF; obtain ⟨hc1, hf1⟩ := bcell hb1; have hz1 : W.heap.size < w1.heap.size := Nat.lt_of_lt_of_le (by simp) hb1.size; have HB1 := Aside0.mk hb1; clear hb1; cases b; all_goals (first | (obtain ⟨hnl, he⟩ := HF.out.2.2.1.1 rfl; have h0 := HF.out.1; have h1 : n < (l.length : Int) := (by omega); have HE := Aside0.mk he; clear he; obtain ⟨ad, A7, c7, rfl, x0, x1, x2, x3, x4, x5, x6, x7, x8, hl7, hC7⟩ := at_T40 (Kd.C_below HC.out (((Below.refl _ _).alloc (Nat.le_refl _) _).trans (HB1.out.mono (by simp)))) n h0 h1; have hx := rdN_at l _ h0 h1; generalize rd_T40 l n = x at hx x0 x1 x2 x3 x4 x5 x6 x7 x8 hl7 hC7; have HX := Aside0.mk hx; have HC7 := Aside0.mk hC7; clear hx hC7) | skip))
  | (go_at_call 59; refine (Clone_calls A7 c7 x.f5 _ (Kd.C_alloc HC7.out _) (by rw [HX.out]; exact (HZ.out.2 _ (List.getElem_mem _)).2.2.2)).mono ?_; rintro e w2 ⟨v, rfl, hR2, hb2⟩; obtain ⟨Av, cv, rfl, hlv, hCv⟩ := Kd.R_reads hR2; clear hlv hCv; obtain ⟨hc2, hf2⟩ := bcell hb2; have HR2 := Aside0.mk hR2; have HB2 := Aside0.mk hb2; clear hR2 hb2))
 ·have hB1 := ((Below.refl W.heap.size W).alloc (Nat.le_refl _) _).trans (HB1.out.mono (by simp))
  refine bodyPost_ret (v := .tuple #[.agg (nodeCells z40 (.slice none 0 0)), .bool false]) (by simp [results, Tryd.results36, go_sem, hc1, hz1, nodeCells, z40, z38]) rfl ?_
  have hfn := findF_none p (HF.out.2.2.2 rfl)
  rw [← hQ.out]
  refine ⟨z40, false, .slice none 0 0, by rw [hfn]; exact ⟨rfl, rfl⟩, rfl, Kd.R_nil _ _ _ _ _, ?_⟩
  repeat (with_reducible refine below_put ?_ _ _ (Nat.le_refl _) _)
  exact hB1
 ·have hB1 := ((Below.refl W.heap.size W).alloc (Nat.le_refl _) _).trans (HB1.out.mono (by simp))
  have hB2 := (hB1.alloc (by have := hB1.size; omega) _).trans (HB2.out.mono (by have := hB1.size; simp; omega))
  have hw2 := fun j => (hc2 W.heap.size j (by simp; omega)).trans ((((Below.refl w1.heap.size w1).alloc (Nat.le_refl _) _).cell (p := ⟨W.heap.size, j, none⟩) hz1).trans (hc1 W.heap.size j (by simp)))
  have hne1 : ¬ w1.heap.size = W.heap.size := by omega
  have hne2 : ¬ W.heap.size = w1.heap.size := by omega
  clear hc1 hf1 hc2 hf2
  refine bodyPost_ret (v := .tuple #[.agg (nodeCells x (.slice Av x.f5.length cv)), .bool true]) (by simp [results, Tryd.results36, go_sem, hw2, hne1, hne2, nodeCells]) rfl ?_
  have hfn := findF_at HRI.out p n.toNat hnl HE.out
  rw [← hQ.out]
  refine ⟨x, true, .slice Av x.f5.length cv, by rw [hfn, ← HX.out]; exact ⟨rfl, rfl⟩, rfl, ?_, ?_⟩
  ·have hR : (Kd.int .u8).R 5 w2 (w1.heap.size + 1) (fun k => w1.heap.size + 1 ≤ k) (.slice Av x.f5.length cv) x.f5 := Kd.R_mono (Kd.R_bound (by have := HR2.out; simpa using this)) (fun k hk => hk.2.1)
   refine Kd.R_lower (base := w1.heap.size + 1) (Kd.R_mono (ok := fun k => w1.heap.size + 1 ≤ k) ?_ (fun _ _ => trivial)) (by omega)
   repeat (with_reducible refine row_put ?_ _ _ (by omega) _)
   exact hR
  ·repeat (with_reducible refine below_put ?_ _ _ (by omega) _)
   exact hB2
end Go.Proofs.YtfljbidecljlcaaDoor

namespace Go.Proofs.YtfljbidecljlcaaDoor.Print
open Go.RowKit Go.Proofs.YtfljbidecljlcaaDoorW.PrintWords Go.Proofs.YtfljbidecljlcaaDoorW.PrintLast Go.Proofs.YtfljbidecljlcaaDoorW.PrintMore
attribute [local go_sem] max2_int min2_int max_two min_two max_three min_three max_four min_four   -- for this text's walks alone
set_option linter.unusedVariables false
set_option linter.unusedSimpArgs false
def bindleref08_Find.l0 : Nat → List (S40) → ByteArray → Int → Option (ByteArray × ByteArray × ByteArray × Int × Int × Int × Int × Int × List Int × Bool)
 | 0, _, _, _ => none
 | k + 1, x0, x1, x6 => if x6 < (x0.length : Int) then (if 0 ≤ x6 then (if ((rd_T40 x0 x6).f0).toList = x1.toList then (some ((rd_T40 x0 x6).f0, (rd_T40 x0 x6).f1, (rd_T40 x0 x6).f2, (rd_T40 x0 x6).f3, (rd_T40 x0 x6).f4.f0, (rd_T40 x0 x6).f4.f1, (rd_T40 x0 x6).f4.f2, (rd_T40 x0 x6).f4.f3, (rd_T40 x0 x6).f5, true)) else (bindleref08_Find.l0 k x0 x1 (wrap64 (x6 + 1)))) else (none)) else (some ((⟨#[]⟩ : ByteArray), (⟨#[]⟩ : ByteArray), (⟨#[]⟩ : ByteArray), 0, 0, 0, 0, 0, ([] : List Int), false))
def bindleref08_Find.f (k : Nat) (l0 : List (S40)) (a1 : ByteArray) : Option (ByteArray × ByteArray × ByteArray × Int × Int × Int × Int × Int × List Int × Bool) := bindleref08_Find.l0 k l0 a1 0
set_option maxHeartbeats 8000000 in
set_option maxRecDepth 100000 in
theorem bindleref08_Find.calls (k : Nat) (P0_ : Nat → Prop) (A0 : Option Addr) (c0 : Nat) (l0 : List (S40)) (a1 : ByteArray) (r1 : ByteArray) (r2 : ByteArray) (r3 : ByteArray) (r4 : Int) (r5 : Int) (r6 : Int) (r7 : Int) (r8 : Int) (r9 : List Int) (r10 : Bool) (w : World) (hs0 : Kd.V k40 40 w w.heap.size (fun k_ => P0_ k_) (.slice A0 l0.length c0) l0) (h : bindleref08_Find.f k l0 a1 = some (r1, r2, r3, r4, r5, r6, r7, r8, r9, r10)) :
  Calls Tryd.prog 23 #[.slice A0 l0.length c0, .string a1] w fun e w' => ∃ v8_ : Value, e = .returned (.tuple #[.agg #[.string r1, .string r2, .string r3, .int .u8 r4, .int .i64 r5, .int .i64 r6, .int .i64 r7, .int .i64 r8, v8_], .bool r10]) ∧ Kd.V (Kd.int .u8) 5 w' w.heap.size (fun k_ => (P0_ k_ ∨ w.heap.size ≤ k_)) v8_ r9 ∧ Below w.heap.size w w' := by
 have hu40 := Tryd.underlying40
 have HO0 := A0_ (show Kd.V k40 40 w w.heap.size (fun k_ => (P0_ k_ ∨ w.heap.size ≤ k_)) (.slice A0 l0.length c0) l0 from Kd.V_mono hs0 (fun k_ hk => .inl hk))
 have HB := A0_ (Below.refl w.heap.size w)
 have H : (bindleref08_Find.l0 k l0 a1 0) = some (r1, r2, r3, r4, r5, r6, r7, r8, r9, r10) := h
 clear h
 have H' := A0_ H
 clear H
 go_enter Tryd.func23, Tryd.ntmps23
 go_wp2_with (first | ((with_reducible refine gate_dst (N := 4) rfl ?_); refine box_event ?hg (N := 4) ?hd (cs := #[.string (⟨#[]⟩ : ByteArray), .string (⟨#[]⟩ : ByteArray), .string (⟨#[]⟩ : ByteArray), .int .u8 0, .int .i64 0, .int .i64 0, .int .i64 0, .int .i64 0, .slice none 0 0]) (t := 40) ?hr ?_; (case hd => rfl); (case hg => rfl); (case hr => first | (go_simp; done) | (go_simp; rfl)); intro gb169 hg w3 hbox hb; have n0_ := A0_ (Vb_ (Kd.V_elderB (wV_ HO0.out) gb169 (Nat.le_of_eq hg.symm)) hb); have n1_ := A0_ (below_step (wb_ HB.out) hb); have n2_ := A0_ (hbox); have n3_ := A0_ ((by rw [hg]; exact (below_size (wb_ HB.out)) : w.heap.size ≤ gb169)); have n4_ := A0_ ((by rw [hg]; exact (below_size (wb_ HB.out)) : w.heap.size ≤ gb169)); clear HO0; clear HB; have HO0 := n0_; have HB := n1_; have BK169 := n2_; have GW169 := n3_; have GE169 := n4_; clear n0_ n1_ n2_ n3_ n4_; clear hb hbox hg))
 go_loopg [6] k (fun kq v6 w' => ∃ (x6_1 : Int) (x170000_1 : ByteArray) (x170001_1 : ByteArray) (x170002_1 : ByteArray) (x170003_1 : Int) (x170004_1 : Int) (x170005_1 : Int) (x170006_1 : Int) (x170007_1 : Int), v6 = .int .i64 x6_1 ∧ Aside0 (bindleref08_Find.l0 kq l0 a1 x6_1 = some (r1, r2, r3, r4, r5, r6, r7, r8, r9, r10)) ∧ Aside0 (kq ≤ k) ∧ Aside0 (Kd.V k40 40 w' w.heap.size (fun k_ => (P0_ k_ ∨ w.heap.size ≤ k_) ∧ k_ ≠ gb169) (.slice A0 l0.length c0) l0) ∧ Aside0 (w'.heap[gb169]? = some (.cells #[.string x170000_1, .string x170001_1, .string x170002_1, .int .u8 x170003_1, .int .i64 x170004_1, .int .i64 x170005_1, .int .i64 x170006_1, .int .i64 x170007_1, (.slice none 0 0)] 40 (0, 0))) ∧ Aside0 (Below w.heap.size w w'))
 case atStart => exact ⟨(0), ((⟨#[]⟩ : ByteArray)), ((⟨#[]⟩ : ByteArray)), ((⟨#[]⟩ : ByteArray)), (0), (0), (0), (0), (0), wr_, H', ⟨Nat.le_refl _⟩, ⟨wV_ HO0.out⟩, ⟨wB_ BK169.out⟩, ⟨wb1_ HB.out GE169.out⟩⟩
 case round =>
  clear H'
  try clear c2
  try clear p2
  obtain ⟨x6_1, x170000_1, x170001_1, x170002_1, x170003_1, x170004_1, x170005_1, x170006_1, x170007_1, rfl, HA, HK1, HO_0, BK169, HB⟩ := hrel
  cases gk with
  | zero => exact absurd HA.out (by simp [bindleref08_Find.l0])
  | succ k1 =>
   have H := HA.out
   clear HA
   simp only [bindleref08_Find.l0] at H
   by_cases c4 : x6_1 < (l0.length : Int)
   rotate_left
   ·rw [if_neg c4] at H
    have c4b0 : decide (x6_1 < (l0.length : Int)) = false := decide_eq_false c4
    clear c4
    simp only [Option.some.injEq, Prod.mk.injEq] at H
    obtain ⟨rfl, rfl, rfl, rfl, rfl, rfl, rfl, rfl, rfl, rfl⟩ := H
    have hcz8_0 : wr.cell? ⟨gb169, 0, none⟩ = some (.string x170000_1) := (bc_ BK169.out 0).trans rfl
    have hcz8_1 : wr.cell? ⟨gb169, 1, none⟩ = some (.string x170001_1) := (bc_ BK169.out 1).trans rfl
    have hcz8_2 : wr.cell? ⟨gb169, 2, none⟩ = some (.string x170002_1) := (bc_ BK169.out 2).trans rfl
    have hcz8_3 : wr.cell? ⟨gb169, 3, none⟩ = some (.int .u8 x170003_1) := (bc_ BK169.out 3).trans rfl
    have hcz8_4 : wr.cell? ⟨gb169, 4, none⟩ = some (.int .i64 x170004_1) := (bc_ BK169.out 4).trans rfl
    have hcz8_5 : wr.cell? ⟨gb169, 5, none⟩ = some (.int .i64 x170005_1) := (bc_ BK169.out 5).trans rfl
    have hcz8_6 : wr.cell? ⟨gb169, 6, none⟩ = some (.int .i64 x170006_1) := (bc_ BK169.out 6).trans rfl
    have hcz8_7 : wr.cell? ⟨gb169, 7, none⟩ = some (.int .i64 x170007_1) := (bc_ BK169.out 7).trans rfl
    have hcz8_8 : wr.cell? ⟨gb169, 8, none⟩ = some (.slice none 0 0) := (bc_ BK169.out 8).trans rfl
    have hfz8_0 := bf_ BK169.out 0
    have hfz8_1 := bf_ BK169.out 1
    have hfz8_2 := bf_ BK169.out 2
    have hfz8_3 := bf_ BK169.out 3
    have hfz8_4 := bf_ BK169.out 4
    have hfz8_5 := bf_ BK169.out 5
    have hfz8_6 := bf_ BK169.out 6
    have hfz8_7 := bf_ BK169.out 7
    have hfz8_8 := bf_ BK169.out 8
    go_wp2
    refine bodyPost_ret (results_ct rfl _ _ gb169 40 #[.string (⟨#[]⟩ : ByteArray), .string (⟨#[]⟩ : ByteArray), .string (⟨#[]⟩ : ByteArray), .int .u8 0, .int .i64 0, .int .i64 0, .int .i64 0, .int .i64 0, .slice none 0 0] (0, 0) _ rfl (by (with_reducible repeat (first | refine blk_drewN ?_ _ | refine blk_drew ?_ | refine blk_alloc ?_ _)); refine blk_put (cs := #[.string (⟨#[]⟩ : ByteArray), .string (⟨#[]⟩ : ByteArray), .string (⟨#[]⟩ : ByteArray), .int .u8 0, .int .i64 0, .int .i64 0, .int .i64 0, .int .i64 0, .slice none 0 0]) ?_ 8 _ rfl; (with_reducible repeat (first | refine blk_drewN ?_ _ | refine blk_drew ?_ | refine blk_alloc ?_ _)); refine blk_put (cs := #[.string (⟨#[]⟩ : ByteArray), .string (⟨#[]⟩ : ByteArray), .string (⟨#[]⟩ : ByteArray), .int .u8 0, .int .i64 0, .int .i64 0, .int .i64 0, .int .i64 x170007_1, .slice none 0 0]) ?_ 7 _ rfl; (with_reducible repeat (first | refine blk_drewN ?_ _ | refine blk_drew ?_ | refine blk_alloc ?_ _)); refine blk_put (cs := #[.string (⟨#[]⟩ : ByteArray), .string (⟨#[]⟩ : ByteArray), .string (⟨#[]⟩ : ByteArray), .int .u8 0, .int .i64 0, .int .i64 0, .int .i64 x170006_1, .int .i64 x170007_1, .slice none 0 0]) ?_ 6 _ rfl; (with_reducible repeat (first | refine blk_drewN ?_ _ | refine blk_drew ?_ | refine blk_alloc ?_ _)); refine blk_put (cs := #[.string (⟨#[]⟩ : ByteArray), .string (⟨#[]⟩ : ByteArray), .string (⟨#[]⟩ : ByteArray), .int .u8 0, .int .i64 0, .int .i64 x170005_1, .int .i64 x170006_1, .int .i64 x170007_1, .slice none 0 0]) ?_ 5 _ rfl; (with_reducible repeat (first | refine blk_drewN ?_ _ | refine blk_drew ?_ | refine blk_alloc ?_ _)); refine blk_put (cs := #[.string (⟨#[]⟩ : ByteArray), .string (⟨#[]⟩ : ByteArray), .string (⟨#[]⟩ : ByteArray), .int .u8 0, .int .i64 x170004_1, .int .i64 x170005_1, .int .i64 x170006_1, .int .i64 x170007_1, .slice none 0 0]) ?_ 4 _ rfl; (with_reducible repeat (first | refine blk_drewN ?_ _ | refine blk_drew ?_ | refine blk_alloc ?_ _)); refine blk_put (cs := #[.string (⟨#[]⟩ : ByteArray), .string (⟨#[]⟩ : ByteArray), .string (⟨#[]⟩ : ByteArray), .int .u8 x170003_1, .int .i64 x170004_1, .int .i64 x170005_1, .int .i64 x170006_1, .int .i64 x170007_1, .slice none 0 0]) ?_ 3 _ rfl; (with_reducible repeat (first | refine blk_drewN ?_ _ | refine blk_drew ?_ | refine blk_alloc ?_ _)); refine blk_put (cs := #[.string (⟨#[]⟩ : ByteArray), .string (⟨#[]⟩ : ByteArray), .string x170002_1, .int .u8 x170003_1, .int .i64 x170004_1, .int .i64 x170005_1, .int .i64 x170006_1, .int .i64 x170007_1, .slice none 0 0]) ?_ 2 _ rfl; (with_reducible repeat (first | refine blk_drewN ?_ _ | refine blk_drew ?_ | refine blk_alloc ?_ _)); refine blk_put (cs := #[.string (⟨#[]⟩ : ByteArray), .string x170001_1, .string x170002_1, .int .u8 x170003_1, .int .i64 x170004_1, .int .i64 x170005_1, .int .i64 x170006_1, .int .i64 x170007_1, .slice none 0 0]) ?_ 1 _ rfl; (with_reducible repeat (first | refine blk_drewN ?_ _ | refine blk_drew ?_ | refine blk_alloc ?_ _)); refine blk_put (cs := #[.string x170000_1, .string x170001_1, .string x170002_1, .int .u8 x170003_1, .int .i64 x170004_1, .int .i64 x170005_1, .int .i64 x170006_1, .int .i64 x170007_1, .slice none 0 0]) ?_ 0 _ rfl; (with_reducible repeat (first | refine blk_drewN ?_ _ | refine blk_drew ?_ | refine blk_alloc ?_ _)); exact BK169.out) Tryd.underlying40 rfl (by kernel_rfl)) rfl ?_
    exact ⟨_, we_, (Kd.V_nil _ _ _ _ _), wb1_ HB.out GE169.out⟩
   rw [if_pos c4] at H
   have c4b0 : decide (x6_1 < (l0.length : Int)) = true := decide_eq_true c4
   clear c4
   by_cases c5 : 0 ≤ x6_1
   rotate_left
   ·rw [if_neg c5] at H
    exact absurd H (by simp)
   rw [if_pos c5] at H
   have c5b0 : decide (0 ≤ x6_1) = true := decide_eq_true c5
   clear c5
   by_cases c6 : ((rd_T40 l0 x6_1).f0).toList = a1.toList
   rotate_left
   ·rw [if_neg c6] at H
    have c6b0 : (((rd_T40 l0 x6_1).f0).toList == a1.toList) = false := beq_eq_false_iff_ne.mpr c6
    have c6b1 : (((rd_T40 l0 x6_1).f0).toList != a1.toList) = true := bne_iff_ne.mpr c6
    have H' := A0_ H
    clear H
    have p170 : 0 ≤ (x6_1 : Int) := wd_
    have q170 : x6_1 < (l0.length : Int) := wd_
    obtain ⟨ad170, A170_8, c170_8, e170, hx170_0, hx170_1, hx170_2, hx170_3, hx170_4, hx170_5, hx170_6, hx170_7, hx170_8, hl170_8, hi170_8⟩ := at_T40 (Kd.V_reads' HO_0.out).2.2 x6_1 p170 q170
    cases e170
    obtain ⟨ce170, hce170, hMe170, hcc170⟩ := Kd.V_get HO_0.out z40 x6_1 p170 (by first | exact q170 | exact wd_ | (have e_ := (Kd.V_reads' HO_0.out).1; omega))
    obtain ⟨ua170_8, uc170_8, rfl, ul170_8, ge170_8⟩ := k40_openF hMe170
    have hv170_8 := hcc170 8 _ rfl
    rw [add_field _ _ 8 (by omega)] at hv170_8
    replace hv170_8 := Option.some.inj (hv170_8.symm.trans hx170_8)
    injection hv170_8 with hva_ hvn_ hvc_
    rw [hva_] at ge170_8
    rw [hvc_] at ul170_8
    have HL170_8 := A0_ (show Kd.V (Kd.int .u8) 5 _ w.heap.size _ _ ((rd_T40 l0 x6_1).f5) from Kd.V_mk ul170_8 ge170_8)
    clear hva_ hvn_ hvc_ ge170_8 ul170_8
    clear hcc170 hce170
    have HR170_8 := A0_ hi170_8
    have HC170_8 := A0_ hl170_8
    clear hi170_8 hl170_8
    replace p170 := eq_true p170
    replace q170 := eq_true q170
    go_wp2
    go_roundg k1
    case measure => have := HK1.out; omega
    case rel => exact ⟨(wrap64 (x6_1 + 1)), (x170000_1), (x170001_1), (x170002_1), (x170003_1), (x170004_1), (x170005_1), (x170006_1), (x170007_1), wr_, H', ⟨by have := HK1.out; omega⟩, ⟨wV_ HO_0.out⟩, ⟨wB_ BK169.out⟩, ⟨wb1_ HB.out GE169.out⟩⟩
   rw [if_pos c6] at H
   have c6b0 : (((rd_T40 l0 x6_1).f0).toList == a1.toList) = true := beq_iff_eq.mpr c6
   have c6b1 : (((rd_T40 l0 x6_1).f0).toList != a1.toList) = false := bne_eq_false_iff_eq.mpr c6
   clear c6
   simp only [Option.some.injEq, Prod.mk.injEq] at H
   obtain ⟨rfl, rfl, rfl, rfl, rfl, rfl, rfl, rfl, rfl, rfl⟩ := H
   have p170 : 0 ≤ (x6_1 : Int) := wd_
   have q170 : x6_1 < (l0.length : Int) := wd_
   obtain ⟨ad170, A170_8, c170_8, e170, hx170_0, hx170_1, hx170_2, hx170_3, hx170_4, hx170_5, hx170_6, hx170_7, hx170_8, hl170_8, hi170_8⟩ := at_T40 (Kd.V_reads' HO_0.out).2.2 x6_1 p170 q170
   cases e170
   obtain ⟨ce170, hce170, hMe170, hcc170⟩ := Kd.V_get HO_0.out z40 x6_1 p170 (by first | exact q170 | exact wd_ | (have e_ := (Kd.V_reads' HO_0.out).1; omega))
   obtain ⟨ua170_8, uc170_8, rfl, ul170_8, ge170_8⟩ := k40_openF hMe170
   have hv170_8 := hcc170 8 _ rfl
   rw [add_field _ _ 8 (by omega)] at hv170_8
   replace hv170_8 := Option.some.inj (hv170_8.symm.trans hx170_8)
   injection hv170_8 with hva_ hvn_ hvc_
   rw [hva_] at ge170_8
   rw [hvc_] at ul170_8
   have HL170_8 := A0_ (show Kd.V (Kd.int .u8) 5 _ w.heap.size _ _ ((rd_T40 l0 x6_1).f5) from Kd.V_mk ul170_8 ge170_8)
   clear hva_ hvn_ hvc_ ge170_8 ul170_8
   clear hcc170 hce170
   have HR170_8 := A0_ hi170_8
   have HC170_8 := A0_ hl170_8
   clear hi170_8 hl170_8
   replace p170 := eq_true p170
   replace q170 := eq_true q170
   have p171 : 0 ≤ (x6_1 : Int) := wd_
   have q171 : x6_1 < (l0.length : Int) := wd_
   obtain ⟨ad171, A171_8, c171_8, e171, hx171_0, hx171_1, hx171_2, hx171_3, hx171_4, hx171_5, hx171_6, hx171_7, hx171_8, hl171_8, hi171_8⟩ := at_T40 (Kd.V_reads' HO_0.out).2.2 x6_1 p171 q171
   obtain rfl : ad170 = ad171 := (by injection e171)
   obtain ⟨ce171, hce171, hMe171, hcc171⟩ := Kd.V_get HO_0.out z40 x6_1 p171 (by first | exact q171 | exact wd_ | (have e_ := (Kd.V_reads' HO_0.out).1; omega))
   obtain ⟨ua171_8, uc171_8, rfl, ul171_8, ge171_8⟩ := k40_openF hMe171
   have hv171_8 := hcc171 8 _ rfl
   rw [add_field _ _ 8 (by omega)] at hv171_8
   replace hv171_8 := Option.some.inj (hv171_8.symm.trans hx171_8)
   injection hv171_8 with hva_ hvn_ hvc_
   rw [hva_] at ge171_8
   rw [hvc_] at ul171_8
   have HL171_8 := A0_ (show Kd.V (Kd.int .u8) 5 _ w.heap.size _ _ ((rd_T40 l0 x6_1).f5) from Kd.V_mk ul171_8 ge171_8)
   clear hva_ hvn_ hvc_ ge171_8 ul171_8
   clear hcc171 hce171
   have HR171_8 := A0_ hi171_8
   have HC171_8 := A0_ hl171_8
   clear hi171_8 hl171_8
   replace p171 := eq_true p171
   replace q171 := eq_true q171
   have ea_ := Option.some.inj (hx170_8.symm.trans hx171_8)
   injection ea_ with ea_ en_ ec_
   subst ea_
   subst ec_
   clear en_
   have hcz7_0 : wr.cell? ⟨gb169, 0, none⟩ = some (.string x170000_1) := (bc_ BK169.out 0).trans rfl
   have hcz7_1 : wr.cell? ⟨gb169, 1, none⟩ = some (.string x170001_1) := (bc_ BK169.out 1).trans rfl
   have hcz7_2 : wr.cell? ⟨gb169, 2, none⟩ = some (.string x170002_1) := (bc_ BK169.out 2).trans rfl
   have hcz7_3 : wr.cell? ⟨gb169, 3, none⟩ = some (.int .u8 x170003_1) := (bc_ BK169.out 3).trans rfl
   have hcz7_4 : wr.cell? ⟨gb169, 4, none⟩ = some (.int .i64 x170004_1) := (bc_ BK169.out 4).trans rfl
   have hcz7_5 : wr.cell? ⟨gb169, 5, none⟩ = some (.int .i64 x170005_1) := (bc_ BK169.out 5).trans rfl
   have hcz7_6 : wr.cell? ⟨gb169, 6, none⟩ = some (.int .i64 x170006_1) := (bc_ BK169.out 6).trans rfl
   have hcz7_7 : wr.cell? ⟨gb169, 7, none⟩ = some (.int .i64 x170007_1) := (bc_ BK169.out 7).trans rfl
   have hcz7_8 : wr.cell? ⟨gb169, 8, none⟩ = some (.slice none 0 0) := (bc_ BK169.out 8).trans rfl
   have hfz7_0 := bf_ BK169.out 0
   have hfz7_1 := bf_ BK169.out 1
   have hfz7_2 := bf_ BK169.out 2
   have hfz7_3 := bf_ BK169.out 3
   have hfz7_4 := bf_ BK169.out 4
   have hfz7_5 := bf_ BK169.out 5
   have hfz7_6 := bf_ BK169.out 6
   have hfz7_7 := bf_ BK169.out 7
   have hfz7_8 := bf_ BK169.out 8
   go_wp2
   refine bodyPost_ret (results_ct rfl _ _ gb169 40 #[.string ((rd_T40 l0 x6_1).f0), .string ((rd_T40 l0 x6_1).f1), .string ((rd_T40 l0 x6_1).f2), .int .u8 ((rd_T40 l0 x6_1).f3), .int .i64 ((rd_T40 l0 x6_1).f4.f0), .int .i64 ((rd_T40 l0 x6_1).f4.f1), .int .i64 ((rd_T40 l0 x6_1).f4.f2), .int .i64 ((rd_T40 l0 x6_1).f4.f3), .slice A170_8 ((rd_T40 l0 x6_1).f5).length c170_8] (0, 0) _ rfl (by (with_reducible repeat (first | refine blk_drewN ?_ _ | refine blk_drew ?_ | refine blk_alloc ?_ _)); refine blk_put (cs := #[.string ((rd_T40 l0 x6_1).f0), .string ((rd_T40 l0 x6_1).f1), .string ((rd_T40 l0 x6_1).f2), .int .u8 ((rd_T40 l0 x6_1).f3), .int .i64 ((rd_T40 l0 x6_1).f4.f0), .int .i64 ((rd_T40 l0 x6_1).f4.f1), .int .i64 ((rd_T40 l0 x6_1).f4.f2), .int .i64 ((rd_T40 l0 x6_1).f4.f3), .slice none 0 0]) ?_ 8 _ rfl; (with_reducible repeat (first | refine blk_drewN ?_ _ | refine blk_drew ?_ | refine blk_alloc ?_ _)); refine blk_put (cs := #[.string ((rd_T40 l0 x6_1).f0), .string ((rd_T40 l0 x6_1).f1), .string ((rd_T40 l0 x6_1).f2), .int .u8 ((rd_T40 l0 x6_1).f3), .int .i64 ((rd_T40 l0 x6_1).f4.f0), .int .i64 ((rd_T40 l0 x6_1).f4.f1), .int .i64 ((rd_T40 l0 x6_1).f4.f2), .int .i64 x170007_1, .slice none 0 0]) ?_ 7 _ rfl; (with_reducible repeat (first | refine blk_drewN ?_ _ | refine blk_drew ?_ | refine blk_alloc ?_ _)); refine blk_put (cs := #[.string ((rd_T40 l0 x6_1).f0), .string ((rd_T40 l0 x6_1).f1), .string ((rd_T40 l0 x6_1).f2), .int .u8 ((rd_T40 l0 x6_1).f3), .int .i64 ((rd_T40 l0 x6_1).f4.f0), .int .i64 ((rd_T40 l0 x6_1).f4.f1), .int .i64 x170006_1, .int .i64 x170007_1, .slice none 0 0]) ?_ 6 _ rfl; (with_reducible repeat (first | refine blk_drewN ?_ _ | refine blk_drew ?_ | refine blk_alloc ?_ _)); refine blk_put (cs := #[.string ((rd_T40 l0 x6_1).f0), .string ((rd_T40 l0 x6_1).f1), .string ((rd_T40 l0 x6_1).f2), .int .u8 ((rd_T40 l0 x6_1).f3), .int .i64 ((rd_T40 l0 x6_1).f4.f0), .int .i64 x170005_1, .int .i64 x170006_1, .int .i64 x170007_1, .slice none 0 0]) ?_ 5 _ rfl; (with_reducible repeat (first | refine blk_drewN ?_ _ | refine blk_drew ?_ | refine blk_alloc ?_ _)); refine blk_put (cs := #[.string ((rd_T40 l0 x6_1).f0), .string ((rd_T40 l0 x6_1).f1), .string ((rd_T40 l0 x6_1).f2), .int .u8 ((rd_T40 l0 x6_1).f3), .int .i64 x170004_1, .int .i64 x170005_1, .int .i64 x170006_1, .int .i64 x170007_1, .slice none 0 0]) ?_ 4 _ rfl; (with_reducible repeat (first | refine blk_drewN ?_ _ | refine blk_drew ?_ | refine blk_alloc ?_ _)); refine blk_put (cs := #[.string ((rd_T40 l0 x6_1).f0), .string ((rd_T40 l0 x6_1).f1), .string ((rd_T40 l0 x6_1).f2), .int .u8 x170003_1, .int .i64 x170004_1, .int .i64 x170005_1, .int .i64 x170006_1, .int .i64 x170007_1, .slice none 0 0]) ?_ 3 _ rfl; (with_reducible repeat (first | refine blk_drewN ?_ _ | refine blk_drew ?_ | refine blk_alloc ?_ _)); refine blk_put (cs := #[.string ((rd_T40 l0 x6_1).f0), .string ((rd_T40 l0 x6_1).f1), .string x170002_1, .int .u8 x170003_1, .int .i64 x170004_1, .int .i64 x170005_1, .int .i64 x170006_1, .int .i64 x170007_1, .slice none 0 0]) ?_ 2 _ rfl; (with_reducible repeat (first | refine blk_drewN ?_ _ | refine blk_drew ?_ | refine blk_alloc ?_ _)); refine blk_put (cs := #[.string ((rd_T40 l0 x6_1).f0), .string x170001_1, .string x170002_1, .int .u8 x170003_1, .int .i64 x170004_1, .int .i64 x170005_1, .int .i64 x170006_1, .int .i64 x170007_1, .slice none 0 0]) ?_ 1 _ rfl; (with_reducible repeat (first | refine blk_drewN ?_ _ | refine blk_drew ?_ | refine blk_alloc ?_ _)); refine blk_put (cs := #[.string x170000_1, .string x170001_1, .string x170002_1, .int .u8 x170003_1, .int .i64 x170004_1, .int .i64 x170005_1, .int .i64 x170006_1, .int .i64 x170007_1, .slice none 0 0]) ?_ 0 _ rfl; (with_reducible repeat (first | refine blk_drewN ?_ _ | refine blk_drew ?_ | refine blk_alloc ?_ _)); exact BK169.out) Tryd.underlying40 rfl (by kernel_rfl)) rfl ?_
   exact ⟨_, we_, by (with_reducible repeat (first | apply Va_ | apply VN_ | apply V1_)); exact Kd.V_mono (Kd.V_far (p := ⟨gb169, 8, none⟩) (Kd.V_far (p := ⟨gb169, 7, none⟩) (Kd.V_far (p := ⟨gb169, 6, none⟩) (Kd.V_far (p := ⟨gb169, 5, none⟩) (Kd.V_far (p := ⟨gb169, 4, none⟩) (Kd.V_far (p := ⟨gb169, 3, none⟩) (Kd.V_far (p := ⟨gb169, 2, none⟩) (Kd.V_far (p := ⟨gb169, 1, none⟩) (Kd.V_far (p := ⟨gb169, 0, none⟩) (Kd.V_mono HL171_8.out (fun k_ hk => (⟨hk, hk.2⟩ : _ ∧ k_ ≠ gb169))) (fun _ hk => hk.2) (.string ((rd_T40 l0 x6_1).f0))) (fun _ hk => hk.2) (.string ((rd_T40 l0 x6_1).f1))) (fun _ hk => hk.2) (.string ((rd_T40 l0 x6_1).f2))) (fun _ hk => hk.2) (.int .u8 ((rd_T40 l0 x6_1).f3))) (fun _ hk => hk.2) (.int .i64 ((rd_T40 l0 x6_1).f4.f0))) (fun _ hk => hk.2) (.int .i64 ((rd_T40 l0 x6_1).f4.f1))) (fun _ hk => hk.2) (.int .i64 ((rd_T40 l0 x6_1).f4.f2))) (fun _ hk => hk.2) (.int .i64 ((rd_T40 l0 x6_1).f4.f3))) (fun _ hk => hk.2) (.slice A170_8 ((rd_T40 l0 x6_1).f5).length c170_8)) (fun _ hk => hk.1.1), wb1_ HB.out GE169.out⟩
end Go.Proofs.YtfljbidecljlcaaDoor.Print

namespace Go.Proofs.YtfljbidecljlcaaDoor
open Go.RowKit Go.Proofs.YtfljbidecljlcaaDoor.Print Go.Proofs.YtfljbidecljlcaaDoorW.PrintWords Go.Proofs.YtfljbidecljlcaaDoorW.PrintLast Go.Proofs.YtfljbidecljlcaaDoorW.PrintMore
set_option linter.unusedVariables false
def tupN (r : Option Node) : ByteArray × ByteArray × ByteArray × Int × Int × Int × Int × Int × List Int × Bool := match r with
 | some x => (x.f0, x.f1, x.f2, x.f3, x.f4.f0, x.f4.f1, x.f4.f2, x.f4.f3, x.f5, true)
 | none => (⟨#[]⟩, ⟨#[]⟩, ⟨#[]⟩, 0, 0, 0, 0, 0, [], false)
theorem rfind_l (l : List Node) (p : ByteArray) (hlen : l.length ≤ 1000000000000) : ∀ (d i : Nat), i + d = l.length → Ev (fun k => bindleref08_Find.l0 k l p (i : Int)) (tupN (findF (l.drop i) p)) := by
 intro d
 induction d with
 | zero =>
  intro i hi
  rw [List.drop_of_length_le (by omega)]
  exact Ev.step (f := fun _ => some (tupN none)) (fun k => by rw [bindleref08_Find.l0, if_neg (by omega)]; rfl) (Ev.now _)
 | succ d ih =>
  intro i hi
  have hil : i < l.length := by omega
  have hx : rd_T40 l (i : Int) = l[i] := by rw [rdN_at l (i : Int) (by omega) (by omega)]; simp
  rw [List.drop_eq_getElem_cons hil]
  unfold findF
  rw [List.find?_cons]
  by_cases he : l[i].f0.toList = p.toList
  ·rw [decide_eq_true he]
   exact Ev.step (f := fun _ => some (tupN (some l[i]))) (fun k => by rw [bindleref08_Find.l0, if_pos (by omega), if_pos (by omega), hx, if_pos he]; rfl) (Ev.now _)
  ·rw [decide_eq_false he]
   refine Ev.step (fun k => ?_) (ih (i + 1) (by omega))
   rw [bindleref08_Find.l0, if_pos (by omega), if_pos (by omega), hx, if_neg he]
   rw [show wrap64 ((i : Int) + 1) = ((i + 1 : Nat) : Int) by unfold wrap64; omega]
theorem rfind_eq (l : List Node) (p : ByteArray) (hlen : l.length ≤ 1000000000000) : Ev (fun k => bindleref08_Find.f k l p) (tupN (findF l p)) := rfind_l l p hlen l.length 0 (by omega)
theorem RefFind_F (ok : Nat → Prop) (A0 : Option Addr) (c0 : Nat) (l : List Node) (p : ByteArray) (W : World) (hF : Kd.F k40 W ok A0 l.length l) (hc : l.length ≤ c0) (hlen : l.length ≤ 1000000000000) :
  Calls Tryd.prog 23 #[.slice A0 l.length c0, .string p] W fun e W' => ∃ x b A c, (match findF l p with | some y => x = y ∧ b = true | none => x = z40 ∧ b = false) ∧ e = .returned (.tuple #[.agg (nodeCells x (.slice A x.f5.length c)), .bool b]) ∧ x.f5.length ≤ c ∧ Kd.F (Kd.int .u8) W' (fun k => ok k ∨ W.heap.size ≤ k) A x.f5.length x.f5 ∧ Below W.heap.size W W' := by
 obtain ⟨k, hk⟩ := Ev.rounds (rfind_eq l p hlen)
 have hV : Kd.V k40 40 W W.heap.size ok (.slice A0 l.length c0) l := Kd.V_mk hc hF
 cases hf : findF l p with
 | none =>
  rw [hf] at hk
  refine (bindleref08_Find.calls k _ A0 c0 l p _ _ _ _ _ _ _ _ _ _ W hV hk).mono ?_
  rintro e w' ⟨v, rfl, hv, hb⟩
  obtain ⟨A, c, rfl⟩ := Kd.V_slice hv
  exact ⟨z40, false, A, c, ⟨rfl, rfl⟩, rfl, (Kd.V_reads' hv).2.1, Kd.V_F hv, hb⟩
 | some y =>
  rw [hf] at hk
  refine (bindleref08_Find.calls k _ A0 c0 l p _ _ _ _ _ _ _ _ _ _ W hV hk).mono ?_
  rintro e w' ⟨v, rfl, hv, hb⟩
  obtain ⟨A, c, rfl⟩ := Kd.V_slice hv
  exact ⟨y, true, A, c, ⟨rfl, rfl⟩, rfl, (Kd.V_reads' hv).2.1, Kd.V_F hv, hb⟩
end Go.Proofs.YtfljbidecljlcaaDoor
