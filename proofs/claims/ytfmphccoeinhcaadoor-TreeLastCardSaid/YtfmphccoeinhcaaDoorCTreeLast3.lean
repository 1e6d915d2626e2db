/-
  Part of the proof that TreeLast answers true: texts put together (wip/bundle.py).
-/
import Derived.Test.YtfmphccoeinhcaaDoorCTreeLast2
import Derived.WalkSpells
import Derived.Outline
import Derived.Deep.RegionHeld3
import Derived.Shelf.SlGeneric
import Derived.Shelf.SlIter.Nil
import Derived.Shelf.SortM.Plain
import Derived.Shelf.SortM.SortNone
import Derived.Ground.GgzProg
import Derived.Ground.SlgmProg
import Derived.Test.YtfmphccoeinhcaaDoorProg
import Derived.Laws.MakeOwn
import Derived.Laws.Cover1
namespace Go.Proofs.YtfmphccoeinhcaaDoor.Print
open Go.RowKit Go.Proofs.YtfmphccoeinhcaaDoorW.PrintWords Go.Proofs.YtfmphccoeinhcaaDoorW.PrintLast Go.Proofs.YtfmphccoeinhcaaDoorW.PrintMore
attribute [local go_sem] max2_int min2_int max_two min_two max_three min_three max_four min_four   -- for this text's walks alone
set_option linter.unusedVariables false
set_option linter.unusedSimpArgs false
def bindlelaw10_light.l0 : Nat → List (S27) → Int → Int → Option (Bool)
 | 0, _, _, _ => none
 | k + 1, x0, x3, x4 => if x4 < (x0.length : Int) then (if (x0.length : Int) > 60 then (some false) else (if 0 ≤ x4 then (if (((rd_T27 x0 x4).f0).size : Int) > 2000 then (some false) else (if (((rd_T27 x0 x4).f1).size : Int) > 2000 then (some false) else (if (((rd_T27 x0 x4).f4).length : Int) > 100000 then (some false) else (bindlelaw10_light.l0 k x0 (wrap64 (x3 + (((rd_T27 x0 x4).f4).length : Int))) (wrap64 (x4 + 1)))))) else (none))) else (some (decide (x3 ≤ 200000)))
def bindlelaw10_light.f (k : Nat) (l0 : List (S27)) : Option (Bool) := bindlelaw10_light.l0 k l0 0 0
set_option maxHeartbeats 8000000 in
set_option maxRecDepth 100000 in
theorem bindlelaw10_light.calls (k : Nat) (A0 : Option Addr) (c0 : Nat) (l0 : List (S27)) (r : Bool) (w : World) (hr0 : Kd.C k27 w A0 l0.length l0) (hc0 : l0.length ≤ c0) (h : bindlelaw10_light.f k l0 = some r) :
  Calls Tryd.prog 15 #[.slice A0 l0.length c0] w fun e w' => e = .returned (.bool r) ∧ Drawn0 w w' := by
 have HR0 := A0_ hr0
 have HC0 := A0_ hc0
 clear hr0 hc0
 have H : (bindlelaw10_light.l0 k l0 0 0) = some r := h
 clear h
 have H' := A0_ H
 clear H
 go_enter Tryd.func15, Tryd.ntmps15
 go_wp2
 go_loopg [3, 4] k (fun kq v3 v4 w' => ∃ (x3_1 : Int) (x4_1 : Int), v3 = .int .i64 x3_1 ∧ v4 = .int .i64 x4_1 ∧ Aside0 (bindlelaw10_light.l0 kq l0 x3_1 x4_1 = some r) ∧ Aside0 (kq ≤ k) ∧ Drawn0 w w')
 case atStart => exact ⟨(0), (0), wr_, wr_, H', ⟨Nat.le_refl _⟩, by repeat (first | exact Drawn0.refl _ | apply Drawn0.step)⟩
 case round =>
  clear H'
  try clear c1
  obtain ⟨x3_1, x4_1, rfl, rfl, HA, HK1, ⟨m1, rfl⟩⟩ := hrel
  cases gk with
  | zero => exact absurd HA.out (by simp [bindlelaw10_light.l0])
  | succ k1 =>
   have H := HA.out
   clear HA
   simp only [bindlelaw10_light.l0] at H
   by_cases c2 : x4_1 < (l0.length : Int)
   rotate_left
   ·rw [if_neg c2] at H
    have c2b0 : decide (x4_1 < (l0.length : Int)) = false := decide_eq_false c2
    clear c2
    obtain rfl := Option.some.inj H
    go_wp2
    go_ret
    exact ⟨by first | rfl | (simp; done) | (simp [*]; done), by repeat (first | exact Drawn0.refl _ | apply Drawn0.step)⟩
   rw [if_pos c2] at H
   have c2b0 : decide (x4_1 < (l0.length : Int)) = true := decide_eq_true c2
   clear c2
   by_cases c3 : (l0.length : Int) > 60
   ·rw [if_pos c3] at H
    have c3b0 : decide (60 < (l0.length : Int)) = true := decide_eq_true c3
    have c3b1 : decide (60 < l0.length) = true := decide_eq_true (by omega)
    clear c3
    obtain rfl := Option.some.inj H
    go_wp2
    go_ret
    exact ⟨by first | rfl | (simp; done) | (simp [*]; done), by repeat (first | exact Drawn0.refl _ | apply Drawn0.step)⟩
   rw [if_neg c3] at H
   have c3b0 : decide (60 < (l0.length : Int)) = false := decide_eq_false c3
   have c3b1 : decide (60 < l0.length) = false := decide_eq_false (by omega)
   clear c3
   by_cases c4 : 0 ≤ x4_1
   rotate_left
   ·rw [if_neg c4] at H
    exact absurd H (by simp)
   rw [if_pos c4] at H
   have c4b0 : decide (0 ≤ x4_1) = true := decide_eq_true c4
   clear c4
   by_cases c5 : (((rd_T27 l0 x4_1).f0).size : Int) > 2000
   ·rw [if_pos c5] at H
    have c5b0 : decide (2000 < (((rd_T27 l0 x4_1).f0).size : Int)) = true := decide_eq_true c5
    have c5b1 : decide (2000 < ((rd_T27 l0 x4_1).f0).size) = true := decide_eq_true (by omega)
    clear c5
    obtain rfl := Option.some.inj H
    have p101 : 0 ≤ (x4_1 : Int) := wd_
    have q101 : x4_1 < (l0.length : Int) := wd_
    obtain ⟨ad101, A101_7, c101_7, e101, hx101_0, hx101_1, hx101_2, hx101_3, hx101_4, hx101_5, hx101_6, hx101_7, hl101_7, hi101_7⟩ := at_T27 HR0.out x4_1 p101 q101
    cases e101
    have HR101_7 := A0_ hi101_7
    have HC101_7 := A0_ hl101_7
    clear hi101_7 hl101_7
    replace p101 := eq_true p101
    replace q101 := eq_true q101
    go_wp2
    go_ret
    exact ⟨by first | rfl | (simp; done) | (simp [*]; done), by repeat (first | exact Drawn0.refl _ | apply Drawn0.step)⟩
   rw [if_neg c5] at H
   have c5b0 : decide (2000 < (((rd_T27 l0 x4_1).f0).size : Int)) = false := decide_eq_false c5
   have c5b1 : decide (2000 < ((rd_T27 l0 x4_1).f0).size) = false := decide_eq_false (by omega)
   clear c5
   by_cases c6 : (((rd_T27 l0 x4_1).f1).size : Int) > 2000
   ·rw [if_pos c6] at H
    have c6b0 : decide (2000 < (((rd_T27 l0 x4_1).f1).size : Int)) = true := decide_eq_true c6
    have c6b1 : decide (2000 < ((rd_T27 l0 x4_1).f1).size) = true := decide_eq_true (by omega)
    clear c6
    obtain rfl := Option.some.inj H
    have p101 : 0 ≤ (x4_1 : Int) := wd_
    have q101 : x4_1 < (l0.length : Int) := wd_
    obtain ⟨ad101, A101_7, c101_7, e101, hx101_0, hx101_1, hx101_2, hx101_3, hx101_4, hx101_5, hx101_6, hx101_7, hl101_7, hi101_7⟩ := at_T27 HR0.out x4_1 p101 q101
    cases e101
    have HR101_7 := A0_ hi101_7
    have HC101_7 := A0_ hl101_7
    clear hi101_7 hl101_7
    replace p101 := eq_true p101
    replace q101 := eq_true q101
    have p102 : 0 ≤ (x4_1 : Int) := wd_
    have q102 : x4_1 < (l0.length : Int) := wd_
    obtain ⟨ad102, A102_7, c102_7, e102, hx102_0, hx102_1, hx102_2, hx102_3, hx102_4, hx102_5, hx102_6, hx102_7, hl102_7, hi102_7⟩ := at_T27 HR0.out x4_1 p102 q102
    obtain rfl : ad101 = ad102 := (by injection e102)
    have HR102_7 := A0_ hi102_7
    have HC102_7 := A0_ hl102_7
    clear hi102_7 hl102_7
    replace p102 := eq_true p102
    replace q102 := eq_true q102
    have ea_ := Option.some.inj (hx101_7.symm.trans hx102_7)
    injection ea_ with ea_ en_ ec_
    subst ea_
    subst ec_
    clear en_
    go_wp2
    go_ret
    exact ⟨by first | rfl | (simp; done) | (simp [*]; done), by repeat (first | exact Drawn0.refl _ | apply Drawn0.step)⟩
   rw [if_neg c6] at H
   have c6b0 : decide (2000 < (((rd_T27 l0 x4_1).f1).size : Int)) = false := decide_eq_false c6
   have c6b1 : decide (2000 < ((rd_T27 l0 x4_1).f1).size) = false := decide_eq_false (by omega)
   clear c6
   by_cases c7 : (((rd_T27 l0 x4_1).f4).length : Int) > 100000
   ·rw [if_pos c7] at H
    have c7b0 : decide (100000 < (((rd_T27 l0 x4_1).f4).length : Int)) = true := decide_eq_true c7
    have c7b1 : decide (100000 < ((rd_T27 l0 x4_1).f4).length) = true := decide_eq_true (by omega)
    clear c7
    obtain rfl := Option.some.inj H
    have p101 : 0 ≤ (x4_1 : Int) := wd_
    have q101 : x4_1 < (l0.length : Int) := wd_
    obtain ⟨ad101, A101_7, c101_7, e101, hx101_0, hx101_1, hx101_2, hx101_3, hx101_4, hx101_5, hx101_6, hx101_7, hl101_7, hi101_7⟩ := at_T27 HR0.out x4_1 p101 q101
    cases e101
    have HR101_7 := A0_ hi101_7
    have HC101_7 := A0_ hl101_7
    clear hi101_7 hl101_7
    replace p101 := eq_true p101
    replace q101 := eq_true q101
    have p102 : 0 ≤ (x4_1 : Int) := wd_
    have q102 : x4_1 < (l0.length : Int) := wd_
    obtain ⟨ad102, A102_7, c102_7, e102, hx102_0, hx102_1, hx102_2, hx102_3, hx102_4, hx102_5, hx102_6, hx102_7, hl102_7, hi102_7⟩ := at_T27 HR0.out x4_1 p102 q102
    obtain rfl : ad101 = ad102 := (by injection e102)
    have HR102_7 := A0_ hi102_7
    have HC102_7 := A0_ hl102_7
    clear hi102_7 hl102_7
    replace p102 := eq_true p102
    replace q102 := eq_true q102
    have ea_ := Option.some.inj (hx101_7.symm.trans hx102_7)
    injection ea_ with ea_ en_ ec_
    subst ea_
    subst ec_
    clear en_
    have p103 : 0 ≤ (x4_1 : Int) := wd_
    have q103 : x4_1 < (l0.length : Int) := wd_
    obtain ⟨ad103, A103_7, c103_7, e103, hx103_0, hx103_1, hx103_2, hx103_3, hx103_4, hx103_5, hx103_6, hx103_7, hl103_7, hi103_7⟩ := at_T27 HR0.out x4_1 p103 q103
    obtain rfl : ad101 = ad103 := (by injection e103)
    have HR103_7 := A0_ hi103_7
    have HC103_7 := A0_ hl103_7
    clear hi103_7 hl103_7
    replace p103 := eq_true p103
    replace q103 := eq_true q103
    have ea_ := Option.some.inj (hx101_7.symm.trans hx103_7)
    injection ea_ with ea_ en_ ec_
    subst ea_
    subst ec_
    clear en_
    go_wp2
    go_ret
    exact ⟨by first | rfl | (simp; done) | (simp [*]; done), by repeat (first | exact Drawn0.refl _ | apply Drawn0.step)⟩
   rw [if_neg c7] at H
   have c7b0 : decide (100000 < (((rd_T27 l0 x4_1).f4).length : Int)) = false := decide_eq_false c7
   have c7b1 : decide (100000 < ((rd_T27 l0 x4_1).f4).length) = false := decide_eq_false (by omega)
   clear c7
   have H' := A0_ H
   clear H
   have p101 : 0 ≤ (x4_1 : Int) := wd_
   have q101 : x4_1 < (l0.length : Int) := wd_
   obtain ⟨ad101, A101_7, c101_7, e101, hx101_0, hx101_1, hx101_2, hx101_3, hx101_4, hx101_5, hx101_6, hx101_7, hl101_7, hi101_7⟩ := at_T27 HR0.out x4_1 p101 q101
   cases e101
   have HR101_7 := A0_ hi101_7
   have HC101_7 := A0_ hl101_7
   clear hi101_7 hl101_7
   replace p101 := eq_true p101
   replace q101 := eq_true q101
   have p102 : 0 ≤ (x4_1 : Int) := wd_
   have q102 : x4_1 < (l0.length : Int) := wd_
   obtain ⟨ad102, A102_7, c102_7, e102, hx102_0, hx102_1, hx102_2, hx102_3, hx102_4, hx102_5, hx102_6, hx102_7, hl102_7, hi102_7⟩ := at_T27 HR0.out x4_1 p102 q102
   obtain rfl : ad101 = ad102 := (by injection e102)
   have HR102_7 := A0_ hi102_7
   have HC102_7 := A0_ hl102_7
   clear hi102_7 hl102_7
   replace p102 := eq_true p102
   replace q102 := eq_true q102
   have ea_ := Option.some.inj (hx101_7.symm.trans hx102_7)
   injection ea_ with ea_ en_ ec_
   subst ea_
   subst ec_
   clear en_
   have p103 : 0 ≤ (x4_1 : Int) := wd_
   have q103 : x4_1 < (l0.length : Int) := wd_
   obtain ⟨ad103, A103_7, c103_7, e103, hx103_0, hx103_1, hx103_2, hx103_3, hx103_4, hx103_5, hx103_6, hx103_7, hl103_7, hi103_7⟩ := at_T27 HR0.out x4_1 p103 q103
   obtain rfl : ad101 = ad103 := (by injection e103)
   have HR103_7 := A0_ hi103_7
   have HC103_7 := A0_ hl103_7
   clear hi103_7 hl103_7
   replace p103 := eq_true p103
   replace q103 := eq_true q103
   have ea_ := Option.some.inj (hx101_7.symm.trans hx103_7)
   injection ea_ with ea_ en_ ec_
   subst ea_
   subst ec_
   clear en_
   have p104 : 0 ≤ (x4_1 : Int) := wd_
   have q104 : x4_1 < (l0.length : Int) := wd_
   obtain ⟨ad104, A104_7, c104_7, e104, hx104_0, hx104_1, hx104_2, hx104_3, hx104_4, hx104_5, hx104_6, hx104_7, hl104_7, hi104_7⟩ := at_T27 HR0.out x4_1 p104 q104
   obtain rfl : ad101 = ad104 := (by injection e104)
   have HR104_7 := A0_ hi104_7
   have HC104_7 := A0_ hl104_7
   clear hi104_7 hl104_7
   replace p104 := eq_true p104
   replace q104 := eq_true q104
   have ea_ := Option.some.inj (hx101_7.symm.trans hx104_7)
   injection ea_ with ea_ en_ ec_
   subst ea_
   subst ec_
   clear en_
   go_wp2
   go_roundg k1
   case measure => have := HK1.out; omega
   case rel => exact ⟨(wrap64 (x3_1 + (((rd_T27 l0 x4_1).f4).length : Int))), (wrap64 (x4_1 + 1)), wr_, wr_, H', ⟨by have := HK1.out; omega⟩, by repeat (first | exact Drawn0.refl _ | apply Drawn0.step)⟩
end Go.Proofs.YtfmphccoeinhcaaDoor.Print

namespace Go.Proofs.YtfmphccoeinhcaaDoor
open Go.RowKit Go.Proofs.YtfmphccoeinhcaaDoor.Print Go.Proofs.YtfmphccoeinhcaaDoorW.PrintWords
set_option linter.unusedVariables false
def LightM (l : List Mem) : Prop := l.length ≤ 60 ∧ ∀ x ∈ l, x.f0.size ≤ 2000 ∧ x.f1.size ≤ 2000 ∧ x.f4.length ≤ 100000
theorem rdM_nat (l : List Mem) (j : Nat) (h : j < l.length) : rd_T27 l (j : Int) = l[j] := by rw [rdM_at l j (by omega) (by omega)]; simp
theorem light_l (l : List Mem) (hlen : l.length ≤ 140737488351232) : ∀ (d i : Nat) (s : Int), i + d = l.length → (∀ (j : Nat) (hj : j < l.length), j < i → l.length ≤ 60 ∧ l[j].f0.size ≤ 2000 ∧ l[j].f1.size ≤ 2000 ∧ l[j].f4.length ≤ 100000) → ∃ b, Ev (fun k => bindlelaw10_light.l0 k l s (i : Int)) b ∧ (b = true → LightM l) := by
 intro d
 induction d with
 | zero =>
  intro i s hi hp
  refine ⟨decide (s ≤ 200000), Ev.step (f := fun _ => some (decide (s ≤ 200000))) (fun k => by rw [bindlelaw10_light.l0, if_neg (by omega)]) (Ev.now _), fun _ => ⟨?_, fun x hx => ?_⟩⟩
  ·rcases Nat.eq_zero_or_pos l.length with h | h
   ·omega
   ·exact (hp 0 h (by omega)).1
  ·obtain ⟨j, hj, rfl⟩ := List.getElem_of_mem hx
   exact (hp j hj (by omega)).2
 | succ d ih =>
  intro i s hi hp
  have hil : i < l.length := by omega
  have hr := rdM_nat l i hil
  by_cases h60 : (l.length : Int) > 60
  ·exact ⟨false, Ev.step (f := fun _ => some false) (fun k => by rw [bindlelaw10_light.l0, if_pos (by omega), if_pos h60]) (Ev.now _), fun h => by cases h⟩
  ·by_cases hA : (l[i].f0.size : Int) > 2000
   ·exact ⟨false, Ev.step (f := fun _ => some false) (fun k => by rw [bindlelaw10_light.l0, if_pos (by omega), if_neg h60, if_pos (by omega), hr, if_pos hA]) (Ev.now _), fun h => by cases h⟩
   ·by_cases hB : (l[i].f1.size : Int) > 2000
    ·exact ⟨false, Ev.step (f := fun _ => some false) (fun k => by rw [bindlelaw10_light.l0, if_pos (by omega), if_neg h60, if_pos (by omega), hr, if_neg hA, if_pos hB]) (Ev.now _), fun h => by cases h⟩
    ·by_cases hC : (l[i].f4.length : Int) > 100000
     ·exact ⟨false, Ev.step (f := fun _ => some false) (fun k => by rw [bindlelaw10_light.l0, if_pos (by omega), if_neg h60, if_pos (by omega), hr, if_neg hA, if_neg hB, if_pos hC]) (Ev.now _), fun h => by cases h⟩
     ·obtain ⟨b, h1, h2⟩ := ih (i + 1) (wrap64 (s + (l[i].f4.length : Int))) (by omega) (fun j hj hji => by
       rcases Nat.lt_or_ge j i with h | h
       ·exact hp j hj h
       ·obtain rfl : j = i := by omega
        exact ⟨by omega, by omega, by omega, by omega⟩)
      refine ⟨b, Ev.step (fun k => ?_) h1, h2⟩
      rw [bindlelaw10_light.l0, if_pos (by omega), if_neg h60, if_pos (by omega), hr, if_neg hA, if_neg hB, if_neg hC]
      rw [show wrap64 ((i : Int) + 1) = ((i + 1 : Nat) : Int) by unfold wrap64; omega]
theorem light_eq (l : List Mem) (hlen : l.length ≤ 140737488351232) : ∃ b, Ev (fun k => bindlelaw10_light.f k l) b ∧ (b = true → LightM l) := light_l l hlen l.length 0 0 (by omega) (fun j hj h => absurd h (Nat.not_lt_zero _))
theorem LightM.z {l : List Mem} (h : LightM l) : MemsZ l := ⟨by have := h.1; omega, fun x hx => by have := h.2 x hx; exact ⟨by omega, by omega, by omega⟩⟩
end Go.Proofs.YtfmphccoeinhcaaDoor

namespace Go.Proofs.YtfmphccoeinhcaaDoor.Print
open Go.RowKit Go.Proofs.YtfmphccoeinhcaaDoorW.PrintWords Go.Proofs.YtfmphccoeinhcaaDoorW.PrintLast Go.Proofs.YtfmphccoeinhcaaDoorW.PrintMore
attribute [local go_sem] max2_int min2_int max_two min_two max_three min_three max_four min_four   -- for this text's walks alone
set_option linter.unusedVariables false
set_option linter.unusedSimpArgs false
theorem eqA24 (d : Nat) (w : World) (x0 y0 : Int) (x1 y1 : Int) (x2 y2 : Int) (x3 y3 : Int) :
  (Op.equalIn (d + 2) 24 (.agg #[.int .i64 x0, .int .i64 x1, .int .i64 x2, .int .i64 x3]) (.agg #[.int .i64 y0, .int .i64 y1, .int .i64 y2, .int .i64 y3])).run Tryd.prog w = .ok (x0 == y0 && (x1 == y1 && (x2 == y2 && (x3 == y3)))) w := by
 refine eqA_of Tryd.underlying24 (by kernel_rfl) ?_
 refine eqf_cons (by rfl) (by go_simp; rfl) (by go_simp; rfl) (by go_simp) ?_
 refine eqf_cons (by rfl) (by go_simp; rfl) (by go_simp; rfl) (by go_simp) ?_
 refine eqf_cons (by rfl) (by go_simp; rfl) (by go_simp; rfl) (by go_simp) ?_
 exact eqf_last (by rfl) (by go_simp; rfl) (by go_simp; rfl) (by go_simp)
end Go.Proofs.YtfmphccoeinhcaaDoor.Print

namespace Go.Proofs.YtfmphccoeinhcaaDoor.Print
open Go.RowKit Go.Proofs.YtfmphccoeinhcaaDoorW.PrintWords Go.Proofs.YtfmphccoeinhcaaDoorW.PrintLast Go.Proofs.YtfmphccoeinhcaaDoorW.PrintMore
attribute [local go_sem] max2_int min2_int max_two min_two max_three min_three max_four min_four   -- for this text's walks alone
set_option linter.unusedVariables false
set_option linter.unusedSimpArgs false
def bytes_Equal.f (l0 : List Int) (l1 : List Int) : Option (Bool) := some ((strOfNums l0).toList == (strOfNums l1).toList)
set_option maxHeartbeats 8000000 in
set_option maxRecDepth 100000 in
theorem bytes_Equal.calls (A0 : Option Addr) (c0 : Nat) (l0 : List Int) (A1 : Option Addr) (c1 : Nat) (l1 : List Int) (r : Bool) (w : World) (hr0 : Kd.C (Kd.int .u8) w A0 l0.length l0) (hc0 : l0.length ≤ c0) (hr1 : Kd.C (Kd.int .u8) w A1 l1.length l1) (hc1 : l1.length ≤ c1) (h : bytes_Equal.f l0 l1 = some r) :
  Calls Tryd.prog 72 #[.slice A0 l0.length c0, .slice A1 l1.length c1] w fun e w' => e = .returned (.bool r) ∧ Drawn0 w w' := by
 have HR0 := A0_ hr0
 have HC0 := A0_ hc0
 clear hr0 hc0
 have HR1 := A0_ hr1
 have HC1 := A0_ hc1
 clear hr1 hc1
 have H : (some ((strOfNums l0).toList == (strOfNums l1).toList)) = some r := h
 clear h
 obtain rfl := Option.some.inj H
 have hcv3 := Kd.C_string (P := Tryd.prog) (A := A0) (c := c0) Tryd.underlying25 Tryd.underlying5 Tryd.underlying9 HR0.out
 have hcv4 := Kd.C_string (P := Tryd.prog) (A := A1) (c := c1) Tryd.underlying25 Tryd.underlying5 Tryd.underlying9 HR1.out
 go_enter Tryd.func72, Tryd.ntmps72
 go_wp2
 go_ret
 exact ⟨by first | rfl | (simp; done) | (simp [*]; done), by repeat (first | exact Drawn0.refl _ | apply Drawn0.step)⟩
end Go.Proofs.YtfmphccoeinhcaaDoor.Print

namespace Go.Proofs.YtfmphccoeinhcaaDoor.Print
open Go.RowKit Go.Proofs.YtfmphccoeinhcaaDoorW.PrintWords Go.Proofs.YtfmphccoeinhcaaDoorW.PrintLast Go.Proofs.YtfmphccoeinhcaaDoorW.PrintMore
attribute [local go_sem] max2_int min2_int max_two min_two max_three min_three max_four min_four   -- for this text's walks alone
set_option linter.unusedVariables false
set_option linter.unusedSimpArgs false
attribute [local go_sem high] eqA24
end Go.Proofs.YtfmphccoeinhcaaDoor.Print

namespace Go.Proofs.YtfmphccoeinhcaaDoor
open Go.RowKit Go.Proofs.YtfmphccoeinhcaaDoor.Print Go.Proofs.YtfmphccoeinhcaaDoorW.PrintWords
theorem equal_chain (a b : Node) {r : Option Bool} (h : r = some ((strOfNums a.f5).toList == (strOfNums b.f5).toList)) : (if a.f0.toList = b.f0.toList then (if a.f3 = b.f3 then (if (a.f4.f0 == b.f4.f0 && (a.f4.f1 == b.f4.f1 && (a.f4.f2 == b.f4.f2 && (a.f4.f3 == b.f4.f3)))) = true then (if a.f1.toList = b.f1.toList then r else (some false)) else (some false)) else (some false)) else (some false)) = some (equalB a b) := by
 subst h
 unfold equalB
 by_cases h0 : a.f0.toList = b.f0.toList
 ·rw [if_pos h0]
  by_cases h1 : a.f3 = b.f3
  ·rw [if_pos h1]
   by_cases h2 : (a.f4.f0 == b.f4.f0 && (a.f4.f1 == b.f4.f1 && (a.f4.f2 == b.f4.f2 && (a.f4.f3 == b.f4.f3)))) = true
   ·rw [if_pos h2]
    simp only [Bool.and_eq_true, beq_iff_eq] at h2
    by_cases h3 : a.f1.toList = b.f1.toList
    ·rw [if_pos h3]
     congr 1
     rw [Bool.eq_iff_iff, beq_iff_eq, decide_eq_true_iff]
     exact ⟨fun h => ⟨h0, h1, h2.1, h2.2.1, h2.2.2.1, h2.2.2.2, h3, h⟩, fun h => h.2.2.2.2.2.2.2⟩
    ·rw [if_neg h3, decide_eq_false]
     exact fun h => h3 h.2.2.2.2.2.2.1
   ·rw [if_neg h2, decide_eq_false]
    intro h
    apply h2
    simp only [Bool.and_eq_true, beq_iff_eq]
    exact ⟨h.2.2.1, h.2.2.2.1, h.2.2.2.2.1, h.2.2.2.2.2.1⟩
  ·rw [if_neg h1, decide_eq_false]
   exact fun h => h1 h.2.1
 ·rw [if_neg h0, decide_eq_false]
  exact fun h => h0 h.1
end Go.Proofs.YtfmphccoeinhcaaDoor

namespace Go.Proofs.YtfmphccoeinhcaaDoor
open Go.RowKit Go.Maps Go.Proofs.YtfmphccoeinhcaaDoor.Print Go.Proofs.YtfmphccoeinhcaaDoorW.PrintWords Go.Proofs.YtfmphccoeinhcaaDoorW.PrintLast Go.Proofs.YtfmphccoeinhcaaDoorW.PrintMore
set_option linter.unusedVariables false
set_option linter.unusedSimpArgs false
set_option maxRecDepth 100000 in
set_option maxHeartbeats 1000000 in
theorem Clone_calls (A : Option Addr) (c : Nat) (xs : List Int) (W : World) (hC : Kd.C (Kd.int .u8) W A xs.length xs) (hl : xs.length ≤ 140737488351232) :
  Calls Tryd.prog 50 #[.slice A xs.length c] W fun e W' => ∃ v, e = .returned v ∧ Kd.R (Kd.int .u8) 5 W' W.heap.size (fun _ => True) v xs ∧ Below W.heap.size W W' := by
 rcases A with _ | ad
 ·have h0 : xs = [] := by
   rcases Nat.eq_zero_or_pos xs.length with h | h
   ·exact List.eq_nil_of_length_eq_zero h
   ·obtain ⟨ad, h1, _⟩ := hC.2.2 h
    cases h1
  subst h0
  have hcmp := fun (w : World) => Lib.run_eql_slice_nil (P := Tryd.prog) w 25 5 none 0 c 0 0 Tryd.underlying25
  go_enter Tryd.func50, Tryd.ntmps50
  go_wp2
  go_ret
  exact ⟨_, rfl, Kd.R_nil _ _ _ _ _, Below.refl _ _⟩
 ·have hcmp := fun (w : World) => Lib.run_eql_slice_nil (P := Tryd.prog) w 25 5 (some ad) xs.length c 0 0 Tryd.underlying25
  have hown := own_lit W W.heap.size 5 .u8 [] (Nat.le_refl _) (by decide)
  have HC := Aside0.mk hC
  have HO := Aside0.mk hown
  clear hC hown
  go_enter Tryd.func50, Tryd.ntmps50
  go_wp2_with (at_builtin; refine Kd.R_append_row (Value.int .u8) (0 : Int) (h1 := fun _ => rfl) (w0 := W) W.heap.size rfl _ _ 25 5 (.int .u8 0) 1 rfl Tryd.underlying25 infoU8 rfl (by decide) (.slice (some ⟨W.heap.size, 0, none⟩) 0 0) [] xs (some ad) xs.length c (fun _ => True) rfl rfl (fun _ _ => trivial) (Kd.R_of_own (enc := Value.int .u8) (h1 := fun _ => rfl) HO.out (fun _ _ => trivial)) (Kd.C_alloc HC.out _) ((Below.refl _ _).alloc (Nat.le_refl _) _) (by simp) (by simp; omega) ?_; intro v1 w1 hr1 hb1 hg1 hat1)
  go_ret
  exact ⟨_, rfl, hr1, hb1⟩
end Go.Proofs.YtfmphccoeinhcaaDoor

namespace Go.Proofs.YtfmphccoeinhcaaDoor
open Go.RowKit Go.Maps Go.Proofs.YtfmphccoeinhcaaDoor.Print Go.Proofs.YtfmphccoeinhcaaDoorW.PrintWords Go.Proofs.YtfmphccoeinhcaaDoorW.PrintLast Go.Proofs.YtfmphccoeinhcaaDoorW.PrintMore
set_option linter.unusedVariables false
set_option linter.unusedSimpArgs false
theorem Find1_calls (x : Node) (A : Option Addr) (n c : Nat) (p : ByteArray) (W : World) :
  Calls Tryd.prog 70 #[.agg #[.string x.f0, .string x.f1, .string x.f2, .int .u8 x.f3, .int .i64 x.f4.f0, .int .i64 x.f4.f1, .int .i64 x.f4.f2, .int .i64 x.f4.f3, .slice A n c], .string p] W fun e W' =>
   e = .returned (.int .i64 (Lib.compareBytes x.f0.data.toList p.data.toList)) ∧ Below W.heap.size W W' := by
 go_enter Tryd.func70, Tryd.ntmps70
 go_wp2_with (go_at_call 71; refine (Tryd.strings_Compare _ _ _).mono ?_; rintro e w' ⟨rfl, rfl⟩)
 go_ret
 exact ⟨rfl, (Below.refl _ _).alloc (Nat.le_refl _) _⟩
theorem rdN_at (l : List Node) (i : Int) (h0 : 0 ≤ i) (h1 : i < l.length) : rd_T38 l i = l[i.toNat]'(by omega) := by
 unfold rd_T38
 rw [List.getD_eq_getElem?_getD, List.getElem?_eq_getElem (by omega)]
 rfl
def FoundAt (l : List Node) (p : ByteArray) (n : Int) (b : Bool) : Prop :=
 0 ≤ n ∧ n ≤ l.length ∧ (b = true ↔ ∃ h : n.toNat < l.length, l[n.toNat].f0.toList = p.toList) ∧ (b = false → ∀ (i : Nat) (hi : i < l.length), l[i].f0.toList ≠ p.toList)
def SearchRel (l : List Node) (p : ByteArray) (W : World) (i j : Int) (wr : World) : Prop :=
 0 ≤ i ∧ i ≤ j ∧ j ≤ l.length ∧ (∀ (t : Nat) (ht : t < l.length), (t : Int) < i → lt l[t].f0 p = true) ∧ (∀ (t : Nat) (ht : t < l.length), j ≤ (t : Int) → lt l[t].f0 p = false) ∧ Below W.heap.size W wr
set_option maxRecDepth 100000 in
set_option maxHeartbeats 2000000 in
theorem Search_calls (A0 : Option Addr) (c0 : Nat) (l : List Node) (p : ByteArray) (W : World) (hC : Kd.C k38 W A0 l.length l) (hr : riseB l = true) (hz : NodesZ l) :
  Calls Tryd.prog 69 #[.slice A0 l.length c0, .string p, .func (.func 70) #[] #[]] W fun e W' => ∃ n b, e = .returned (.tuple #[.int .i64 n, .bool b]) ∧ FoundAt l p n b ∧ Below W.heap.size W W' := by
 have HC := Aside0.mk hC
 have HZ := Aside0.mk hz
 have HRI := Aside0.mk hr
 have hlen : (l.length : Int) ≤ 1000000000000 := by have := hz.1; omega
 clear hC hr hz
 generalize hpost : (fun (e : Ending) (W' : World) => ∃ n b, e = .returned (.tuple #[.int .i64 n, .bool b]) ∧ FoundAt l p n b ∧ Below W.heap.size W W') = Q
 have hQ := Aside0.mk hpost
 clear hpost
 go_enter Tryd.func69, Tryd.ntmps69
 go_wp2
 go_loopw [9, 10] (fun i j wr => ∃ n m : Int, i = .int .i64 n ∧ j = .int .i64 m ∧ Aside0 (SearchRel l p W n m wr)) (fun i j _ => (intOf j - intOf i).toNat)
 case atStart => exact ⟨0, _, rfl, rfl, ⟨⟨by omega, by omega, by omega, fun t ht h => by omega, fun t ht h => by omega, Below.refl _ _⟩⟩⟩
 case round =>
  obtain ⟨n, m, rfl, rfl, HR⟩ := hrel
  have h0 := HR.out.1
  have h1 := HR.out.2.1
  have h2 := HR.out.2.2.1
  have HB := Aside0.mk HR.out.2.2.2.2.2
  by_cases hlt : n < m
  ·have c1 : decide (n < m) = true := decide_eq_true hlt
   have hh0 : 0 ≤ (n + m) / 2 := by omega
   have hh1 : (n + m) / 2 < (l.length : Int) := by omega
   obtain ⟨ad, A7, c7, rfl, x0, x1, x2, x3, x4, x5, x6, x7, x8, hl7, hC7⟩ := at_T38 (Kd.C_below HC.out HB.out) ((n + m) / 2) hh0 hh1
   have hx := rdN_at l _ hh0 hh1
   generalize rd_T38 l ((n + m) / 2) = x at hx x0 x1 x2 x3 x4 x5 x6 x7 x8 hl7 hC7
   have HX := Aside0.mk hx
   clear hx hC7 hl7
   go_wp2_with (go_at_call 70; refine (Find1_calls x A7 x.f5.length c7 p _).mono ?_; rintro e w' ⟨rfl, hb⟩)
   ·have hn : Lib.compareBytes x.f0.data.toList p.data.toList < 0 := by assumption
    have hltx : lt x.f0 p = true := by rw [lt_data]; exact (cmp_neg _ _).1 hn
    have hfin : SearchRel l p W ((n + m) / 2 + 1) m w' := by
     refine ⟨by omega, by omega, h2, fun t ht h => ?_, HR.out.2.2.2.2.1, HB.out.trans (hb.mono HB.out.size)⟩
     rcases Nat.lt_or_ge t ((n + m) / 2).toNat with h3 | h3
     ·have := riseB_at HRI.out t ((n + m) / 2).toNat ht (by omega) h3
      rw [← HX.out] at this
      exact lt_trans this hltx
     ·have e : t = ((n + m) / 2).toNat := by omega
      subst e
      rw [← HX.out]; exact hltx
    clear hltx hn hb
    go_roundw
    case rel => exact ⟨_, _, rfl, rfl, ⟨hfin⟩⟩
    case measure => simp [intOf]; omega
   ·have hn : 0 ≤ Lib.compareBytes x.f0.data.toList p.data.toList := by assumption
    have hltx : lt x.f0 p = false := by
     rw [lt_data, Bool.eq_false_iff]
     intro h
     have := (cmp_neg _ _).2 h
     omega
    have hfin : SearchRel l p W n ((n + m) / 2) w' := by
     refine ⟨h0, by omega, by omega, HR.out.2.2.2.1, fun t ht h => ?_, HB.out.trans (hb.mono HB.out.size)⟩
     rcases Nat.lt_or_ge ((n + m) / 2).toNat t with h3 | h3
     ·have := riseB_at HRI.out ((n + m) / 2).toNat t (by omega) ht h3
      rw [← HX.out] at this
      cases h4 : lt l[t].f0 p with
      | false => rfl
      | true =>
       have := lt_trans this h4
       rw [hltx] at this
       cases this
     ·have e : t = ((n + m) / 2).toNat := by omega
      subst e
      rw [← HX.out]; exact hltx
    clear hltx hn hb
    go_roundw
    case rel => exact ⟨_, _, rfl, rfl, ⟨hfin⟩⟩
    case measure => simp [intOf]; omega
  ·have c1 : decide (n < m) = false := decide_eq_false hlt
   obtain rfl : n = m := by omega
   by_cases hnl : n < (l.length : Int)
   ·have c2 : decide (n < (l.length : Int)) = true := decide_eq_true hnl
    obtain ⟨ad, A7, c7, rfl, x0, x1, x2, x3, x4, x5, x6, x7, x8, hl7, hC7⟩ := at_T38 (Kd.C_below HC.out HB.out) n h0 hnl
    have hx := rdN_at l _ h0 hnl
    generalize rd_T38 l n = x at hx x0 x1 x2 x3 x4 x5 x6 x7 x8 hl7 hC7
    have HX := Aside0.mk hx
    clear hx hC7 hl7
    go_wp2_with (go_at_call 70; refine (Find1_calls x A7 x.f5.length c7 p _).mono ?_; rintro e w' ⟨rfl, hb⟩)
    rw [← hQ.out]
    refine ⟨n, _, rfl, ⟨h0, h2, ?_, ?_⟩, HB.out.trans (hb.mono HB.out.size)⟩
    ·rw [beq_iff_eq, cmp_zero, ← Lib.toList_data, ← Lib.toList_data]
     constructor
     ·intro h; exact ⟨by omega, by rw [← HX.out]; exact h⟩
     ·rintro ⟨_, h⟩; rw [← HX.out] at h; exact h
    ·intro h i hi he
     rw [beq_eq_false_iff_ne, ne_eq, cmp_zero, ← Lib.toList_data, ← Lib.toList_data] at h
     rcases Nat.lt_trichotomy i n.toNat with h3 | h3 | h3
     ·exact lt_ne (HR.out.2.2.2.1 i hi (by omega)) he
     ·subst h3; rw [← HX.out] at he; exact h he
     ·have h4 := riseB_at HRI.out n.toNat i (by omega) hi h3
      have h5 := HR.out.2.2.2.2.1 n.toNat (by omega) (by omega)
      have h6 : lt l[n.toNat].f0 p = lt l[n.toNat].f0 l[i].f0 := by unfold lt; rw [he]
      rw [h6, h4] at h5
      cases h5
   ·have c2 : decide (n < (l.length : Int)) = false := decide_eq_false hnl
    go_wp2
    rw [← hQ.out]
    refine ⟨n, false, rfl, ⟨h0, h2, ⟨fun h => (by cases h), fun ⟨h, _⟩ => absurd h (by omega)⟩, fun _ i hi he => ?_⟩, HB.out⟩
    exact lt_ne (HR.out.2.2.2.1 i hi (by omega)) he
theorem below_put {B : Nat} {a w : World} (h : Below B a w) (g j : Nat) (hg : B ≤ g) (u : Value) : Below B a (w.setCell ⟨g, j, none⟩ u) := h.setCell (p := ⟨g, j, none⟩) hg u
theorem row_put {α : Type} {d : Kd α} {e base B : Nat} {w : World} {v : Value} {xs : List α} (h : d.R e w base (fun k => B ≤ k) v xs) (g j : Nat) (hg : g < B) (u : Value) : d.R e (w.setCell ⟨g, j, none⟩ u) base (fun k => B ≤ k) v xs :=
 Kd.R_far h (p := ⟨g, j, none⟩) (fun k hk e => by have : k = g := e; omega) u
def nodeCells (x : Node) (v : Value) : Array Value := #[.string x.f0, .string x.f1, .string x.f2, .int .u8 x.f3, .int .i64 x.f4.f0, .int .i64 x.f4.f1, .int .i64 x.f4.f2, .int .i64 x.f4.f3, v]
set_option maxRecDepth 100000 in
set_option maxHeartbeats 2000000 in
theorem Find_calls (A0 : Option Addr) (c0 : Nat) (l : List Node) (p : ByteArray) (W : World) (hC : Kd.C k38 W A0 l.length l) (hr : riseB l = true) (hz : NodesZ l) :
  Calls Tryd.prog 54 #[.slice A0 l.length c0, .string p] W fun e W' => ∃ x b v, (match findF l p with | some y => x = y ∧ b = true | none => x = z38 ∧ b = false) ∧ e = .returned (.tuple #[.agg (nodeCells x v), .bool b]) ∧ Kd.R (Kd.int .u8) 5 W' W.heap.size (fun _ => True) v x.f5 ∧ Below W.heap.size W W' := by
 have cS := fun W2 (h : Kd.C k38 W2 A0 l.length l) => Search_calls A0 c0 l p W2 h hr hz
 have HC := Aside0.mk hC
 have HZ := Aside0.mk hz
 have HS := Aside0.mk cS
 have HRI := Aside0.mk hr
 have hlen : (l.length : Int) ≤ 1000000000000 := by have := hz.1; omega
 clear hC hz cS hr
 generalize hpost : (fun (e : Ending) (W' : World) => ∃ x b v, (match findF l p with | some y => x = y ∧ b = true | none => x = z38 ∧ b = false) ∧ e = .returned (.tuple #[.agg (nodeCells x v), .bool b]) ∧ Kd.R (Kd.int .u8) 5 W' W.heap.size (fun _ => True) v x.f5 ∧ Below W.heap.size W W') = Q
 have hQ := Aside0.mk hpost
 clear hpost
 go_enter Tryd.func54, Tryd.ntmps54
 go_wp2_with (first
  | (go_at_call 69; refine (HS.out _ (Kd.C_alloc HC.out _)).mono ?_; rintro e w1 ⟨n, b, rfl, hF, hb1⟩; have HF := Aside0.mk hF; clear hF; obtain ⟨hc1, hf1⟩ := bcell hb1; have hz1 : W.heap.size < w1.heap.size := Nat.lt_of_lt_of_le (by simp) hb1.size; have HB1 := Aside0.mk hb1; clear hb1; cases b; all_goals (first | (obtain ⟨hnl, he⟩ := HF.out.2.2.1.1 rfl; have h0 := HF.out.1; have h1 : n < (l.length : Int) := (by omega); have HE := Aside0.mk he; clear he; obtain ⟨ad, A7, c7, rfl, x0, x1, x2, x3, x4, x5, x6, x7, x8, hl7, hC7⟩ := at_T38 (Kd.C_below HC.out (((Below.refl _ _).alloc (Nat.le_refl _) _).trans (HB1.out.mono (by simp)))) n h0 h1; have hx := rdN_at l _ h0 h1; generalize rd_T38 l n = x at hx x0 x1 x2 x3 x4 x5 x6 x7 x8 hl7 hC7; have HX := Aside0.mk hx; have HC7 := Aside0.mk hC7; clear hx hC7) | skip))
  | (go_at_call 50; refine (Clone_calls A7 c7 x.f5 _ (Kd.C_alloc HC7.out _) (by rw [HX.out]; exact (HZ.out.2 _ (List.getElem_mem _)).2.2.2)).mono ?_; rintro e w2 ⟨v, rfl, hR2, hb2⟩; obtain ⟨Av, cv, rfl, hlv, hCv⟩ := Kd.R_reads hR2; clear hlv hCv; obtain ⟨hc2, hf2⟩ := bcell hb2; have HR2 := Aside0.mk hR2; have HB2 := Aside0.mk hb2; clear hR2 hb2))
 ·have hB1 := ((Below.refl W.heap.size W).alloc (Nat.le_refl _) _).trans (HB1.out.mono (by simp))
  refine bodyPost_ret (v := .tuple #[.agg (nodeCells z38 (.slice none 0 0)), .bool false]) (by simp [results, Tryd.results54, go_sem, hc1, hz1, nodeCells, z38, z24]) rfl ?_
  have hfn := findF_none p (HF.out.2.2.2 rfl)
  rw [← hQ.out]
  refine ⟨z38, false, .slice none 0 0, by rw [hfn]; exact ⟨rfl, rfl⟩, rfl, Kd.R_nil _ _ _ _ _, ?_⟩
  repeat (with_reducible refine below_put ?_ _ _ (Nat.le_refl _) _)
  exact hB1
 ·have hB1 := ((Below.refl W.heap.size W).alloc (Nat.le_refl _) _).trans (HB1.out.mono (by simp))
  have hB2 := (hB1.alloc (by have := hB1.size; omega) _).trans (HB2.out.mono (by have := hB1.size; simp; omega))
  have hw2 := fun j => (hc2 W.heap.size j (by simp; omega)).trans ((((Below.refl w1.heap.size w1).alloc (Nat.le_refl _) _).cell (p := ⟨W.heap.size, j, none⟩) hz1).trans (hc1 W.heap.size j (by simp)))
  have hne1 : ¬ w1.heap.size = W.heap.size := by omega
  have hne2 : ¬ W.heap.size = w1.heap.size := by omega
  clear hc1 hf1 hc2 hf2
  refine bodyPost_ret (v := .tuple #[.agg (nodeCells x (.slice Av x.f5.length cv)), .bool true]) (by simp [results, Tryd.results54, go_sem, hw2, hne1, hne2, nodeCells]) rfl ?_
  have hfn := findF_at HRI.out p n.toNat hnl HE.out
  rw [← hQ.out]
  refine ⟨x, true, .slice Av x.f5.length cv, by rw [hfn, ← HX.out]; exact ⟨rfl, rfl⟩, rfl, ?_, ?_⟩
  ·have hR : (Kd.int .u8).R 5 w2 (w1.heap.size + 1) (fun k => w1.heap.size + 1 ≤ k) (.slice Av x.f5.length cv) x.f5 := Kd.R_mono (Kd.R_bound (by have := HR2.out; simpa using this)) (fun k hk => hk.2.1)
   refine Kd.R_lower (base := w1.heap.size + 1) (Kd.R_mono (ok := fun k => w1.heap.size + 1 ≤ k) ?_ (fun _ _ => trivial)) (by omega)
   repeat (with_reducible refine row_put ?_ _ _ (by omega) _)
   exact hR
  ·repeat (with_reducible refine below_put ?_ _ _ (by omega) _)
   exact hB2
end Go.Proofs.YtfmphccoeinhcaaDoor

namespace Go.Proofs.YtfmphccoeinhcaaDoor.Print
open Go.RowKit Go.Proofs.YtfmphccoeinhcaaDoorW.PrintWords Go.Proofs.YtfmphccoeinhcaaDoorW.PrintLast Go.Proofs.YtfmphccoeinhcaaDoorW.PrintMore
attribute [local go_sem] max2_int min2_int max_two min_two max_three min_three max_four min_four   -- for this text's walks alone
set_option linter.unusedVariables false
set_option linter.unusedSimpArgs false
attribute [local go_sem high] eqA24
def bindleref08_Equal.f (a0_0 : ByteArray) (a0_1 : ByteArray) (a0_2 : ByteArray) (a0_3 : Int) (a0_4 : Int) (a0_5 : Int) (a0_6 : Int) (a0_7 : Int) (l0_8 : List Int) (a1_0 : ByteArray) (a1_1 : ByteArray) (a1_2 : ByteArray) (a1_3 : Int) (a1_4 : Int) (a1_5 : Int) (a1_6 : Int) (a1_7 : Int) (l1_8 : List Int) : Option (Bool) := if a0_0.toList = a1_0.toList then (if a0_3 = a1_3 then (if (a0_4 == a1_4 && (a0_5 == a1_5 && (a0_6 == a1_6 && (a0_7 == a1_7)))) = true then (if a0_1.toList = a1_1.toList then (some ((strOfNums l0_8).toList == (strOfNums l1_8).toList)) else (some false)) else (some false)) else (some false)) else (some false)
set_option maxHeartbeats 8000000 in
set_option maxRecDepth 100000 in
theorem bindleref08_Equal.calls (a0_0 : ByteArray) (a0_1 : ByteArray) (a0_2 : ByteArray) (a0_3 : Int) (a0_4 : Int) (a0_5 : Int) (a0_6 : Int) (a0_7 : Int) (A0_8 : Option Addr) (c0_8 : Nat) (l0_8 : List Int) (a1_0 : ByteArray) (a1_1 : ByteArray) (a1_2 : ByteArray) (a1_3 : Int) (a1_4 : Int) (a1_5 : Int) (a1_6 : Int) (a1_7 : Int) (A1_8 : Option Addr) (c1_8 : Nat) (l1_8 : List Int) (r : Bool) (w : World) (hr0_8 : Kd.C (Kd.int .u8) w A0_8 l0_8.length l0_8) (hc0_8 : l0_8.length ≤ c0_8) (hr1_8 : Kd.C (Kd.int .u8) w A1_8 l1_8.length l1_8) (hc1_8 : l1_8.length ≤ c1_8) (h : bindleref08_Equal.f a0_0 a0_1 a0_2 a0_3 a0_4 a0_5 a0_6 a0_7 l0_8 a1_0 a1_1 a1_2 a1_3 a1_4 a1_5 a1_6 a1_7 l1_8 = some r) :
  Calls Tryd.prog 20 #[.agg #[.string a0_0, .string a0_1, .string a0_2, .int .u8 a0_3, .int .i64 a0_4, .int .i64 a0_5, .int .i64 a0_6, .int .i64 a0_7, .slice A0_8 l0_8.length c0_8], .agg #[.string a1_0, .string a1_1, .string a1_2, .int .u8 a1_3, .int .i64 a1_4, .int .i64 a1_5, .int .i64 a1_6, .int .i64 a1_7, .slice A1_8 l1_8.length c1_8]] w fun e w' => e = .returned (.bool r) ∧ Below w.heap.size w w' := by
 have hu38 := Tryd.underlying38
 have hu24 := Tryd.underlying24
 have HR0_8 := A0_ hr0_8
 have HC0_8 := A0_ hc0_8
 clear hr0_8 hc0_8
 have HR1_8 := A0_ hr1_8
 have HC1_8 := A0_ hc1_8
 clear hr1_8 hc1_8
 have HB := A0_ (Below.refl w.heap.size w)
 have H : (if a0_0.toList = a1_0.toList then (if a0_3 = a1_3 then (if (a0_4 == a1_4 && (a0_5 == a1_5 && (a0_6 == a1_6 && (a0_7 == a1_7)))) = true then (if a0_1.toList = a1_1.toList then (some ((strOfNums l0_8).toList == (strOfNums l1_8).toList)) else (some false)) else (some false)) else (some false)) else (some false)) = some r := h
 clear h
 by_cases c3 : a0_0.toList = a1_0.toList
 rotate_left
 ·rw [if_neg c3] at H
  have c3b0 : (a0_0.toList == a1_0.toList) = false := beq_eq_false_iff_ne.mpr c3
  have c3b1 : (a0_0.toList != a1_0.toList) = true := bne_iff_ne.mpr c3
  obtain rfl := Option.some.inj H
  go_enter Tryd.func20, Tryd.ntmps20
  go_wp2_with (first | ((with_reducible refine gate_dst (N := 2) rfl ?_); refine box_event ?hg (N := 2) ?hd (cs := #[.string a0_0, .string a0_1, .string a0_2, .int .u8 a0_3, .int .i64 a0_4, .int .i64 a0_5, .int .i64 a0_6, .int .i64 a0_7, .slice A0_8 l0_8.length c0_8]) (t := 38) ?hr ?_; (case hd => rfl); (case hg => rfl); (case hr => first | (go_simp; done) | (go_simp; rfl)); intro gb118 hg w29 hbox hb; have n0_ := A0_ (below_step (wb_ HB.out) hb); have n1_ := A0_ (hbox); have n2_ := A0_ ((by rw [hg]; exact (below_size (wb_ HB.out)) : w.heap.size ≤ gb118)); have n3_ := A0_ ((by rw [hg]; exact (below_size (wb_ HB.out)) : w.heap.size ≤ gb118)); clear HB; have HB := n0_; have BK118 := n1_; have GW118 := n2_; have GE118 := n3_; clear n0_ n1_ n2_ n3_; clear hb hbox hg) | ((with_reducible refine gate_dst (N := 3) rfl ?_); refine box_event ?hg (N := 3) ?hd (cs := #[.string a1_0, .string a1_1, .string a1_2, .int .u8 a1_3, .int .i64 a1_4, .int .i64 a1_5, .int .i64 a1_6, .int .i64 a1_7, .slice A1_8 l1_8.length c1_8]) (t := 38) ?hr ?_; (case hd => rfl); (case hg => rfl); (case hr => first | (go_simp; done) | (go_simp; rfl)); intro gb119 hg w30 hbox hb; have n0_ := A0_ (blk_below (g := gb118) (o := .cells #[.string a0_0, .string a0_1, .string a0_2, .int .u8 a0_3, .int .i64 a0_4, .int .i64 a0_5, .int .i64 a0_6, .int .i64 a0_7, .slice A0_8 l0_8.length c0_8] 38 (0, 0)) (wB_ BK118.out) hb); have n1_ := A0_ (below_step (wb1_ HB.out GE118.out) hb); have n2_ := A0_ (hbox); have n3_ := A0_ ((by rw [hg]; exact (below_size (wb1_ HB.out GE118.out)) : w.heap.size ≤ gb119)); have n4_ := A0_ ((by rw [hg]; exact (below_size (wb1_ HB.out GE118.out)) : w.heap.size ≤ gb119)); have n5_ := A0_ ((by rw [hg]; exact Nat.ne_of_lt (blk_lt (g := gb118) (o := .cells #[.string a0_0, .string a0_1, .string a0_2, .int .u8 a0_3, .int .i64 a0_4, .int .i64 a0_5, .int .i64 a0_6, .int .i64 a0_7, .slice A0_8 l0_8.length c0_8] 38 (0, 0)) (wB_ BK118.out)) : gb118 ≠ gb119)); have n6_ := A0_ ((by rw [hg]; exact Nat.ne_of_gt (blk_lt (g := gb118) (o := .cells #[.string a0_0, .string a0_1, .string a0_2, .int .u8 a0_3, .int .i64 a0_4, .int .i64 a0_5, .int .i64 a0_6, .int .i64 a0_7, .slice A0_8 l0_8.length c0_8] 38 (0, 0)) (wB_ BK118.out)) : gb119 ≠ gb118)); clear BK118; clear HB; have BK118 := n0_; have HB := n1_; have BK119 := n2_; have GW119 := n3_; have GE119 := n4_; have NB118_119 := n5_; have NB119_118 := n6_; clear n0_ n1_ n2_ n3_ n4_ n5_ n6_; clear hb hbox hg; have hnb31 := NB118_119.out; have hnc31 := NB119_118.out; have hcz32_0 : w30.cell? ⟨gb118, 0, none⟩ = some (.string a0_0) := (bc_ BK118.out 0).trans rfl; have hcz32_1 : w30.cell? ⟨gb118, 1, none⟩ = some (.string a0_1) := (bc_ BK118.out 1).trans rfl; have hcz32_2 : w30.cell? ⟨gb118, 2, none⟩ = some (.string a0_2) := (bc_ BK118.out 2).trans rfl; have hcz32_3 : w30.cell? ⟨gb118, 3, none⟩ = some (.int .u8 a0_3) := (bc_ BK118.out 3).trans rfl; have hcz32_4 : w30.cell? ⟨gb118, 4, none⟩ = some (.int .i64 a0_4) := (bc_ BK118.out 4).trans rfl; have hcz32_5 : w30.cell? ⟨gb118, 5, none⟩ = some (.int .i64 a0_5) := (bc_ BK118.out 5).trans rfl; have hcz32_6 : w30.cell? ⟨gb118, 6, none⟩ = some (.int .i64 a0_6) := (bc_ BK118.out 6).trans rfl; have hcz32_7 : w30.cell? ⟨gb118, 7, none⟩ = some (.int .i64 a0_7) := (bc_ BK118.out 7).trans rfl; have hcz32_8 : w30.cell? ⟨gb118, 8, none⟩ = some (.slice A0_8 l0_8.length c0_8) := (bc_ BK118.out 8).trans rfl; have hfz32_0 := bf_ BK118.out 0; have hfz32_1 := bf_ BK118.out 1; have hfz32_2 := bf_ BK118.out 2; have hfz32_3 := bf_ BK118.out 3; have hfz32_4 := bf_ BK118.out 4; have hfz32_5 := bf_ BK118.out 5; have hfz32_6 := bf_ BK118.out 6; have hfz32_7 := bf_ BK118.out 7; have hfz32_8 := bf_ BK118.out 8; have hcz33_0 : w30.cell? ⟨gb119, 0, none⟩ = some (.string a1_0) := (bc_ BK119.out 0).trans rfl; have hcz33_1 : w30.cell? ⟨gb119, 1, none⟩ = some (.string a1_1) := (bc_ BK119.out 1).trans rfl; have hcz33_2 : w30.cell? ⟨gb119, 2, none⟩ = some (.string a1_2) := (bc_ BK119.out 2).trans rfl; have hcz33_3 : w30.cell? ⟨gb119, 3, none⟩ = some (.int .u8 a1_3) := (bc_ BK119.out 3).trans rfl; have hcz33_4 : w30.cell? ⟨gb119, 4, none⟩ = some (.int .i64 a1_4) := (bc_ BK119.out 4).trans rfl; have hcz33_5 : w30.cell? ⟨gb119, 5, none⟩ = some (.int .i64 a1_5) := (bc_ BK119.out 5).trans rfl; have hcz33_6 : w30.cell? ⟨gb119, 6, none⟩ = some (.int .i64 a1_6) := (bc_ BK119.out 6).trans rfl; have hcz33_7 : w30.cell? ⟨gb119, 7, none⟩ = some (.int .i64 a1_7) := (bc_ BK119.out 7).trans rfl; have hcz33_8 : w30.cell? ⟨gb119, 8, none⟩ = some (.slice A1_8 l1_8.length c1_8) := (bc_ BK119.out 8).trans rfl; have hfz33_0 := bf_ BK119.out 0; have hfz33_1 := bf_ BK119.out 1; have hfz33_2 := bf_ BK119.out 2; have hfz33_3 := bf_ BK119.out 3; have hfz33_4 := bf_ BK119.out 4; have hfz33_5 := bf_ BK119.out 5; have hfz33_6 := bf_ BK119.out 6; have hfz33_7 := bf_ BK119.out 7; have hfz33_8 := bf_ BK119.out 8))
  go_ret
  exact ⟨we_, wb2_ HB.out GE118.out GE119.out⟩
 rw [if_pos c3] at H
 have c3b0 : (a0_0.toList == a1_0.toList) = true := beq_iff_eq.mpr c3
 have c3b1 : (a0_0.toList != a1_0.toList) = false := bne_eq_false_iff_eq.mpr c3
 clear c3
 by_cases c4 : a0_3 = a1_3
 rotate_left
 ·rw [if_neg c4] at H
  have c4b0 : (a0_3 == a1_3) = false := beq_eq_false_iff_ne.mpr c4
  have c4b1 : (a0_3 != a1_3) = true := bne_iff_ne.mpr c4
  obtain rfl := Option.some.inj H
  go_enter Tryd.func20, Tryd.ntmps20
  go_wp2_with (first | ((with_reducible refine gate_dst (N := 2) rfl ?_); refine box_event ?hg (N := 2) ?hd (cs := #[.string a0_0, .string a0_1, .string a0_2, .int .u8 a0_3, .int .i64 a0_4, .int .i64 a0_5, .int .i64 a0_6, .int .i64 a0_7, .slice A0_8 l0_8.length c0_8]) (t := 38) ?hr ?_; (case hd => rfl); (case hg => rfl); (case hr => first | (go_simp; done) | (go_simp; rfl)); intro gb118 hg w24 hbox hb; have n0_ := A0_ (below_step (wb_ HB.out) hb); have n1_ := A0_ (hbox); have n2_ := A0_ ((by rw [hg]; exact (below_size (wb_ HB.out)) : w.heap.size ≤ gb118)); have n3_ := A0_ ((by rw [hg]; exact (below_size (wb_ HB.out)) : w.heap.size ≤ gb118)); clear HB; have HB := n0_; have BK118 := n1_; have GW118 := n2_; have GE118 := n3_; clear n0_ n1_ n2_ n3_; clear hb hbox hg) | ((with_reducible refine gate_dst (N := 3) rfl ?_); refine box_event ?hg (N := 3) ?hd (cs := #[.string a1_0, .string a1_1, .string a1_2, .int .u8 a1_3, .int .i64 a1_4, .int .i64 a1_5, .int .i64 a1_6, .int .i64 a1_7, .slice A1_8 l1_8.length c1_8]) (t := 38) ?hr ?_; (case hd => rfl); (case hg => rfl); (case hr => first | (go_simp; done) | (go_simp; rfl)); intro gb119 hg w25 hbox hb; have n0_ := A0_ (blk_below (g := gb118) (o := .cells #[.string a0_0, .string a0_1, .string a0_2, .int .u8 a0_3, .int .i64 a0_4, .int .i64 a0_5, .int .i64 a0_6, .int .i64 a0_7, .slice A0_8 l0_8.length c0_8] 38 (0, 0)) (wB_ BK118.out) hb); have n1_ := A0_ (below_step (wb1_ HB.out GE118.out) hb); have n2_ := A0_ (hbox); have n3_ := A0_ ((by rw [hg]; exact (below_size (wb1_ HB.out GE118.out)) : w.heap.size ≤ gb119)); have n4_ := A0_ ((by rw [hg]; exact (below_size (wb1_ HB.out GE118.out)) : w.heap.size ≤ gb119)); have n5_ := A0_ ((by rw [hg]; exact Nat.ne_of_lt (blk_lt (g := gb118) (o := .cells #[.string a0_0, .string a0_1, .string a0_2, .int .u8 a0_3, .int .i64 a0_4, .int .i64 a0_5, .int .i64 a0_6, .int .i64 a0_7, .slice A0_8 l0_8.length c0_8] 38 (0, 0)) (wB_ BK118.out)) : gb118 ≠ gb119)); have n6_ := A0_ ((by rw [hg]; exact Nat.ne_of_gt (blk_lt (g := gb118) (o := .cells #[.string a0_0, .string a0_1, .string a0_2, .int .u8 a0_3, .int .i64 a0_4, .int .i64 a0_5, .int .i64 a0_6, .int .i64 a0_7, .slice A0_8 l0_8.length c0_8] 38 (0, 0)) (wB_ BK118.out)) : gb119 ≠ gb118)); clear BK118; clear HB; have BK118 := n0_; have HB := n1_; have BK119 := n2_; have GW119 := n3_; have GE119 := n4_; have NB118_119 := n5_; have NB119_118 := n6_; clear n0_ n1_ n2_ n3_ n4_ n5_ n6_; clear hb hbox hg; have hnb26 := NB118_119.out; have hnc26 := NB119_118.out; have hcz27_0 : w25.cell? ⟨gb118, 0, none⟩ = some (.string a0_0) := (bc_ BK118.out 0).trans rfl; have hcz27_1 : w25.cell? ⟨gb118, 1, none⟩ = some (.string a0_1) := (bc_ BK118.out 1).trans rfl; have hcz27_2 : w25.cell? ⟨gb118, 2, none⟩ = some (.string a0_2) := (bc_ BK118.out 2).trans rfl; have hcz27_3 : w25.cell? ⟨gb118, 3, none⟩ = some (.int .u8 a0_3) := (bc_ BK118.out 3).trans rfl; have hcz27_4 : w25.cell? ⟨gb118, 4, none⟩ = some (.int .i64 a0_4) := (bc_ BK118.out 4).trans rfl; have hcz27_5 : w25.cell? ⟨gb118, 5, none⟩ = some (.int .i64 a0_5) := (bc_ BK118.out 5).trans rfl; have hcz27_6 : w25.cell? ⟨gb118, 6, none⟩ = some (.int .i64 a0_6) := (bc_ BK118.out 6).trans rfl; have hcz27_7 : w25.cell? ⟨gb118, 7, none⟩ = some (.int .i64 a0_7) := (bc_ BK118.out 7).trans rfl; have hcz27_8 : w25.cell? ⟨gb118, 8, none⟩ = some (.slice A0_8 l0_8.length c0_8) := (bc_ BK118.out 8).trans rfl; have hfz27_0 := bf_ BK118.out 0; have hfz27_1 := bf_ BK118.out 1; have hfz27_2 := bf_ BK118.out 2; have hfz27_3 := bf_ BK118.out 3; have hfz27_4 := bf_ BK118.out 4; have hfz27_5 := bf_ BK118.out 5; have hfz27_6 := bf_ BK118.out 6; have hfz27_7 := bf_ BK118.out 7; have hfz27_8 := bf_ BK118.out 8; have hcz28_0 : w25.cell? ⟨gb119, 0, none⟩ = some (.string a1_0) := (bc_ BK119.out 0).trans rfl; have hcz28_1 : w25.cell? ⟨gb119, 1, none⟩ = some (.string a1_1) := (bc_ BK119.out 1).trans rfl; have hcz28_2 : w25.cell? ⟨gb119, 2, none⟩ = some (.string a1_2) := (bc_ BK119.out 2).trans rfl; have hcz28_3 : w25.cell? ⟨gb119, 3, none⟩ = some (.int .u8 a1_3) := (bc_ BK119.out 3).trans rfl; have hcz28_4 : w25.cell? ⟨gb119, 4, none⟩ = some (.int .i64 a1_4) := (bc_ BK119.out 4).trans rfl; have hcz28_5 : w25.cell? ⟨gb119, 5, none⟩ = some (.int .i64 a1_5) := (bc_ BK119.out 5).trans rfl; have hcz28_6 : w25.cell? ⟨gb119, 6, none⟩ = some (.int .i64 a1_6) := (bc_ BK119.out 6).trans rfl; have hcz28_7 : w25.cell? ⟨gb119, 7, none⟩ = some (.int .i64 a1_7) := (bc_ BK119.out 7).trans rfl; have hcz28_8 : w25.cell? ⟨gb119, 8, none⟩ = some (.slice A1_8 l1_8.length c1_8) := (bc_ BK119.out 8).trans rfl; have hfz28_0 := bf_ BK119.out 0; have hfz28_1 := bf_ BK119.out 1; have hfz28_2 := bf_ BK119.out 2; have hfz28_3 := bf_ BK119.out 3; have hfz28_4 := bf_ BK119.out 4; have hfz28_5 := bf_ BK119.out 5; have hfz28_6 := bf_ BK119.out 6; have hfz28_7 := bf_ BK119.out 7; have hfz28_8 := bf_ BK119.out 8))
  go_ret
  exact ⟨we_, wb2_ HB.out GE118.out GE119.out⟩
 rw [if_pos c4] at H
 have c4b0 : (a0_3 == a1_3) = true := beq_iff_eq.mpr c4
 have c4b1 : (a0_3 != a1_3) = false := bne_eq_false_iff_eq.mpr c4
 clear c4
 by_cases c5 : (a0_4 == a1_4 && (a0_5 == a1_5 && (a0_6 == a1_6 && (a0_7 == a1_7)))) = true
 rotate_left
 ·rw [if_neg c5] at H
  have c5b0 : (a0_4 == a1_4 && (a0_5 == a1_5 && (a0_6 == a1_6 && (a0_7 == a1_7)))) = false := by simpa using c5
  (try (have c5b1 : decide (a0_4 = a1_4 && (a0_5 == a1_5 && (a0_6 == a1_6 && (a0_7 == a1_7)))) = false := by simpa using c5))
  (try (have c5b2 : (a0_4 == a1_4 && (a0_5 == a1_5 && (a0_6 == a1_6 && (a0_7 == a1_7)))) = false := by simpa using c5))
  (try (have c5b3 : ¬ (a0_4 = a1_4 && (a0_5 == a1_5 && (a0_6 == a1_6 && (a0_7 == a1_7)))) := by simpa using c5))
  clear c5
  obtain rfl := Option.some.inj H
  go_enter Tryd.func20, Tryd.ntmps20
  go_wp2_with (first | ((with_reducible refine gate_dst (N := 2) rfl ?_); refine box_event ?hg (N := 2) ?hd (cs := #[.string a0_0, .string a0_1, .string a0_2, .int .u8 a0_3, .int .i64 a0_4, .int .i64 a0_5, .int .i64 a0_6, .int .i64 a0_7, .slice A0_8 l0_8.length c0_8]) (t := 38) ?hr ?_; (case hd => rfl); (case hg => rfl); (case hr => first | (go_simp; done) | (go_simp; rfl)); intro gb118 hg w19 hbox hb; have n0_ := A0_ (below_step (wb_ HB.out) hb); have n1_ := A0_ (hbox); have n2_ := A0_ ((by rw [hg]; exact (below_size (wb_ HB.out)) : w.heap.size ≤ gb118)); have n3_ := A0_ ((by rw [hg]; exact (below_size (wb_ HB.out)) : w.heap.size ≤ gb118)); clear HB; have HB := n0_; have BK118 := n1_; have GW118 := n2_; have GE118 := n3_; clear n0_ n1_ n2_ n3_; clear hb hbox hg) | ((with_reducible refine gate_dst (N := 3) rfl ?_); refine box_event ?hg (N := 3) ?hd (cs := #[.string a1_0, .string a1_1, .string a1_2, .int .u8 a1_3, .int .i64 a1_4, .int .i64 a1_5, .int .i64 a1_6, .int .i64 a1_7, .slice A1_8 l1_8.length c1_8]) (t := 38) ?hr ?_; (case hd => rfl); (case hg => rfl); (case hr => first | (go_simp; done) | (go_simp; rfl)); intro gb119 hg w20 hbox hb; have n0_ := A0_ (blk_below (g := gb118) (o := .cells #[.string a0_0, .string a0_1, .string a0_2, .int .u8 a0_3, .int .i64 a0_4, .int .i64 a0_5, .int .i64 a0_6, .int .i64 a0_7, .slice A0_8 l0_8.length c0_8] 38 (0, 0)) (wB_ BK118.out) hb); have n1_ := A0_ (below_step (wb1_ HB.out GE118.out) hb); have n2_ := A0_ (hbox); have n3_ := A0_ ((by rw [hg]; exact (below_size (wb1_ HB.out GE118.out)) : w.heap.size ≤ gb119)); have n4_ := A0_ ((by rw [hg]; exact (below_size (wb1_ HB.out GE118.out)) : w.heap.size ≤ gb119)); have n5_ := A0_ ((by rw [hg]; exact Nat.ne_of_lt (blk_lt (g := gb118) (o := .cells #[.string a0_0, .string a0_1, .string a0_2, .int .u8 a0_3, .int .i64 a0_4, .int .i64 a0_5, .int .i64 a0_6, .int .i64 a0_7, .slice A0_8 l0_8.length c0_8] 38 (0, 0)) (wB_ BK118.out)) : gb118 ≠ gb119)); have n6_ := A0_ ((by rw [hg]; exact Nat.ne_of_gt (blk_lt (g := gb118) (o := .cells #[.string a0_0, .string a0_1, .string a0_2, .int .u8 a0_3, .int .i64 a0_4, .int .i64 a0_5, .int .i64 a0_6, .int .i64 a0_7, .slice A0_8 l0_8.length c0_8] 38 (0, 0)) (wB_ BK118.out)) : gb119 ≠ gb118)); clear BK118; clear HB; have BK118 := n0_; have HB := n1_; have BK119 := n2_; have GW119 := n3_; have GE119 := n4_; have NB118_119 := n5_; have NB119_118 := n6_; clear n0_ n1_ n2_ n3_ n4_ n5_ n6_; clear hb hbox hg; have hnb21 := NB118_119.out; have hnc21 := NB119_118.out; have hcz22_0 : w20.cell? ⟨gb118, 0, none⟩ = some (.string a0_0) := (bc_ BK118.out 0).trans rfl; have hcz22_1 : w20.cell? ⟨gb118, 1, none⟩ = some (.string a0_1) := (bc_ BK118.out 1).trans rfl; have hcz22_2 : w20.cell? ⟨gb118, 2, none⟩ = some (.string a0_2) := (bc_ BK118.out 2).trans rfl; have hcz22_3 : w20.cell? ⟨gb118, 3, none⟩ = some (.int .u8 a0_3) := (bc_ BK118.out 3).trans rfl; have hcz22_4 : w20.cell? ⟨gb118, 4, none⟩ = some (.int .i64 a0_4) := (bc_ BK118.out 4).trans rfl; have hcz22_5 : w20.cell? ⟨gb118, 5, none⟩ = some (.int .i64 a0_5) := (bc_ BK118.out 5).trans rfl; have hcz22_6 : w20.cell? ⟨gb118, 6, none⟩ = some (.int .i64 a0_6) := (bc_ BK118.out 6).trans rfl; have hcz22_7 : w20.cell? ⟨gb118, 7, none⟩ = some (.int .i64 a0_7) := (bc_ BK118.out 7).trans rfl; have hcz22_8 : w20.cell? ⟨gb118, 8, none⟩ = some (.slice A0_8 l0_8.length c0_8) := (bc_ BK118.out 8).trans rfl; have hfz22_0 := bf_ BK118.out 0; have hfz22_1 := bf_ BK118.out 1; have hfz22_2 := bf_ BK118.out 2; have hfz22_3 := bf_ BK118.out 3; have hfz22_4 := bf_ BK118.out 4; have hfz22_5 := bf_ BK118.out 5; have hfz22_6 := bf_ BK118.out 6; have hfz22_7 := bf_ BK118.out 7; have hfz22_8 := bf_ BK118.out 8; have hcz23_0 : w20.cell? ⟨gb119, 0, none⟩ = some (.string a1_0) := (bc_ BK119.out 0).trans rfl; have hcz23_1 : w20.cell? ⟨gb119, 1, none⟩ = some (.string a1_1) := (bc_ BK119.out 1).trans rfl; have hcz23_2 : w20.cell? ⟨gb119, 2, none⟩ = some (.string a1_2) := (bc_ BK119.out 2).trans rfl; have hcz23_3 : w20.cell? ⟨gb119, 3, none⟩ = some (.int .u8 a1_3) := (bc_ BK119.out 3).trans rfl; have hcz23_4 : w20.cell? ⟨gb119, 4, none⟩ = some (.int .i64 a1_4) := (bc_ BK119.out 4).trans rfl; have hcz23_5 : w20.cell? ⟨gb119, 5, none⟩ = some (.int .i64 a1_5) := (bc_ BK119.out 5).trans rfl; have hcz23_6 : w20.cell? ⟨gb119, 6, none⟩ = some (.int .i64 a1_6) := (bc_ BK119.out 6).trans rfl; have hcz23_7 : w20.cell? ⟨gb119, 7, none⟩ = some (.int .i64 a1_7) := (bc_ BK119.out 7).trans rfl; have hcz23_8 : w20.cell? ⟨gb119, 8, none⟩ = some (.slice A1_8 l1_8.length c1_8) := (bc_ BK119.out 8).trans rfl; have hfz23_0 := bf_ BK119.out 0; have hfz23_1 := bf_ BK119.out 1; have hfz23_2 := bf_ BK119.out 2; have hfz23_3 := bf_ BK119.out 3; have hfz23_4 := bf_ BK119.out 4; have hfz23_5 := bf_ BK119.out 5; have hfz23_6 := bf_ BK119.out 6; have hfz23_7 := bf_ BK119.out 7; have hfz23_8 := bf_ BK119.out 8))
  go_ret
  exact ⟨we_, wb2_ HB.out GE118.out GE119.out⟩
 rw [if_pos c5] at H
 have c5b0 : (a0_4 == a1_4 && (a0_5 == a1_5 && (a0_6 == a1_6 && (a0_7 == a1_7)))) = true := c5
 (try (have c5b1 : decide (a0_4 = a1_4 && (a0_5 == a1_5 && (a0_6 == a1_6 && (a0_7 == a1_7)))) = true := by simpa using c5))
 (try (have c5b2 : (a0_4 == a1_4 && (a0_5 == a1_5 && (a0_6 == a1_6 && (a0_7 == a1_7)))) = true := by simpa using c5))
 clear c5
 by_cases c6 : a0_1.toList = a1_1.toList
 rotate_left
 ·rw [if_neg c6] at H
  have c6b0 : (a0_1.toList == a1_1.toList) = false := beq_eq_false_iff_ne.mpr c6
  have c6b1 : (a0_1.toList != a1_1.toList) = true := bne_iff_ne.mpr c6
  obtain rfl := Option.some.inj H
  go_enter Tryd.func20, Tryd.ntmps20
  go_wp2_with (first | ((with_reducible refine gate_dst (N := 2) rfl ?_); refine box_event ?hg (N := 2) ?hd (cs := #[.string a0_0, .string a0_1, .string a0_2, .int .u8 a0_3, .int .i64 a0_4, .int .i64 a0_5, .int .i64 a0_6, .int .i64 a0_7, .slice A0_8 l0_8.length c0_8]) (t := 38) ?hr ?_; (case hd => rfl); (case hg => rfl); (case hr => first | (go_simp; done) | (go_simp; rfl)); intro gb118 hg w14 hbox hb; have n0_ := A0_ (below_step (wb_ HB.out) hb); have n1_ := A0_ (hbox); have n2_ := A0_ ((by rw [hg]; exact (below_size (wb_ HB.out)) : w.heap.size ≤ gb118)); have n3_ := A0_ ((by rw [hg]; exact (below_size (wb_ HB.out)) : w.heap.size ≤ gb118)); clear HB; have HB := n0_; have BK118 := n1_; have GW118 := n2_; have GE118 := n3_; clear n0_ n1_ n2_ n3_; clear hb hbox hg) | ((with_reducible refine gate_dst (N := 3) rfl ?_); refine box_event ?hg (N := 3) ?hd (cs := #[.string a1_0, .string a1_1, .string a1_2, .int .u8 a1_3, .int .i64 a1_4, .int .i64 a1_5, .int .i64 a1_6, .int .i64 a1_7, .slice A1_8 l1_8.length c1_8]) (t := 38) ?hr ?_; (case hd => rfl); (case hg => rfl); (case hr => first | (go_simp; done) | (go_simp; rfl)); intro gb119 hg w15 hbox hb; have n0_ := A0_ (blk_below (g := gb118) (o := .cells #[.string a0_0, .string a0_1, .string a0_2, .int .u8 a0_3, .int .i64 a0_4, .int .i64 a0_5, .int .i64 a0_6, .int .i64 a0_7, .slice A0_8 l0_8.length c0_8] 38 (0, 0)) (wB_ BK118.out) hb); have n1_ := A0_ (below_step (wb1_ HB.out GE118.out) hb); have n2_ := A0_ (hbox); have n3_ := A0_ ((by rw [hg]; exact (below_size (wb1_ HB.out GE118.out)) : w.heap.size ≤ gb119)); have n4_ := A0_ ((by rw [hg]; exact (below_size (wb1_ HB.out GE118.out)) : w.heap.size ≤ gb119)); have n5_ := A0_ ((by rw [hg]; exact Nat.ne_of_lt (blk_lt (g := gb118) (o := .cells #[.string a0_0, .string a0_1, .string a0_2, .int .u8 a0_3, .int .i64 a0_4, .int .i64 a0_5, .int .i64 a0_6, .int .i64 a0_7, .slice A0_8 l0_8.length c0_8] 38 (0, 0)) (wB_ BK118.out)) : gb118 ≠ gb119)); have n6_ := A0_ ((by rw [hg]; exact Nat.ne_of_gt (blk_lt (g := gb118) (o := .cells #[.string a0_0, .string a0_1, .string a0_2, .int .u8 a0_3, .int .i64 a0_4, .int .i64 a0_5, .int .i64 a0_6, .int .i64 a0_7, .slice A0_8 l0_8.length c0_8] 38 (0, 0)) (wB_ BK118.out)) : gb119 ≠ gb118)); clear BK118; clear HB; have BK118 := n0_; have HB := n1_; have BK119 := n2_; have GW119 := n3_; have GE119 := n4_; have NB118_119 := n5_; have NB119_118 := n6_; clear n0_ n1_ n2_ n3_ n4_ n5_ n6_; clear hb hbox hg; have hnb16 := NB118_119.out; have hnc16 := NB119_118.out; have hcz17_0 : w15.cell? ⟨gb118, 0, none⟩ = some (.string a0_0) := (bc_ BK118.out 0).trans rfl; have hcz17_1 : w15.cell? ⟨gb118, 1, none⟩ = some (.string a0_1) := (bc_ BK118.out 1).trans rfl; have hcz17_2 : w15.cell? ⟨gb118, 2, none⟩ = some (.string a0_2) := (bc_ BK118.out 2).trans rfl; have hcz17_3 : w15.cell? ⟨gb118, 3, none⟩ = some (.int .u8 a0_3) := (bc_ BK118.out 3).trans rfl; have hcz17_4 : w15.cell? ⟨gb118, 4, none⟩ = some (.int .i64 a0_4) := (bc_ BK118.out 4).trans rfl; have hcz17_5 : w15.cell? ⟨gb118, 5, none⟩ = some (.int .i64 a0_5) := (bc_ BK118.out 5).trans rfl; have hcz17_6 : w15.cell? ⟨gb118, 6, none⟩ = some (.int .i64 a0_6) := (bc_ BK118.out 6).trans rfl; have hcz17_7 : w15.cell? ⟨gb118, 7, none⟩ = some (.int .i64 a0_7) := (bc_ BK118.out 7).trans rfl; have hcz17_8 : w15.cell? ⟨gb118, 8, none⟩ = some (.slice A0_8 l0_8.length c0_8) := (bc_ BK118.out 8).trans rfl; have hfz17_0 := bf_ BK118.out 0; have hfz17_1 := bf_ BK118.out 1; have hfz17_2 := bf_ BK118.out 2; have hfz17_3 := bf_ BK118.out 3; have hfz17_4 := bf_ BK118.out 4; have hfz17_5 := bf_ BK118.out 5; have hfz17_6 := bf_ BK118.out 6; have hfz17_7 := bf_ BK118.out 7; have hfz17_8 := bf_ BK118.out 8; have hcz18_0 : w15.cell? ⟨gb119, 0, none⟩ = some (.string a1_0) := (bc_ BK119.out 0).trans rfl; have hcz18_1 : w15.cell? ⟨gb119, 1, none⟩ = some (.string a1_1) := (bc_ BK119.out 1).trans rfl; have hcz18_2 : w15.cell? ⟨gb119, 2, none⟩ = some (.string a1_2) := (bc_ BK119.out 2).trans rfl; have hcz18_3 : w15.cell? ⟨gb119, 3, none⟩ = some (.int .u8 a1_3) := (bc_ BK119.out 3).trans rfl; have hcz18_4 : w15.cell? ⟨gb119, 4, none⟩ = some (.int .i64 a1_4) := (bc_ BK119.out 4).trans rfl; have hcz18_5 : w15.cell? ⟨gb119, 5, none⟩ = some (.int .i64 a1_5) := (bc_ BK119.out 5).trans rfl; have hcz18_6 : w15.cell? ⟨gb119, 6, none⟩ = some (.int .i64 a1_6) := (bc_ BK119.out 6).trans rfl; have hcz18_7 : w15.cell? ⟨gb119, 7, none⟩ = some (.int .i64 a1_7) := (bc_ BK119.out 7).trans rfl; have hcz18_8 : w15.cell? ⟨gb119, 8, none⟩ = some (.slice A1_8 l1_8.length c1_8) := (bc_ BK119.out 8).trans rfl; have hfz18_0 := bf_ BK119.out 0; have hfz18_1 := bf_ BK119.out 1; have hfz18_2 := bf_ BK119.out 2; have hfz18_3 := bf_ BK119.out 3; have hfz18_4 := bf_ BK119.out 4; have hfz18_5 := bf_ BK119.out 5; have hfz18_6 := bf_ BK119.out 6; have hfz18_7 := bf_ BK119.out 7; have hfz18_8 := bf_ BK119.out 8))
  go_ret
  exact ⟨we_, wb2_ HB.out GE118.out GE119.out⟩
 rw [if_pos c6] at H
 have c6b0 : (a0_1.toList == a1_1.toList) = true := beq_iff_eq.mpr c6
 have c6b1 : (a0_1.toList != a1_1.toList) = false := bne_eq_false_iff_eq.mpr c6
 clear c6
 obtain rfl := Option.some.inj H
 go_enter Tryd.func20, Tryd.ntmps20
 go_wp2_with (first | ((with_reducible refine gate_dst (N := 2) rfl ?_); refine box_event ?hg (N := 2) ?hd (cs := #[.string a0_0, .string a0_1, .string a0_2, .int .u8 a0_3, .int .i64 a0_4, .int .i64 a0_5, .int .i64 a0_6, .int .i64 a0_7, .slice A0_8 l0_8.length c0_8]) (t := 38) ?hr ?_; (case hd => rfl); (case hg => rfl); (case hr => first | (go_simp; done) | (go_simp; rfl)); intro gb118 hg w7 hbox hb; have n0_ := A0_ (below_step (wb_ HB.out) hb); have n1_ := A0_ (hbox); have n2_ := A0_ ((by rw [hg]; exact (below_size (wb_ HB.out)) : w.heap.size ≤ gb118)); have n3_ := A0_ ((by rw [hg]; exact (below_size (wb_ HB.out)) : w.heap.size ≤ gb118)); clear HB; have HB := n0_; have BK118 := n1_; have GW118 := n2_; have GE118 := n3_; clear n0_ n1_ n2_ n3_; clear hb hbox hg) | ((with_reducible refine gate_dst (N := 3) rfl ?_); refine box_event ?hg (N := 3) ?hd (cs := #[.string a1_0, .string a1_1, .string a1_2, .int .u8 a1_3, .int .i64 a1_4, .int .i64 a1_5, .int .i64 a1_6, .int .i64 a1_7, .slice A1_8 l1_8.length c1_8]) (t := 38) ?hr ?_; (case hd => rfl); (case hg => rfl); (case hr => first | (go_simp; done) | (go_simp; rfl)); intro gb119 hg w8 hbox hb; have n0_ := A0_ (blk_below (g := gb118) (o := .cells #[.string a0_0, .string a0_1, .string a0_2, .int .u8 a0_3, .int .i64 a0_4, .int .i64 a0_5, .int .i64 a0_6, .int .i64 a0_7, .slice A0_8 l0_8.length c0_8] 38 (0, 0)) (wB_ BK118.out) hb); have n1_ := A0_ (below_step (wb1_ HB.out GE118.out) hb); have n2_ := A0_ (hbox); have n3_ := A0_ ((by rw [hg]; exact (below_size (wb1_ HB.out GE118.out)) : w.heap.size ≤ gb119)); have n4_ := A0_ ((by rw [hg]; exact (below_size (wb1_ HB.out GE118.out)) : w.heap.size ≤ gb119)); have n5_ := A0_ ((by rw [hg]; exact Nat.ne_of_lt (blk_lt (g := gb118) (o := .cells #[.string a0_0, .string a0_1, .string a0_2, .int .u8 a0_3, .int .i64 a0_4, .int .i64 a0_5, .int .i64 a0_6, .int .i64 a0_7, .slice A0_8 l0_8.length c0_8] 38 (0, 0)) (wB_ BK118.out)) : gb118 ≠ gb119)); have n6_ := A0_ ((by rw [hg]; exact Nat.ne_of_gt (blk_lt (g := gb118) (o := .cells #[.string a0_0, .string a0_1, .string a0_2, .int .u8 a0_3, .int .i64 a0_4, .int .i64 a0_5, .int .i64 a0_6, .int .i64 a0_7, .slice A0_8 l0_8.length c0_8] 38 (0, 0)) (wB_ BK118.out)) : gb119 ≠ gb118)); clear BK118; clear HB; have BK118 := n0_; have HB := n1_; have BK119 := n2_; have GW119 := n3_; have GE119 := n4_; have NB118_119 := n5_; have NB119_118 := n6_; clear n0_ n1_ n2_ n3_ n4_ n5_ n6_; clear hb hbox hg; have hnb9 := NB118_119.out; have hnc9 := NB119_118.out; have hcz10_0 : w8.cell? ⟨gb118, 0, none⟩ = some (.string a0_0) := (bc_ BK118.out 0).trans rfl; have hcz10_1 : w8.cell? ⟨gb118, 1, none⟩ = some (.string a0_1) := (bc_ BK118.out 1).trans rfl; have hcz10_2 : w8.cell? ⟨gb118, 2, none⟩ = some (.string a0_2) := (bc_ BK118.out 2).trans rfl; have hcz10_3 : w8.cell? ⟨gb118, 3, none⟩ = some (.int .u8 a0_3) := (bc_ BK118.out 3).trans rfl; have hcz10_4 : w8.cell? ⟨gb118, 4, none⟩ = some (.int .i64 a0_4) := (bc_ BK118.out 4).trans rfl; have hcz10_5 : w8.cell? ⟨gb118, 5, none⟩ = some (.int .i64 a0_5) := (bc_ BK118.out 5).trans rfl; have hcz10_6 : w8.cell? ⟨gb118, 6, none⟩ = some (.int .i64 a0_6) := (bc_ BK118.out 6).trans rfl; have hcz10_7 : w8.cell? ⟨gb118, 7, none⟩ = some (.int .i64 a0_7) := (bc_ BK118.out 7).trans rfl; have hcz10_8 : w8.cell? ⟨gb118, 8, none⟩ = some (.slice A0_8 l0_8.length c0_8) := (bc_ BK118.out 8).trans rfl; have hfz10_0 := bf_ BK118.out 0; have hfz10_1 := bf_ BK118.out 1; have hfz10_2 := bf_ BK118.out 2; have hfz10_3 := bf_ BK118.out 3; have hfz10_4 := bf_ BK118.out 4; have hfz10_5 := bf_ BK118.out 5; have hfz10_6 := bf_ BK118.out 6; have hfz10_7 := bf_ BK118.out 7; have hfz10_8 := bf_ BK118.out 8; have hcz11_0 : w8.cell? ⟨gb119, 0, none⟩ = some (.string a1_0) := (bc_ BK119.out 0).trans rfl; have hcz11_1 : w8.cell? ⟨gb119, 1, none⟩ = some (.string a1_1) := (bc_ BK119.out 1).trans rfl; have hcz11_2 : w8.cell? ⟨gb119, 2, none⟩ = some (.string a1_2) := (bc_ BK119.out 2).trans rfl; have hcz11_3 : w8.cell? ⟨gb119, 3, none⟩ = some (.int .u8 a1_3) := (bc_ BK119.out 3).trans rfl; have hcz11_4 : w8.cell? ⟨gb119, 4, none⟩ = some (.int .i64 a1_4) := (bc_ BK119.out 4).trans rfl; have hcz11_5 : w8.cell? ⟨gb119, 5, none⟩ = some (.int .i64 a1_5) := (bc_ BK119.out 5).trans rfl; have hcz11_6 : w8.cell? ⟨gb119, 6, none⟩ = some (.int .i64 a1_6) := (bc_ BK119.out 6).trans rfl; have hcz11_7 : w8.cell? ⟨gb119, 7, none⟩ = some (.int .i64 a1_7) := (bc_ BK119.out 7).trans rfl; have hcz11_8 : w8.cell? ⟨gb119, 8, none⟩ = some (.slice A1_8 l1_8.length c1_8) := (bc_ BK119.out 8).trans rfl; have hfz11_0 := bf_ BK119.out 0; have hfz11_1 := bf_ BK119.out 1; have hfz11_2 := bf_ BK119.out 2; have hfz11_3 := bf_ BK119.out 3; have hfz11_4 := bf_ BK119.out 4; have hfz11_5 := bf_ BK119.out 5; have hfz11_6 := bf_ BK119.out 6; have hfz11_7 := bf_ BK119.out 7; have hfz11_8 := bf_ BK119.out 8; have hcv12 := Kd.C_string (P := Tryd.prog) (A := A0_8) (c := c0_8) Tryd.underlying25 Tryd.underlying5 Tryd.underlying9 (Kd.C_below HR0_8.out HB.out); have hcv13 := Kd.C_string (P := Tryd.prog) (A := A1_8) (c := c1_8) Tryd.underlying25 Tryd.underlying5 Tryd.underlying9 (Kd.C_below HR1_8.out HB.out)))
 go_ret
 exact ⟨we_, wb2_ HB.out GE118.out GE119.out⟩
end Go.Proofs.YtfmphccoeinhcaaDoor.Print

namespace Go.Proofs.YtfmphccoeinhcaaDoor.Print
open Go.RowKit Go.Proofs.YtfmphccoeinhcaaDoorW.PrintWords Go.Proofs.YtfmphccoeinhcaaDoorW.PrintLast Go.Proofs.YtfmphccoeinhcaaDoorW.PrintMore
attribute [local go_sem] max2_int min2_int max_two min_two max_three min_three max_four min_four   -- for this text's walks alone
set_option linter.unusedVariables false
set_option linter.unusedSimpArgs false
end Go.Proofs.YtfmphccoeinhcaaDoor.Print

namespace Go.Proofs.YtfmphccoeinhcaaDoor
open Go.RowKit Go.Proofs.YtfmphccoeinhcaaDoor.Print Go.Proofs.YtfmphccoeinhcaaDoorW.PrintWords
set_option linter.unusedVariables false
theorem requal_f (a b : Node) : bindleref08_Equal.f a.f0 a.f1 a.f2 a.f3 a.f4.f0 a.f4.f1 a.f4.f2 a.f4.f3 a.f5 b.f0 b.f1 b.f2 b.f3 b.f4.f0 b.f4.f1 b.f4.f2 b.f4.f3 b.f5 = some (equalB a b) := by
 unfold bindleref08_Equal.f
 exact equal_chain a b rfl
end Go.Proofs.YtfmphccoeinhcaaDoor

namespace Go.Proofs.YtfmphccoeinhcaaDoor
open Go.RowKit Go.Maps Go.Proofs.YtfmphccoeinhcaaDoor.Print Go.Proofs.YtfmphccoeinhcaaDoorW.PrintWords Go.Proofs.YtfmphccoeinhcaaDoorW.PrintLast Go.Proofs.YtfmphccoeinhcaaDoorW.PrintMore
set_option linter.unusedVariables false
set_option linter.unusedSimpArgs false
def memCells (m : Mem) (v : Value) : Array Value := #[.string m.f0, .string m.f1, .int .u8 m.f2, .int .i64 m.f3.f0, .int .i64 m.f3.f1, .int .i64 m.f3.f2, .int .i64 m.f3.f3, v]
end Go.Proofs.YtfmphccoeinhcaaDoor

namespace Go.Proofs.YtfmphccoeinhcaaDoor
open Go.RowKit Go.Maps Go.Proofs.YtfmphccoeinhcaaDoor.Print Go.Proofs.YtfmphccoeinhcaaDoorW.PrintWords Go.Proofs.YtfmphccoeinhcaaDoorW.PrintLast Go.Proofs.YtfmphccoeinhcaaDoorW.PrintMore
set_option linter.unusedVariables false
set_option linter.unusedSimpArgs false
theorem fcell {w : World} {p : Addr} {v : Value} (h : w.cell? p = some v) (o : Obj) : (w.alloc o).cell? p = some v := ((below_alloc (Below.refl _ _) o).cell (World.block_lt_of_cell? w _ h)).trans h
theorem fkeep {w w1 : World} {p : Addr} {v : Value} (hb : Below w.heap.size w w1) (h : w.cell? p = some v) : w1.cell? p = some v := (hb.cell (World.block_lt_of_cell? w _ h)).trans h
def thingCells (m : Mem) (v : Value) (ld : ByteArray) : Array Value := #[.int .u8 m.f2, .int .i64 m.f3.f0, .int .i64 m.f3.f1, .int .i64 m.f3.f2, .int .i64 m.f3.f3, .string m.f1, v, .string ld]
def ThingAt (w : World) (base b : Nat) (m : Mem) (ld : ByteArray) : Prop :=
 base ≤ b ∧ ∃ v, w.heap[b]? = some (.cells (thingCells m v ld) 102 (0, 0)) ∧ Kd.R (Kd.int .u8) 5 w base (fun _ => True) v m.f4
theorem blk_lt' {w : World} {b : Nat} {o : Obj} (h : w.heap[b]? = some o) : b < w.heap.size := (Array.getElem?_eq_some_iff.1 h).1
theorem ThingAt.lt {w : World} {base b : Nat} {m : Mem} {ld : ByteArray} (h : ThingAt w base b m ld) : b < w.heap.size := by
 obtain ⟨_, v, hb, _⟩ := h
 exact blk_lt' hb
theorem ThingAt.below {w w1 : World} {base b : Nat} {m : Mem} {ld : ByteArray} (h : ThingAt w base b m ld) (hb : Below w.heap.size w w1) : ThingAt w1 base b m ld := by
 obtain ⟨h0, v, h1, h2⟩ := h
 exact ⟨h0, v, (hb.block b (blk_lt' h1)).trans h1, Kd.R_below h2 hb⟩
theorem ThingAt.grown {w w1 : World} {base b g : Nat} {m : Mem} {ld : ByteArray} (h : ThingAt w base b m ld) (hg : w.grownBy w1 (some g)) (ho : ∀ cs q, w.heap[g]? = some (.cells cs q (0, 0)) → q ≠ 102 ∧ q ≠ 5) : ThingAt w1 base b m ld := by
 obtain ⟨h0, v, h1, h2⟩ := h
 refine ⟨h0, v, (hg.block b (blk_lt' h1) (fun e => by injection e with e; subst e; exact (ho _ _ h1).1 rfl)).trans h1, ?_⟩
 refine Kd.R_mono (Kd.R_grown (Kd.R_bound h2) hg (fun k hk e => ?_)) (fun _ _ => trivial)
 injection e with e
 subst e
 obtain ⟨_, _, _, q, hq, cs, hc⟩ := hk
 have hq2 : q = 5 := by
  rcases List.mem_cons.1 hq with h | h
  ·exact h
  ·cases h
 subst hq2
 exact (ho _ _ hc).2 rfl
theorem MapS.isMap {P : Program} {K : TypeId} {w : World} {b n : Nat} {f : List UInt8 → Option Value} (h : MapS P K w b n f) : ∀ cs q, w.heap[b]? = some (.cells cs q (0, 0)) → False := by
 obtain ⟨D, ⟨es, clock, hb, _⟩, _⟩ := h
 intro cs q h2
 rw [hb] at h2
 cases h2
def dirV (B : Nat → Nat) (s : PS) : List UInt8 → Option Value := fun k => (atD s k).map (fun c => Value.pointer (some ⟨B c, 0, none⟩))
def DirS (w : World) (base d i : Nat) (l : List Mem) (s : PS) (B : Nat → Nat) : Prop :=
 MapS Tryd.prog 9 w d i (dirV B s) ∧ (∀ c m, l[c]? = some m → c < i → ¬ m.f2 = 49 → ThingAt w base (B c) m emp) ∧
  (∀ c c' m m', c < c' → c' < i → l[c]? = some m → ¬ m.f2 = 49 → l[c']? = some m' → ¬ m'.f2 = 49 → B c ≠ B c')
theorem dirV_put (B : Nat → Nat) (s : PS) (p : ByteArray) (c : Nat) (t : List UInt8) : putS (dirV B s) p.data.toList (.pointer (some ⟨B c, 0, none⟩)) t = dirV B (putP s p c) t := by
 unfold putS dirV
 rw [atD_put]
 by_cases h : t = p.data.toList
 ·rw [if_pos h, if_pos h]; rfl
 ·rw [if_neg h, if_neg h]
theorem dirV_eq {B B' : Nat → Nat} {s : PS} (h : ∀ q ∈ s, B q.2 = B' q.2) (t : List UInt8) : dirV B s t = dirV B' s t := by
 unfold dirV
 cases ha : atD s t with
 | none => rfl
 | some c =>
  obtain ⟨q, hq, _, rfl⟩ := atD_mem ha
  simp [h q hq]
theorem DirS.start (w : World) (base : Nat) (l : List Mem) (B : Nat → Nat) : DirS (w.alloc (.map #[] 0)) base w.heap.size 0 l [] B :=
 ⟨(MapS.made _ _ _).ext (fun s => rfl), fun c m _ h => absurd h (Nat.not_lt_zero _), fun c c' m m' _ h => absurd h (Nat.not_lt_zero _)⟩
theorem DirS.below {w w1 : World} {base d i : Nat} {l : List Mem} {s : PS} {B : Nat → Nat} (h : DirS w base d i l s B) (hb : Below w.heap.size w w1) : DirS w1 base d i l s B :=
 ⟨h.1.below hb, fun c m hm hc h49 => (h.2.1 c m hm hc h49).below hb, h.2.2⟩
theorem DirS.name {w w1 : World} {base d i : Nat} {l : List Mem} {s : PS} {B : Nat → Nat} (h : DirS w base d i l s B) {m : Mem} (hm : l[i]? = some m) (h49 : m.f2 = 49) {p : ByteArray} {c : Nat} (hM : MapS Tryd.prog 9 w1 d (i + 1) (putS (dirV B s) p.data.toList (.pointer (some ⟨B c, 0, none⟩)))) (hg : w.grownBy w1 (some d)) :
  DirS w1 base d (i + 1) l (putP s p c) B := by
 refine ⟨hM.ext (dirV_put B s p c), fun c' m' hm' hc' hn => ?_, fun c1 c2 m1 m2 h1 h2 h3 h4 h5 h6 => ?_⟩
 ·have hlt : c' < i := by
   rcases Nat.lt_or_ge c' i with h1 | h1
   ·exact h1
   ·obtain rfl : c' = i := by omega
    rw [hm] at hm'
    cases hm'
    exact absurd h49 hn
  exact (h.2.1 c' m' hm' hlt hn).grown hg (fun cs q hc => (h.1.isMap cs q hc).elim)
 ·refine h.2.2 c1 c2 m1 m2 h1 ?_ h3 h4 h5 h6
  rcases Nat.lt_or_ge c2 i with h7 | h7
  ·exact h7
  ·obtain rfl : c2 = i := by omega
   rw [hm] at h5
   cases h5
   exact absurd h49 h6
theorem DirS.add {w w1 : World} {base d i : Nat} {l : List Mem} {s : PS} {B : Nat → Nat} (h : DirS w base d i l s B) (hI : FInv l i s) {m : Mem} (hm : l[i]? = some m) {b : Nat} (hb : ∀ c m', l[c]? = some m' → c < i → ¬ m'.f2 = 49 → B c < b) (hT : ThingAt w base b m emp)
  {p : ByteArray} (hM : MapS Tryd.prog 9 w1 d (i + 1) (putS (dirV B s) p.data.toList (.pointer (some ⟨b, 0, none⟩)))) (hg : w.grownBy w1 (some d)) :
  DirS w1 base d (i + 1) l (putP s p i) (fun c => if c = i then b else B c) := by
 have hB : ∀ q ∈ s, B q.2 = (fun c => if c = i then b else B c) q.2 := fun q hq => by
  have := (hI.cls q hq).1
  dsimp only
  rw [if_neg (by omega)]
 refine ⟨hM.ext (fun t => ?_), fun c m' hm' hc hn => ?_, fun c1 c2 m1 m2 h1 h2 h3 h4 h5 h6 => ?_⟩
 ·rw [← dirV_put]
  unfold putS
  rw [dirV_eq (B' := fun c => if c = i then b else B c) hB]
  simp
 ·by_cases e : c = i
  ·subst e
   rw [hm] at hm'
   cases hm'
   dsimp only
   rw [if_pos rfl]
   exact hT.grown hg (fun cs q hc => (h.1.isMap cs q hc).elim)
  ·dsimp only
   rw [if_neg e]
   exact (h.2.1 c m' hm' (by omega) hn).grown hg (fun cs q hc => (h.1.isMap cs q hc).elim)
 ·dsimp only
  rw [if_neg (show ¬ c1 = i by omega)]
  by_cases e : c2 = i
  ·rw [if_pos e]
   have := hb c1 m1 h3 (by omega) h4
   omega
  ·rw [if_neg e]
   exact h.2.2 c1 c2 m1 m2 h1 (by omega) h3 h4 h5 h6
theorem put_step {P : Program} {K e t : TypeId} {ops : Array Oper} {w : World} {b n : Nat} {f : List UInt8 → Option Value} {oi : Oper} {a : Act} {Kc : Act → World → Prop} {Q : Exit → Act → World → Prop} (h : MapS P K w b n f) (hw : Region.wanted oi (yielded ops a.tmps) = true) (hN : oi.dst = none) (m x v : Operand) (hop : oi.op = Op.mapUpdate t m x v)
  (hK : P.underlying K = some .string) (ht : P.underlying t = some (.map K e)) (hn : n < maxLen) (hm : a.eval m = .map (some b)) {s : ByteArray} (hx : a.eval x = .string s) (hs : s.size ≤ maxLen) {u : Value} (hv : a.eval v = u)
  (hk : ∀ w', MapS P K w' b (n + 1) (putS f s.data.toList u) → w.mapTurned w' b → Kc a w') : if Region.wanted oi (yielded ops a.tmps) = true then Oper.wp P oi a w Kc Q else Kc (a.put none undef) w := by
 obtain ⟨w', hrun, r1, r2⟩ := h.put hK ht hn hs u
 refine skip_ (w1 := w') hw hN ?_ (hk w' r1 r2)
 simp [execOp, hop, hm, hx, hv, hrun]
def LayPost (l : List Mem) (s : PS) (base d i : Nat) (W : World) (e : Ending) (W' : World) : Prop :=
 ((stepF l s i = none ∧ e = .returned (.bool false)) ∨ (∃ s' B', stepF l s i = some s' ∧ e = .returned (.bool true) ∧ DirS W' base d (i + 1) l s' B')) ∧ W.grownBy W' (some d)
theorem zeroThing (w : World) : (zeroValue 100).run Tryd.prog w = .ok (.pointer none) w := by kernel_rfl
theorem thing_cells {w : World} {b : Nat} {m : Mem} {v : Value} {ld : ByteArray} (h : w.heap[b]? = some (.cells (thingCells m v ld) 102 (0, 0))) :
  w.cell? ⟨b, 0, none⟩ = some (.int .u8 m.f2) ∧ w.cell? ⟨b, 1, none⟩ = some (.int .i64 m.f3.f0) ∧ w.cell? ⟨b, 2, none⟩ = some (.int .i64 m.f3.f1) ∧ w.cell? ⟨b, 3, none⟩ = some (.int .i64 m.f3.f2) ∧ w.cell? ⟨b, 4, none⟩ = some (.int .i64 m.f3.f3) ∧
   w.cell? ⟨b, 5, none⟩ = some (.string m.f1) ∧ w.cell? ⟨b, 6, none⟩ = some v ∧ w.cell? ⟨b, 7, none⟩ = some (.string ld) := by
 refine ⟨?_, ?_, ?_, ?_, ?_, ?_, ?_, ?_⟩ <;> · unfold World.cell?; dsimp only; rw [h]; rfl
set_option maxRecDepth 100000 in
set_option maxHeartbeats 4000000 in
theorem Lay_calls (base d i : Nat) (l : List Mem) (s : PS) (B : Nat → Nat) (x : Mem) (A : Option Addr) (c : Nat) (W : World) (hx : l[i]? = some x) (hlen : l.length ≤ 1000000000000) (hz : MemZ x) (hD : DirS W base d i l s B) (hI : FInv l i s) (hbase : base ≤ W.heap.size) (hC : Kd.C (Kd.int .u8) W A x.f4.length x.f4) :
  Calls Tryd.prog 46 #[.map (some d), .agg (memCells x (.slice A x.f4.length c))] W (LayPost l s base d i W) := by
 obtain ⟨hi, hxi⟩ := List.getElem?_eq_some_iff.1 hx
 have hst := stepF_eq l s i hi
 rw [hxi] at hst
 have hdlt : d < W.heap.size := hD.1.lt
 have hs0 : x.f0.size ≤ maxLen := by have := hz.1; unfold maxLen; omega
 have hs1 : x.f1.size ≤ maxLen := by have := hz.2.1; unfold maxLen; omega
 have hlook := fun o => (hD.1.alloc o).look_ok Tryd.underlying9 Tryd.underlying77 (zeroThing _) hs1
 have hBlt : ∀ c m, l[c]? = some m → c < i → ¬ m.f2 = 49 → B c < W.heap.size := fun c m h1 h2 h3 => (hD.2.1 c m h1 h2 h3).lt
 have HX := Aside0.mk hx
 have HZ := Aside0.mk hz
 have HD := Aside0.mk hD
 have HI := Aside0.mk hI
 have HC := Aside0.mk hC
 have HS := Aside0.mk hst
 have HBL := Aside0.mk hBlt
 have HLK := Aside0.mk hlook
 clear hx hxi hz hD hI hC hst hBlt hlook
 generalize hpost : LayPost l s base d i W = Q
 have hQ := Aside0.mk hpost
 clear hpost
 unfold memCells
 by_cases h49 : x.f2 = 49
 case neg =>
  have e49 : (x.f2 != 49) = true := bne_iff_ne.2 h49
  have H49 := Aside0.mk h49
  clear h49
  go_enter Tryd.func46, Tryd.ntmps46
  go_upto_region 2 with (fail)
  refine start_ (n := 15) (S := fun w' => w'.cell? ⟨W.heap.size, 0, none⟩ = some (.string x.f0) ∧ w'.cell? ⟨W.heap.size, 1, none⟩ = some (.string x.f1) ∧ w'.cell? ⟨W.heap.size, 2, none⟩ = some (.int .u8 x.f2) ∧ w'.cell? ⟨W.heap.size, 3, none⟩ = some (.int .i64 x.f3.f0) ∧ w'.cell? ⟨W.heap.size, 4, none⟩ = some (.int .i64 x.f3.f1) ∧ w'.cell? ⟨W.heap.size, 5, none⟩ = some (.int .i64 x.f3.f2) ∧ w'.cell? ⟨W.heap.size, 6, none⟩ = some (.int .i64 x.f3.f3) ∧ w'.cell? ⟨W.heap.size, 7, none⟩ = some (.slice A x.f4.length c)) (ds := [14]) #[false, false, false, false, false, false, false, false, false, false, false, false, false, false, false] (by kernel_rfl) rfl rfl ⟨by simp, by simp, by simp, by simp, by simp, by simp, by simp, by simp⟩ (fun hHeld => ?_)
  generalize hwq : (W.alloc (.cells #[.string x.f0, .string x.f1, .int .u8 x.f2, .int .i64 x.f3.f0, .int .i64 x.f3.f1, .int .i64 x.f3.f2, .int .i64 x.f3.f3, .slice A x.f4.length c] 27)).drew = wq at hHeld ⊢
  have hzq : W.heap.size + 1 = wq.heap.size := by rw [← hwq]; exact (World.size_alloc _ _).symm
  refine pure_ (i := 0) (N := some 10) (v := ?_) (a' := ?_) #[true, false, false, false, false, false, false, false, false, false, false, false, false, false, false] rfl rfl (by kernel_rfl) (fun _ _ _ h => h) (Or.inl ⟨by rfl, ?_⟩) ?_ ?_
  rotate_left
  ·intro w'
   go_simp
   with_reducible rfl
  rotate_left
  ·simp only [Act.put, List.setIfInBounds_toArray, List.set_cons_zero, List.set_cons_succ, i64_w, i32_w]
   rfl
  refine pure_ (i := 1) (N := some 11) (v := ?_) (a' := ?_) #[true, true, false, false, false, false, false, false, false, false, false, false, false, false, false] rfl rfl (by kernel_rfl) (fun _ _ _ h => h) (Or.inl ⟨by rfl, ?_⟩) ?_ ?_
  rotate_left
  ·intro w'
   go_simp
   with_reducible rfl
  rotate_left
  ·simp only [Act.put, List.setIfInBounds_toArray, List.set_cons_zero, List.set_cons_succ, i64_w, i32_w]
   rfl
  refine take_ (i := 2) (N := some 12) (v := ?_) (a' := ?_) #[true, true, true, false, false, false, false, false, false, false, false, false, false, false, false] rfl rfl (by kernel_rfl) (fun _ _ _ h => h) (Or.inl ⟨by rfl, ?_⟩) hHeld ?_ ?_
  rotate_left
  ·rintro w' ⟨s0, s1, s2, s3, s4, s5, s6, s7⟩
   go_simp
   with_reducible rfl
  rotate_left
  ·simp only [Act.put, List.setIfInBounds_toArray, List.set_cons_zero, List.set_cons_succ, i64_w, i32_w]
   rfl
  refine pure_ (i := 3) (N := some 13) (v := ?_) (a' := ?_) #[true, true, true, true, false, false, false, false, false, false, false, false, false, false, false] rfl rfl (by kernel_rfl) (fun _ _ _ h => h) (Or.inl ⟨by rfl, ?_⟩) ?_ ?_
  rotate_left
  ·intro w'
   go_simp
   with_reducible rfl
  rotate_left
  ·simp only [Act.put, List.setIfInBounds_toArray, List.set_cons_zero, List.set_cons_succ, i64_w, i32_w]
   rfl
  refine take_ (i := 4) (N := some 14) (v := ?_) (a' := ?_) #[true, true, true, true, true, false, false, false, false, false, false, false, false, false, false] rfl rfl (by kernel_rfl) (fun _ _ _ h => h) (Or.inl ⟨by rfl, ?_⟩) hHeld ?_ ?_
  rotate_left
  ·rintro w' ⟨s0, s1, s2, s3, s4, s5, s6, s7⟩
   go_simp
   with_reducible rfl
  rotate_left
  ·simp only [Act.put, List.setIfInBounds_toArray, List.set_cons_zero, List.set_cons_succ, i64_w, i32_w]
   rfl
  refine pure_ (i := 5) (N := some 15) (v := ?_) (a' := ?_) #[true, true, true, true, true, true, false, false, false, false, false, false, false, false, false] rfl rfl (by kernel_rfl) (fun _ _ _ h => h) (Or.inl ⟨by rfl, ?_⟩) ?_ ?_
  rotate_left
  ·intro w'
   go_simp
   with_reducible rfl
  rotate_left
  ·simp only [Act.put, List.setIfInBounds_toArray, List.set_cons_zero, List.set_cons_succ, i64_w, i32_w]
   rfl
  refine take_ (i := 6) (N := some 16) (v := ?_) (a' := ?_) #[true, true, true, true, true, true, true, false, false, false, false, false, false, false, false] rfl rfl (by kernel_rfl) (fun _ _ _ h => h) (Or.inl ⟨by rfl, ?_⟩) hHeld ?_ ?_
  rotate_left
  ·rintro w' ⟨s0, s1, s2, s3, s4, s5, s6, s7⟩
   go_simp
   with_reducible rfl
  rotate_left
  ·simp only [Act.put, List.setIfInBounds_toArray, List.set_cons_zero, List.set_cons_succ, i64_w, i32_w]
   rfl
  refine pure_ (i := 7) (N := some 17) (v := ?_) (a' := ?_) #[true, true, true, true, true, true, true, true, false, false, false, false, false, false, false] rfl rfl (by kernel_rfl) (fun _ _ _ h => h) (Or.inl ⟨by rfl, ?_⟩) ?_ ?_
  rotate_left
  ·intro w'
   go_simp
   with_reducible rfl
  rotate_left
  ·simp only [Act.put, List.setIfInBounds_toArray, List.set_cons_zero, List.set_cons_succ, i64_w, i32_w]
   rfl
  refine take_ (i := 8) (N := some 18) (v := ?_) (a' := ?_) #[true, true, true, true, true, true, true, true, true, false, false, false, false, false, false] rfl rfl (by kernel_rfl) (fun _ _ _ h => h) (Or.inl ⟨by rfl, ?_⟩) hHeld ?_ ?_
  rotate_left
  ·rintro w' ⟨s0, s1, s2, s3, s4, s5, s6, s7⟩
   go_simp
   with_reducible rfl
  rotate_left
  ·simp only [Act.put, List.setIfInBounds_toArray, List.set_cons_zero, List.set_cons_succ, i64_w, i32_w]
   rfl
  refine pure_ (i := 9) (N := some 19) (v := ?_) (a' := ?_) #[true, true, true, true, true, true, true, true, true, true, false, false, false, false, false] rfl rfl (by kernel_rfl) (fun _ _ _ h => h) (Or.inl ⟨by rfl, ?_⟩) ?_ ?_
  rotate_left
  ·intro w'
   go_simp
   with_reducible rfl
  rotate_left
  ·simp only [Act.put, List.setIfInBounds_toArray, List.set_cons_zero, List.set_cons_succ, i64_w, i32_w]
   rfl
  refine take_ (i := 10) (N := some 20) (v := ?_) (a' := ?_) #[true, true, true, true, true, true, true, true, true, true, true, false, false, false, false] rfl rfl (by kernel_rfl) (fun _ _ _ h => h) (Or.inl ⟨by rfl, ?_⟩) hHeld ?_ ?_
  rotate_left
  ·rintro w' ⟨s0, s1, s2, s3, s4, s5, s6, s7⟩
   go_simp
   with_reducible rfl
  rotate_left
  ·simp only [Act.put, List.setIfInBounds_toArray, List.set_cons_zero, List.set_cons_succ, i64_w, i32_w]
   rfl
  refine one_ (i := 11) (N := some 21) #[true, true, true, true, true, true, true, true, true, true, true, true, false, false, false] rfl rfl (by kernel_rfl) (by decide) (fun K hK => ?_)
  refine goes_ Tryd.func50 (by kernel_rfl) rfl #[.slice A x.f4.length c] (by rfl) rfl rfl (by first | rfl | (simp [Act.eval]; done)) ?_
  refine (Clone_calls A c x.f4 wq (by rw [← hwq]; exact Kd.C_drew (Kd.C_alloc HC.out _)) HZ.out.2.2).mono ?_
  rintro e w5 ⟨v, rfl, hR5, hb5⟩
  obtain ⟨Av, cv, rfl, hlv, hCv⟩ := Kd.R_reads hR5
  clear hlv hCv
  refine ⟨_, rfl, ?_⟩
  refine hK.out _ _ ⟨fkeep hb5 hHeld.1, fkeep hb5 hHeld.2.1, fkeep hb5 hHeld.2.2.1, fkeep hb5 hHeld.2.2.2.1, fkeep hb5 hHeld.2.2.2.2.1, fkeep hb5 hHeld.2.2.2.2.2.1, fkeep hb5 hHeld.2.2.2.2.2.2.1, fkeep hb5 hHeld.2.2.2.2.2.2.2⟩ (fun hHeld2 => ?_)
  clear hK K
  have HR5 := Aside0.mk hR5
  have HB5 := Aside0.mk hb5
  clear hR5
  refine norm_ (a' := ?_) ?_ ?_
  rotate_left
  ·show Act.put _ (some 21) _ = _
   simp only [Act.put, List.setIfInBounds_toArray, List.set_cons_zero, List.set_cons_succ, i64_w, i32_w]
   rfl
  refine pure_ (i := 12) (N := some 22) (v := ?_) (a' := ?_) #[true, true, true, true, true, true, true, true, true, true, true, true, true, false, false] rfl rfl (by kernel_rfl) (fun _ _ _ h => h) (Or.inl ⟨by rfl, ?_⟩) ?_ ?_
  rotate_left
  ·intro w'
   go_simp
   with_reducible rfl
  rotate_left
  ·simp only [Act.put, List.setIfInBounds_toArray, List.set_cons_zero, List.set_cons_succ, i64_w, i32_w]
   rfl
  refine one_ (i := 13) (N := some 23) #[true, true, true, true, true, true, true, true, true, true, true, true, true, true, false] rfl rfl (by kernel_rfl) (by decide) (fun K hK => ?_)
  refine value_ (w1 := ?_) (v := ?_) (by rfl) rfl ?_ ?_
  rotate_left 2
  ·go_simp
   constructor
   ·rfl
   ·rfl
  refine hK.out _ _ ⟨fcell hHeld2.1 _, fcell hHeld2.2.1 _, fcell hHeld2.2.2.1 _, fcell hHeld2.2.2.2.1 _, fcell hHeld2.2.2.2.2.1 _, fcell hHeld2.2.2.2.2.2.1 _, fcell hHeld2.2.2.2.2.2.2.1 _, fcell hHeld2.2.2.2.2.2.2.2 _⟩ (fun hHeld3 => ?_)
  clear hK K
  refine norm_ (a' := ?_) ?_ ?_
  rotate_left
  ·show Act.put _ (some 23) _ = _
   simp only [Act.put, List.setIfInBounds_toArray, List.set_cons_zero, List.set_cons_succ, i64_w, i32_w]
   rfl
  refine last_ (i := 14) (N := none) #[true, true, true, true, true, true, true, true, true, true, true, true, true, true, true] rfl rfl (by kernel_rfl) (by decide) (fun K hK => ?_)
  refine put_step (f := dirV B s) (b := d) (n := i) (s := x.f0) (((HD.out.below (show Below W.heap.size W wq from by rw [← hwq]; exact below_drew (below_alloc (Below.refl _ _) _))).below HB5.out).1.alloc _) (by rfl) rfl (.tmp 10) (.tmp 12) (.tmp 23) rfl Tryd.underlying9 Tryd.underlying77 (by unfold maxLen; omega) rfl rfl hs0 rfl ?_
  intro w6 hM6 hturn6
  refine hK.out _ _ ?_
  clear hK K
  have HM6 := Aside0.mk hM6
  have HG6 := Aside0.mk hturn6.grown
  clear hM6 hturn6 hHeld hHeld2 hHeld3 hb5
  refine done_ (by kernel_rfl) ?_
  go_wp2_with (fail)
  rw [← hQ.out]
  have hB1 : Below W.heap.size W w5 := ((show Below W.heap.size W wq from by rw [← hwq]; exact below_drew (below_alloc (Below.refl _ _) _))).trans (HB5.out.mono (by omega))
  refine ⟨.inr ⟨_, _, by rw [HS.out, if_neg H49.out], rfl, DirS.add ((HD.out.below hB1).below (below_alloc (Below.refl _ _) _)) HI.out HX.out (b := w5.heap.size) (fun c m h1 h2 h3 => by have := HBL.out c m h1 h2 h3; have := hB1.size; omega) ⟨by have := hB1.size; omega, _, blk_new _ _, Kd.R_lower (Kd.R_alloc HR5.out _) (by omega)⟩ HM6.out HG6.out⟩, ?_⟩
  exact World.grownBy.trans (grown_of_below (hB1.trans ((below_alloc (Below.refl _ _) _).mono hB1.size)) _) HG6.out
 case pos =>
  have e49 : (x.f2 != 49) = false := bne_eq_false_iff_eq.2 h49
  have hst2 := HS.out
  rw [if_pos h49] at hst2
  have H49 := Aside0.mk h49
  clear h49
  cases ha : atD s x.f1.data.toList with
  | none =>
   have hlook := fun o => HLK.out o
   rw [ha] at hst2
   have hdv : dirV B s x.f1.data.toList = none := by unfold dirV; rw [ha]; rfl
   simp only [hdv, Option.getD_none, Option.isSome_none] at hlook
   have HS2 := Aside0.mk hst2
   clear hdv ha hst2
   go_enter Tryd.func46, Tryd.ntmps46
   go_wp2
   rw [← hQ.out]
   exact ⟨.inl ⟨HS2.out, rfl⟩, grown_of_below (below_alloc (Below.refl _ _) _) _⟩
  | some k =>
   have hlook := fun o => HLK.out o
   rw [ha] at hst2
   have hdv : dirV B s x.f1.data.toList = some (.pointer (some ⟨B k, 0, none⟩)) := by unfold dirV; rw [ha]; rfl
   simp only [hdv, Option.getD_some, Option.isSome_some] at hlook
   obtain ⟨q, hq, _, rfl⟩ := atD_mem ha
   obtain ⟨hk, t, ht, ht49⟩ := HI.out.cls q hq
   dsimp only at hst2
   rw [ht] at hst2
   dsimp only at hst2
   obtain ⟨_, v, hblk, hR⟩ := HD.out.2.1 q.2 t ht hk ht49
   have hcell := fcell (thing_cells hblk).1
   have hbk := World.new_ne W ⟨B q.2, 0, none⟩ (thing_cells hblk).1
   have HHD := Aside0.mk hdv
   clear hdv ha hq hblk hR
   by_cases h48 : t.f2 = 48
   ·have e48 : (t.f2 != 48) = false := bne_eq_false_iff_eq.2 h48
    rw [if_pos h48] at hst2
    have HS2 := Aside0.mk hst2
    have HMA := Aside0.mk (fun o => HD.out.1.alloc o)
    have HDA := Aside0.mk (fun o => HD.out.below (below_alloc (Below.refl _ _) o))
    clear hst2 h48 ht ht49 hk
    go_enter Tryd.func46, Tryd.ntmps46
    go_wp2_with (at_mapUpdate; refine MapS.wpput (HMA.out _) rfl _ _ _ rfl Tryd.underlying9 Tryd.underlying77 (by unfold maxLen; omega) rfl rfl hs0 rfl ?_; intro w2 hM2 hturn; have HM2 := Aside0.mk hM2; have HG2 := Aside0.mk hturn.grown; clear hM2 hturn)
    rw [← hQ.out]
    exact ⟨.inr ⟨_, _, HS2.out, rfl, DirS.name (HDA.out _) HX.out H49.out HM2.out HG2.out⟩, World.grownBy.trans (grown_of_below (below_alloc (Below.refl _ _) _) _) HG2.out⟩
   ·have e48 : (t.f2 != 48) = true := bne_iff_ne.2 h48
    rw [if_neg h48] at hst2
    have HS2 := Aside0.mk hst2
    clear hst2 h48 ht ht49 hk
    go_enter Tryd.func46, Tryd.ntmps46
    go_wp2
    rw [← hQ.out]
    exact ⟨.inl ⟨HS2.out, rfl⟩, grown_of_below (below_alloc (Below.refl _ _) _) _⟩
end Go.Proofs.YtfmphccoeinhcaaDoor

namespace Go.Proofs
open Go.Shelf
def Tryd.sorted51_ren : Go.Shelf.Ren := ⟨fun | 6 => 51 | 8 => 66 | 9 => 67 | 11 => 78 | 13 => 80 | 12 => 79 | 23 => 96 | 24 => 97 | 14 => 87 | 15 => 88 | 16 => 89 | 17 => 90 | 18 => 91 | 19 => 92 | 20 => 93 | 21 => 94 | 22 => 95 | 25 => 106 | 26 => 107 | 27 => 108 | 28 => 109 | 29 => 110 | 30 => 111 | 31 => 117 | n => n, fun | 26 => 9 | 28 => 92 | 24 => 67 | 0 => 0 | 3 => 3 | 37 => 117 | 48 => 129 | 50 => 131 | 4 => 4 | 40 => 123 | 39 => 122 | 45 => 107 | 5 => 5 | 9 => 9 | 51 => 147 | 55 => 151 | 57 => 156 | 58 => 157 | 33 => 73 | n => n, fun | n => n⟩
theorem Tryd.sorted51 : Go.Proofs.SlLaysZ.n6 Tryd.prog Tryd.sorted51_ren := {
  mixed := by kernel_rfl
  f6 := ⟨Tryd.f51.name, by decide, Tryd.func51.trans (congrArg some (by kernel_rfl))⟩
  f8 := ⟨Tryd.f66.name, by decide, Tryd.func66.trans (congrArg some (by kernel_rfl))⟩
  f11 := ⟨Tryd.f78.name, by decide, Tryd.func78.trans (congrArg some (by kernel_rfl))⟩
  t0 := Tryd.underlying0
  a0 := Tryd.isAgg0
  z0 := Tryd.sizeOf0
  v0 := Tryd.zeroValue0
  t24 := Tryd.underlying67
  a24 := Tryd.isAgg67
  z24 := Tryd.sizeOf67
  v24 := Tryd.zeroValue67
  t26 := Tryd.underlying9
  a26 := Tryd.isAgg9
  z26 := Tryd.sizeOf9
  v26 := Tryd.zeroValue9
  t28 := Tryd.underlying92
  a28 := Tryd.isAgg92
  z28 := Tryd.sizeOf92
  v28 := Tryd.zeroValue92
  i26 := by kernel_rfl }
def Tryd.sort67_ren : Go.Shelf.Ren := ⟨fun | 6 => 67 | 8 => 80 | 9 => 79 | 19 => 96 | 20 => 97 | 21 => 87 | 22 => 88 | 23 => 89 | 24 => 90 | 25 => 91 | 26 => 92 | 27 => 93 | 28 => 94 | 29 => 95 | 36 => 106 | 31 => 107 | 32 => 108 | 37 => 109 | 38 => 110 | 39 => 111 | 41 => 117 | n => n, fun | 27 => 67 | 29 => 9 | 3 => 3 | 32 => 117 | 26 => 67 | 0 => 0 | 44 => 129 | 46 => 131 | 4 => 4 | 36 => 123 | 35 => 122 | 41 => 107 | 5 => 5 | 9 => 9 | 53 => 147 | 57 => 151 | 63 => 156 | 64 => 157 | n => n, fun | n => n⟩
theorem Tryd.sort67 : Go.Proofs.SlLaysM.n6 Tryd.prog Tryd.sort67_ren := {
  mixed := by kernel_rfl
  f6 := ⟨Tryd.f67.name, by decide, Tryd.func67.trans (congrArg some (by kernel_rfl))⟩
  f8 := Tryd.func80.trans (congrArg some (by kernel_rfl))
  f9 := ⟨Tryd.f79.name, by decide, Tryd.func79.trans (congrArg some (by kernel_rfl))⟩
  f19 := Tryd.func96.trans (congrArg some (by kernel_rfl))
  f20 := Tryd.func97.trans (congrArg some (by kernel_rfl))
  f21 := ⟨Tryd.f87.name, by decide, Tryd.func87.trans (congrArg some (by kernel_rfl))⟩
  f22 := ⟨Tryd.f88.name, by decide, Tryd.func88.trans (congrArg some (by kernel_rfl))⟩
  f23 := ⟨Tryd.f89.name, by decide, Tryd.func89.trans (congrArg some (by kernel_rfl))⟩
  f24 := ⟨Tryd.f90.name, by decide, Tryd.func90.trans (congrArg some (by kernel_rfl))⟩
  f25 := ⟨Tryd.f91.name, by decide, Tryd.func91.trans (congrArg some (by kernel_rfl))⟩
  f26 := ⟨Tryd.f92.name, by decide, Tryd.func92.trans (congrArg some (by kernel_rfl))⟩
  f27 := ⟨Tryd.f93.name, by decide, Tryd.func93.trans (congrArg some (by kernel_rfl))⟩
  f28 := ⟨Tryd.f94.name, by decide, Tryd.func94.trans (congrArg some (by kernel_rfl))⟩
  f29 := ⟨Tryd.f95.name, by decide, Tryd.func95.trans (congrArg some (by kernel_rfl))⟩
  f31 := Tryd.func107.trans (congrArg some (by kernel_rfl))
  f32 := Tryd.func108.trans (congrArg some (by kernel_rfl))
  f36 := ⟨Tryd.f106.name, by decide, Tryd.func106.trans (congrArg some (by kernel_rfl))⟩
  f37 := ⟨Tryd.f109.name, by decide, Tryd.func109.trans (congrArg some (by kernel_rfl))⟩
  f38 := ⟨Tryd.f110.name, by decide, Tryd.func110.trans (congrArg some (by kernel_rfl))⟩
  f39 := ⟨Tryd.f111.name, by decide, Tryd.func111.trans (congrArg some (by kernel_rfl))⟩
  f41 := ⟨Tryd.f117.name, by decide, Tryd.func117.trans (congrArg some (by kernel_rfl))⟩
  t0 := Tryd.underlying0
  a0 := Tryd.isAgg0
  z0 := Tryd.sizeOf0
  v0 := Tryd.zeroValue0
  t3 := Tryd.underlying3
  a3 := Tryd.isAgg3
  z3 := Tryd.sizeOf3
  v3 := Tryd.zeroValue3
  t4 := Tryd.underlying4
  a4 := Tryd.isAgg4
  z4 := Tryd.sizeOf4
  v4 := Tryd.zeroValue4
  t5 := Tryd.underlying5
  a5 := Tryd.isAgg5
  z5 := Tryd.sizeOf5
  v5 := Tryd.zeroValue5
  t9 := Tryd.underlying9
  a9 := Tryd.isAgg9
  z9 := Tryd.sizeOf9
  v9 := Tryd.zeroValue9
  t26 := Tryd.underlying67
  a26 := Tryd.isAgg67
  z26 := Tryd.sizeOf67
  v26 := Tryd.zeroValue67
  t27 := Tryd.underlying67
  a27 := Tryd.isAgg67
  z27 := Tryd.sizeOf67
  v27 := Tryd.zeroValue67
  t29 := Tryd.underlying9
  a29 := Tryd.isAgg9
  z29 := Tryd.sizeOf9
  v29 := Tryd.zeroValue9
  t32 := Tryd.underlying117
  a32 := Tryd.isAgg117
  z32 := Tryd.sizeOf117
  v32 := Tryd.zeroValue117
  t35 := Tryd.underlying122
  a35 := Tryd.isAgg122
  z35 := Tryd.sizeOf122
  v35 := Tryd.zeroValue122
  t36 := Tryd.underlying123
  a36 := Tryd.isAgg123
  z36 := Tryd.sizeOf123
  v36 := Tryd.zeroValue123
  t41 := Tryd.underlying107
  a41 := Tryd.isAgg107
  z41 := Tryd.sizeOf107
  v41 := Tryd.zeroValue107
  t44 := Tryd.underlying129
  a44 := Tryd.isAgg129
  z44 := Tryd.sizeOf129
  v44 := Tryd.zeroValue129
  t46 := Tryd.underlying131
  a46 := Tryd.isAgg131
  z46 := Tryd.sizeOf131
  v46 := Tryd.zeroValue131
  t53 := Tryd.underlying147
  a53 := Tryd.isAgg147
  z53 := Tryd.sizeOf147
  v53 := Tryd.zeroValue147
  t57 := Tryd.underlying151
  a57 := Tryd.isAgg151
  z57 := Tryd.sizeOf151
  v57 := Tryd.zeroValue151
  t63 := Tryd.underlying156
  a63 := Tryd.isAgg156
  z63 := Tryd.sizeOf156
  v63 := Tryd.zeroValue156
  t64 := Tryd.underlying157
  a64 := Tryd.isAgg157
  z64 := Tryd.sizeOf157
  v64 := Tryd.zeroValue157 }
def Tryd.keys64_ren : Go.Shelf.Ren := ⟨fun | 7 => 64 | 10 => 77 | n => n, fun | 23 => 77 | 26 => 9 | 3 => 100 | 28 => 92 | 0 => 0 | 27 => 91 | 33 => 73 | 4 => 4 | n => n, fun | n => n⟩
theorem Tryd.keys64 : Go.Proofs.SlLaysZ.n7 Tryd.prog Tryd.keys64_ren := {
  mixed := by kernel_rfl
  f7 := ⟨Tryd.f64.name, by decide, Tryd.func64.trans (congrArg some (by kernel_rfl))⟩
  f10 := ⟨Tryd.f77.name, by decide, Tryd.func77.trans (congrArg some (by kernel_rfl))⟩
  t0 := Tryd.underlying0
  a0 := Tryd.isAgg0
  z0 := Tryd.sizeOf0
  v0 := Tryd.zeroValue0
  t4 := Tryd.underlying4
  a4 := Tryd.isAgg4
  z4 := Tryd.sizeOf4
  v4 := Tryd.zeroValue4
  t23 := Tryd.underlying77
  a23 := Tryd.isAgg77
  z23 := Tryd.sizeOf77
  v23 := Tryd.zeroValue77
  t26 := Tryd.underlying9
  a26 := Tryd.isAgg9
  z26 := Tryd.sizeOf9
  v26 := Tryd.zeroValue9
  t27 := Tryd.underlying91
  a27 := Tryd.isAgg91
  z27 := Tryd.sizeOf91
  v27 := Tryd.zeroValue91
  t28 := Tryd.underlying92
  a28 := Tryd.isAgg92
  z28 := Tryd.sizeOf92
  v28 := Tryd.zeroValue92
  t33 := Tryd.underlying73
  a33 := Tryd.isAgg73
  z33 := Tryd.sizeOf73
  v33 := Tryd.zeroValue73 }
open Go.RowKit Go.Maps Go.Sort
theorem Tryd.sorts51 (m : Nat) : AnyZ.SortsIn Tryd.prog Tryd.sorted51_ren Fence.wide m :=
  ⟨fun blk off cap ss W hH hblk hsz => callsIn_wide.2 (AnyM.slices_Sort_string Tryd.sort67 blk off cap ss W hH hblk hsz),
   fun p cap W => callsIn_wide.2 (AnyM.slices_Sort_string_none Tryd.sort67 p cap W)⟩
theorem Tryd.maps_Keys_64 (mb : Option Nat) (W : World) : CallsIn Fence.wide 5 Tryd.prog 64 #[.map mb] W fun e w' => e = .returned (.func (.func 77) #[] #[.pointer (some ⟨W.heap.size, 0, none⟩)]) ∧ w' = W.alloc (.cells #[.map mb] 77) :=
  AnyZ.keys_in Tryd.keys64 Fence.wide 5 trivial rfl mb W
set_option maxHeartbeats 1000000 in
theorem Tryd.slices_Sorted_keys_51_64 {H : Type} (b nn : Nat) (D0 : DataW H) (R : Value → Option (DataW H × List MemPlace)) (w : World) (hown : w.ownsMap Tryd.prog 9 R b nn D0) (hmax : Maps.size D0 ≤ maxLen) (hbytes : Maps.size D0 * 16 ≤ 140737488355328) :
    CallsIn Fence.wide 5 Tryd.prog 51 #[.func (.func 77) #[] #[.pointer (some ⟨w.heap.size, 0, none⟩)]] (w.alloc (.cells #[.map (some b)] 77)) fun e w' => ∃ (v : Value) (ss : List (List UInt8)), e = .returned v ∧ ss.Perm (strKeys D0) ∧
      w'.ownsRow (w.alloc (.cells #[.map (some b)] 77)).heap.size 9 1 v ss.length ((ss.mergeSort (fun x y => decide (x ≤ y))).map encStr) ∧ (v = .slice none 0 0 ↔ ss = []) ∧ Below (w.alloc (.cells #[.map (some b)] 77)).heap.size (w.alloc (.cells #[.map (some b)] 77)) w' := by
  have hbl := hown.lt
  have hseq : SeqGives Fence.wide 2 Tryd.prog 77 #[.pointer (some ⟨w.heap.size, 0, none⟩)] encStr (fun ss => ss.Perm (strKeys D0)) (Maps.size D0) (w.alloc (.cells #[.map (some b)] 77)) :=
    AnyZ.keys_gives (ρ := Tryd.keys64_ren) { Tryd.keys64 with } Fence.wide _ trivial rfl (by omega) w.heap.size b nn D0 _ (by simp) (by simp) (by
      obtain ⟨es, clock, hb, Ft, hs, hD⟩ := hown
      exact ⟨es, clock, (Below.heap_alloc _ _ b hbl).trans hb, Ft, hs, hD⟩)
  exact AnyZ.sorted_in Tryd.sorted51 Fence.wide 5 trivial trivial trivial trivial rfl (by omega) (Tryd.sorts51 _) (enters_of Tryd.func67 (by kernel_rfl) rfl) 77 #[.pointer (some ⟨w.heap.size, 0, none⟩)] trivial (enters_of Tryd.func77 (by kernel_rfl) rfl) _ _ hmax hbytes _ hseq
end Go.Proofs

namespace Go.Proofs.YtfmphccoeinhcaaDoor
open Go.RowKit Go.Maps Go.Proofs.YtfmphccoeinhcaaDoor.Print Go.Proofs.YtfmphccoeinhcaaDoorW.PrintWords Go.Proofs.YtfmphccoeinhcaaDoorW.PrintLast Go.Proofs.YtfmphccoeinhcaaDoorW.PrintMore
set_option linter.unusedVariables false
set_option linter.unusedSimpArgs false
def ldF (m : Mem) (s : PS) (c : Nat) : ByteArray := if m.f2 = 48 then leadOf s c else emp
def ThingsS (w : World) (base : Nat) (l : List Mem) (B : Nat → Nat) (s : PS) : Prop := ∀ c m, l[c]? = some m → ¬ m.f2 = 49 → ThingAt w base (B c) m (ldF m s c)
theorem ThingsS.below {w w1 : World} {base : Nat} {l : List Mem} {B : Nat → Nat} {s : PS} (h : ThingsS w base l B s) (hb : Below w.heap.size w w1) : ThingsS w1 base l B s := fun c m h1 h2 => (h c m h1 h2).below hb
theorem ThingsS.grown {w w1 : World} {base g : Nat} {l : List Mem} {B : Nat → Nat} {s : PS} (h : ThingsS w base l B s) (hg : w.grownBy w1 (some g)) (ho : ∀ cs q, w.heap[g]? = some (.cells cs q (0, 0)) → q ≠ 102 ∧ q ≠ 5) : ThingsS w1 base l B s := fun c m h1 h2 => (h c m h1 h2).grown hg ho
theorem ThingsS.grown_none {w w1 : World} {base : Nat} {l : List Mem} {B : Nat → Nat} {s : PS} (h : ThingsS w base l B s) (hg : w.grownBy w1 none) : ThingsS w1 base l B s := fun c m h1 h2 => by
 obtain ⟨g0, v, hb, hR⟩ := h c m h1 h2
 exact ⟨g0, v, (hg.block _ (blk_lt' hb) (by simp)).trans hb, Kd.R_grown hR hg (fun k _ e => by cases e)⟩
theorem ld_same {m : Mem} {s : PS} {q : ByteArray × Nat} {c : Nat} (h : m.f2 = 48 → q.2 = c → s.any (fun r => decide (r.2 = c)) = true) : ldF m (s ++ [q]) c = ldF m s c := by
 unfold ldF
 by_cases h48 : m.f2 = 48
 ·rw [if_pos h48, if_pos h48, leadOf_snoc]
  by_cases ha : s.any (fun r => decide (r.2 = c)) = true
  ·rw [if_pos ha]
  ·rw [if_neg ha, if_neg (fun e => ha (h h48 e))]
   have ha' : s.any (fun r => decide (r.2 = c)) = false := Bool.eq_false_iff.2 ha
   exact (leadOf_take_none (fun q hq e => by rw [List.any_eq_false] at ha'; exact ha' q hq (decide_eq_true e))).symm
 ·rw [if_neg h48, if_neg h48]
theorem ld_new {m : Mem} {s : PS} {q : ByteArray × Nat} (h48 : m.f2 = 48) (h : s.any (fun r => decide (r.2 = q.2)) = false) : ldF m (s ++ [q]) q.2 = q.1 := by
 unfold ldF
 rw [if_pos h48, leadOf_snoc, if_neg (by rw [h]; simp), if_pos rfl]
theorem ThingsS.stay {w : World} {base : Nat} {l : List Mem} {B : Nat → Nat} {s : PS} {q : ByteArray × Nat} (h : ThingsS w base l B s) (hq : ∀ m, l[q.2]? = some m → m.f2 = 48 → s.any (fun r => decide (r.2 = q.2)) = true) : ThingsS w base l B (s ++ [q]) := fun c m h1 h2 => by
 rw [ld_same (fun h48 e => by subst e; exact hq m h1 h48)]
 exact h c m h1 h2
theorem ThingsS.store {w : World} {base : Nat} {l : List Mem} {B : Nat → Nat} {s : PS} {q : ByteArray × Nat} (h : ThingsS w base l B s) {m : Mem} (hm : l[q.2]? = some m) (h48 : m.f2 = 48) (hn : s.any (fun r => decide (r.2 = q.2)) = false)
  (hinj : ∀ c c' m m', c < c' → l[c]? = some m → ¬ m.f2 = 49 → l[c']? = some m' → ¬ m'.f2 = 49 → B c ≠ B c') : ThingsS (w.setCell ⟨B q.2, 7, none⟩ (.string q.1)) base l B (s ++ [q]) := fun c m' h1 h2 => by
 obtain ⟨_, v0, hb0, _⟩ := h q.2 m hm (by omega)
 obtain ⟨g0, v, hb, hR⟩ := h c m' h1 h2
 have hR' := Kd.R_set hR hb0 (fun k hk => by
  rcases List.mem_cons.1 hk with rfl | hk
  ·decide
  ·cases hk) 7 (.string q.1)
 by_cases e : c = q.2
 ·subst e
  rw [hm] at h1
  cases h1
  rw [ld_new h48 hn]
  exact ⟨g0, v, blk_put hb 7 _ rfl, hR'⟩
 ·rw [ld_same (fun _ e2 => absurd e2.symm e)]
  have hne : B c ≠ B q.2 := by
   rcases Nat.lt_trichotomy c q.2 with h3 | h3 | h3
   ·exact hinj _ _ _ _ h3 h1 h2 hm (by omega)
   ·exact absurd h3 e
   ·exact (hinj _ _ _ _ h3 hm (by omega) h1 h2).symm
  exact ⟨g0, v, (Below.heap_setCell w ⟨B q.2, 7, none⟩ _ _ hne).trans hb, hR'⟩
theorem nodeOf_ld {l : List Mem} {s : PS} {n : Nat} (hn : n < s.length) {m : Mem} (hm : l[s[n].2]? = some m) : nodeOf l s s[n] = ⟨s[n].1, m.f1, ldF m (s.take (n + 1)) s[n].2, m.f2, m.f3, m.f4⟩ := by
 unfold nodeOf ldF
 rw [List.getD_eq_getElem?_getD, hm, leadOf_take hn]
 rfl
def NodRel (l : List Mem) (s : PS) (base d : Nat) (B : Nat → Nat) (W : World) (vq : Value) (n : Int) (v : Value) (wr : World) : Prop :=
 0 ≤ n ∧ n ≤ (sortP s).length ∧ MapS Tryd.prog 9 wr d l.length (dirV B s) ∧ ThingsS wr base l B ((sortP s).take n.toNat) ∧ Kd.N k38 38 wr base (fun k => W.heap.size ≤ k) v (((sortP s).take n.toNat).map (nodeOf l (sortP s))) ∧
  Kd.R Kd.string 9 wr W.heap.size (fun _ => True) vq ((sortP s).map (fun q => q.1)) ∧ Below base W wr
def NodMid (l : List Mem) (s : PS) (base d : Nat) (B : Nat → Nat) (W : World) (vq : Value) (n : Int) (out : List Node) (v : Value) (wr : World) : Prop :=
 MapS Tryd.prog 9 wr d l.length (dirV B s) ∧ ThingsS wr base l B ((sortP s).take (n.toNat + 1)) ∧ Kd.N k38 38 wr base (fun k => W.heap.size ≤ k) v out ∧
  Kd.R Kd.string 9 wr W.heap.size (fun _ => True) vq ((sortP s).map (fun q => q.1)) ∧ Below base W wr
theorem mid_next {l : List Mem} {s : PS} {base d : Nat} {B : Nat → Nat} {W wm w5 w6 : World} {vq v v6 : Value} {n : Int} (h0 : 0 ≤ n) (hn : n.toNat < (sortP s).length) {out : List Node} (hout : ((sortP s).take n.toNat).map (nodeOf l (sortP s)) = out) (h : NodMid l s base d B W vq n out v wm) (hb5 : Below wm.heap.size wm w5) (hg : w5.grownBy w6 v.ownBlock) (hd : d < W.heap.size) (hbase : base ≤ W.heap.size) (hw : W.heap.size ≤ wm.heap.size)
  (hN : Kd.N k38 38 w6 base (fun k => W.heap.size ≤ k) v6 (out ++ [nodeOf l (sortP s) ((sortP s)[n.toNat])])) (hB : Below base W w6) : NodRel l s base d B W vq (n + 1) v6 w6 := by
 obtain ⟨hM, hT, hNv, hR, hBm⟩ := h
 have hNv5 := Kd.N_below hNv hb5
 have e1 : (n + 1).toNat = n.toNat + 1 := by omega
 have hown : ∀ k, v.ownBlock = some k → W.heap.size ≤ k := fun k hk => hNv5.1 k hk
 refine ⟨by omega, by omega, (hM.below hb5).kept hg (fun e => by have := hown d e.symm; omega), ?_, ?_, ?_, hB⟩
 ·rw [e1]
  cases hv : v.ownBlock with
  | none => exact (hT.below hb5).grown_none (by rw [hv] at hg; exact hg)
  | some g =>
   rw [hv] at hg
   refine (hT.below hb5).grown hg (fun cs q hc => ?_)
   obtain ⟨cs', hc'⟩ := Kd.N_typed hNv5 g hv
   rw [hc'] at hc
   injection hc with hc
   injection hc with _ hc
   subst hc
   decide
 ·rw [e1, List.take_succ_eq_append_getElem hn, List.map_append, hout]
  exact hN
 ·have hR5 := Kd.R_below hR hb5
  refine Kd.R_mono (Kd.R_grown (Kd.R_bound hR5) hg (fun k hk e => ?_)) (fun _ _ => trivial)
  obtain ⟨_, _, _, q, hq, cs, hc⟩ := hk
  obtain ⟨cs', hc'⟩ := Kd.N_typed hNv5 k e.symm
  rw [hc'] at hc
  injection hc with hc
  injection hc with _ hc
  rcases List.mem_cons.1 hq with h | h
  ·rw [h] at hc; exact absurd hc (by decide)
  ·cases h
theorem thing_soft {w : World} {b : Nat} {m : Mem} {v : Value} {ld : ByteArray} (h : w.heap[b]? = some (.cells (thingCells m v ld) 102 (0, 0))) (j : Nat) : w.frozen? ⟨b, j, none⟩ = false := by
 unfold World.frozen?
 dsimp only
 rw [h]
 rfl
theorem sorted_row {w : World} {b : Nat} {v : Value} {ss : List (List UInt8)} {s : PS} (h : w.ownsRow b 9 1 v ss.length ((ss.mergeSort (fun x y => decide (x ≤ y))).map encStr)) (hp : ss.Perm (keysP s)) (hn : (s.map (fun q => q.1)).Nodup) :
  (∃ A c, v = .slice A (sortP s).length c) ∧ Kd.R Kd.string 9 w b (fun _ => True) v ((sortP s).map (fun q => q.1)) := by
 have hR : Kd.R Kd.string 9 w b (fun _ => True) v ((sortP s).map (fun q => q.1)) := by
  refine Kd.R_of_own ?_ (fun _ _ => trivial)
  rw [keys_sorted hn hp] at h
  have e1 : ss.length = ((sortP s).map (fun q => q.1)).length := by rw [hp.length_eq, List.length_map, sortP_len]; unfold keysP; rw [List.length_map]
  rw [e1] at h
  have e2 : (keysP (sortP s)).map encStr = encs Value.string ((sortP s).map (fun q => q.1)) := by
   unfold keysP encs
   rw [List.map_map, List.map_map]
   refine List.map_congr_left (fun q _ => ?_)
   simp [encStr]
  rw [e2] at h
  exact h
 obtain ⟨A, c, e⟩ := Kd.R_slice hR
 exact ⟨⟨A, c, by rw [e, List.length_map]⟩, hR⟩
theorem made_N (W : World) (base n : Nat) (cur : Array Value) (hb : base ≤ W.heap.size) (hc : cur.size = n * 9) (hn : n ≤ maxLen) : Kd.N k38 38 (W.alloc (.cells cur 38)) base (fun k => W.heap.size ≤ k) (.slice (some ⟨W.heap.size, 0, none⟩) 0 n) [] :=
 ⟨fun k hk => by simp [Value.ownBlock] at hk; omega, [], rfl, ⟨fun k hk => hk.symm, [], World.ownsRow_made W cur n hb hn hc, Reps.none _ _⟩, fun j x c h => by simp at h⟩
theorem drew_below {w wq : World} (h : w.drew = wq) : Below w.heap.size w wq := by rw [← h]; exact below_drew (Below.refl _ _)
theorem rcell' {W w1 : World} {row : Option Nat} (hg : W.grownBy w1 row) {g o : Nat} {v : Value} (hne : some g ≠ row) (h : W.cell? ⟨g, o, none⟩ = some v) : w1.cell? ⟨g, o, none⟩ = some v := (World.cell?_of_block (a := ⟨g, o, none⟩) (hg.block g (World.block_lt_of_cell? W _ h) hne)).trans h
set_option maxRecDepth 100000 in
set_option maxHeartbeats 8000000 in
theorem Nodes_calls (base d : Nat) (l : List Mem) (s : PS) (B : Nat → Nat) (W : World) (hlen : l.length ≤ 1000000000000) (hz : ∀ m ∈ l, m.f4.length ≤ 140737488351232) (hD : DirS W base d l.length l s B) (hI : FInv l l.length s) (hbase : base ≤ W.heap.size) :
  Calls Tryd.prog 47 #[.map (some d)] W fun e W' => ∃ v, e = .returned v ∧ Kd.N k38 38 W' base (fun k => W.heap.size ≤ k) v ((sortP s).map (nodeOf l (sortP s))) ∧ Below base W W' := by
 have hdlt : d < W.heap.size := hD.1.lt
 have hsle : s.length ≤ 1000000000000 := by have := hI.len; omega
 have hsl : ((sortP s).length : Int) ≤ 1000000000000 := by rw [sortP_len]; omega
 have hkeys : ∀ w, MapS Tryd.prog 9 w d l.length (dirV B s) → ∃ D : DataW Value, w.ownsMap Tryd.prog 9 heldE d l.length D ∧ (keysP s).Perm (strKeys D) ∧ Maps.size D = s.length := fun w h => by
  obtain ⟨D, h1, h2, h3⟩ := h.keys Tryd.underlying9 (keysP_nodup hI.nodup) (fun k => by rw [atD_is]; unfold dirV; cases atD s k <;> rfl)
  exact ⟨D, h1, h2, by rw [h3]; unfold keysP; rw [List.length_map]⟩
 obtain ⟨D0, hown0, hperm0, hsz0⟩ := hkeys W hD.1
 obtain ⟨i0, hi0, hzz⟩ := Option.map_eq_some_iff.1 infoNode
 simp only [Prod.mk.injEq] at hzz
 have hmk := fun w : World => run_make (P := Tryd.prog) w 31 38 i0 _ Tryd.underlying31 hi0 hzz.1 .i64 .i64 0 (s.length : Int) (by omega) (by omega) (by rw [hzz.2.2]; omega) (by omega)
 rw [hzz.2.1] at hmk
 simp only [Int.toNat_zero, Int.toNat_natCast] at hmk
 generalize hcur : madeCells _ (s.length * 9) = cur at hmk
 have hcs : cur.size = s.length * 9 := by rw [← hcur]; exact size_madeCells _ _
 obtain ⟨D1, hown1, hperm1, hsz1⟩ := hkeys (W.alloc (.cells cur 38)) (hD.1.alloc _)
 have hN0 := made_N W base s.length cur hbase hcs (by unfold maxLen; omega)
 have hcS := callsIn_wide.1 (Tryd.slices_Sorted_keys_51_64 d l.length D1 heldE _ hown1 (by rw [hsz1]; unfold maxLen; omega) (by rw [hsz1]; omega))
 simp only [World.size_alloc] at hcS
 have HCS := Aside0.mk hcS
 have HKK := Aside0.mk hperm1
 have HN0 := Aside0.mk hN0
 have HD := Aside0.mk hD
 have HI := Aside0.mk hI
 have HZ := Aside0.mk hz
 have HO0 := Aside0.mk hown0
 have HS0 := Aside0.mk hsz0
 clear hkeys hown0 hperm0 hsz0 hi0 hzz hcur hcs hown1 hperm1 hsz1 hN0 hD hI hz hcS
 generalize hpost : (fun (e : Ending) (W' : World) => ∃ v, e = .returned v ∧ Kd.N k38 38 W' base (fun k => W.heap.size ≤ k) v ((sortP s).map (nodeOf l (sortP s))) ∧ Below base W W') = Q
 have hQ := Aside0.mk hpost
 clear hpost
 go_enter Tryd.func47, Tryd.ntmps47
 go_wp2_with (first
  | (at_len; refine wpList_len_own _ rfl _ 77 rfl 9 100 Tryd.underlying77 heldE d l.length D0 rfl HO0.out ?_; rw [HS0.out])
  | (go_at_call 64; refine (callsIn_wide.1 (Tryd.maps_Keys_64 _ _)).mono ?_; rintro e w' ⟨rfl, rfl⟩)
  | (go_at_call 51; refine HCS.out.mono ?_; rintro e w2 ⟨vq, ss, rfl, hS, hrow, hnil, hb2⟩; obtain ⟨⟨Aq, cq, rfl⟩, hRq⟩ := sorted_row hrow (hS.trans HKK.out.symm) HI.out.nodup; have HRq := Aside0.mk hRq; have HB2 := Aside0.mk hb2; clear hS hrow hnil hb2 hRq))
 have hBA := below_alloc (below_alloc (Below.refl W.heap.size W) (Obj.cells cur 38)) (Obj.cells #[Value.map (some d)] 77)
 have hB2 : Below W.heap.size W w2 := hBA.trans (HB2.out.mono (by omega))
 have hstart : NodRel l s base d B W (.slice Aq (sortP s).length cq) 0 (.slice (some ⟨W.heap.size, 0, none⟩) 0 s.length) w2 := by
  refine ⟨by omega, by omega, HD.out.1.below hB2, fun c m h1 h2 => ?_, Kd.N_below (Kd.N_alloc HN0.out _) (by rw [World.size_alloc, World.size_alloc]; exact HB2.out), Kd.R_lower HRq.out (by omega), hB2.mono hbase⟩
  have := (HD.out.2.1 c m h1 (List.getElem?_eq_some_iff.1 h1).1 h2).below hB2
  have e : ldF m ((sortP s).take (0 : Int).toNat) c = emp := by unfold ldF; split <;> rfl
  rw [e]
  exact this
 have HST := Aside0.mk hstart
 clear hstart hB2 hBA HRq HB2
 go_loopw [14, 3] (fun i o wr => ∃ n : Int, i = .int .i64 n ∧ Aside0 (NodRel l s base d B W (.slice Aq (sortP s).length cq) n o wr)) (fun i _ _ => ((sortP s).length - (intOf i)).toNat)
 case atStart => exact ⟨0, rfl, HST⟩
 case round =>
  obtain ⟨n, rfl, HR⟩ := hrel
  have h0 := HR.out.1
  have h1 := HR.out.2.1
  have HW : Aside0 (W.heap.size ≤ wr.heap.size) := ⟨HR.out.2.2.2.2.2.2.size⟩
  have hNv := HR.out.2.2.2.2.1
  generalize hout : ((sortP s).take n.toNat).map (nodeOf l (sortP s)) = out at hNv
  obtain ⟨Ao, co, rfl⟩ := Kd.N_slice hNv
  have hol : out.length = n.toNat := by rw [← hout, List.length_map, List.length_take]; omega
  have HOL := Aside0.mk hol
  have HOUT := Aside0.mk hout
  have HNV := Aside0.mk hNv
  clear hol hout hNv
  by_cases hlt : n < ((sortP s).length : Int)
  ·have c1b : decide (n < ((sortP s).length : Int)) = true := decide_eq_true hlt
   have hnl : n.toNat < (sortP s).length := by omega
   have hqm : (sortP s)[n.toNat] ∈ s := (sortP_perm s).mem_iff.1 (List.getElem_mem _)
   obtain ⟨hc, m, hm, h49⟩ := HI.out.cls _ hqm
   have hfull := HI.out.full _ hqm
   have hps : ((sortP s)[n.toNat]).1.size ≤ maxLen := by have := HI.out.small _ hqm; unfold maxLen; omega
   have hat := atD_of_mem HI.out.nodup hqm
   have hCq := (Kd.R_reads' HR.out.2.2.2.2.2.1).2.2
   rw [List.length_map] at hCq
   obtain ⟨ad, hAq, x0⟩ := Kd.at_string hCq n h0 hlt
   have hx : rdOf ByteArray.empty ((sortP s).map (fun q => q.1)) n = (sortP s)[n.toNat].1 := by
    unfold rdOf
    rw [List.getD_eq_getElem?_getD, List.getElem?_map, List.getElem?_eq_getElem hnl]
    rfl
   rw [hx] at x0
   cases hAq
   have hdv : dirV B s (sortP s)[n.toNat].1.data.toList = some (.pointer (some ⟨B (sortP s)[n.toNat].2, 0, none⟩)) := by unfold dirV; rw [hat]; rfl
   have hlook := HR.out.2.2.1.look Tryd.underlying9 Tryd.underlying77 (zeroThing _) hps
   rw [hdv] at hlook
   simp only [Option.getD_some] at hlook
   have htk := List.take_succ_eq_append_getElem hnl
   have hnode := nodeOf_ld hnl hm
   have hTs := HR.out.2.2.2.1
   obtain ⟨hg0, v, hblk, hRb⟩ := hTs _ m hm h49
   generalize hqe : (sortP s)[n.toNat] = q at hqm hc hm hfull hps hat x0 hdv hlook htk hnode hblk hRb hg0
   obtain ⟨hk0, hk1, hk2, hk3, hk4, hk5, hk6, hk7⟩ := thing_cells hblk
   have hfz := thing_soft hblk 7
   have HTK := Aside0.mk htk
   have HND := Aside0.mk hnode
   have HM := Aside0.mk hm
   have H49 := Aside0.mk h49
   have HQE := Aside0.mk hqe
   have HFU := Aside0.mk hfull
   have hBlt := blk_lt' hblk
   have hmid : ∀ wm, (wm = wr ∧ (m.f2 = 48 → ((sortP s).take n.toNat).any (fun r => decide (r.2 = q.2)) = true) ∨ wm = wr.setCell ⟨B q.2, 7, none⟩ (.string q.1) ∧ m.f2 = 48 ∧ ((sortP s).take n.toNat).any (fun r => decide (r.2 = q.2)) = false) →
     NodMid l s base d B W (.slice (some ad) (sortP s).length cq) n out (.slice Ao out.length co) wm ∧ wr.heap.size = wm.heap.size := by
    rintro wm (⟨rfl, h⟩ | ⟨rfl, h48, h⟩)
    ·refine ⟨⟨HR.out.2.2.1, ?_, HNV.out, HR.out.2.2.2.2.2.1, HR.out.2.2.2.2.2.2⟩, rfl⟩
     rw [HTK.out]
     exact hTs.stay (fun m' hm' h48 => by rw [HM.out] at hm'; cases hm'; exact h h48)
    ·refine ⟨⟨HR.out.2.2.1.setCell (a := ⟨B q.2, 7, none⟩) (fun e => ?_) _, ?_, Kd.N_far HNV.out (p := ⟨B q.2, 7, none⟩) (fun k hk e => ?_) _, Kd.R_set HR.out.2.2.2.2.2.1 hblk (fun k hk => ?_) 7 _, HR.out.2.2.2.2.2.2.setCell (p := ⟨B q.2, 7, none⟩) hg0 _⟩, (World.size_setCell _ _ _).symm⟩
     ·have e' : d = B q.2 := e
      rw [← e'] at hblk
      exact HR.out.2.2.1.isMap _ _ hblk
     ·rw [HTK.out]
      exact hTs.store HM.out h48 h (fun c c' m1 m2 h1 h2 h3 h4 h5 => HD.out.2.2 c c' m1 m2 h1 (List.getElem?_eq_some_iff.1 h4).1 h2 h3 h4 h5)
     ·have e' : k = B q.2 := e
      have h8 : B q.2 < W.heap.size := (HD.out.2.1 _ m HM.out (List.getElem?_eq_some_iff.1 HM.out).1 H49.out).lt
      omega
     ·rcases List.mem_cons.1 hk with rfl | hk
      ·decide
      ·cases hk
   have HMID := Aside0.mk hmid
   have hlf := leadOf_full (s := (sortP s).take n.toNat) (fun r hr => HI.out.full r ((sortP_perm s).mem_iff.1 (List.mem_of_mem_take hr))) q.2
   have HLF := Aside0.mk hlf
   clear hqm hc hm hat hdv htk hnode hTs hRb hqe hfull hmid hlf hCq hx hblk h49
   by_cases h48 : m.f2 = 48
   ·have e48 : (m.f2 == 48) = true := beq_iff_eq.2 h48
    have eld : ldF m ((sortP s).take n.toNat) q.2 = leadOf ((sortP s).take n.toNat) q.2 := by unfold ldF; rw [if_pos h48]
    rw [eld] at hk7
    generalize hld : leadOf ((sortP s).take n.toNat) q.2 = ld0 at hk7
    have H48 := Aside0.mk h48
    have HLD := Aside0.mk hld
    clear h48 eld hld
    cases ha : ((sortP s).take n.toNat).any (fun r => decide (r.2 = q.2)) with
    | true =>
     have hne : (ld0.toList == []) = false := by rw [beq_eq_false_iff_ne, ← HLD.out]; intro e; rw [HLF.out.1 e] at ha; cases ha
     have hne2 : ld0.toList ≠ [] := by simpa using hne
     obtain ⟨hmid, hwz⟩ := HMID.out wr (.inl ⟨rfl, fun _ => ha⟩)
     have HMM := Aside0.mk hmid
     clear ha hmid
     go_upto_region 8 with (fail)
     obtain ⟨_, vb, hbm, hRm⟩ := HMM.out.2.1 q.2 m HM.out H49.out
     obtain ⟨Ab, cb, rfl, hlb, hCb⟩ := Kd.R_reads hRm
     rw [HTK.out] at hbm
     generalize hldn : ldF m ((sortP s).take n.toNat ++ [q]) q.2 = ldn at hbm
     obtain ⟨j0, j1, j2, j3, j4, j5, j6, j7⟩ := thing_cells hbm
     have HCB := Aside0.mk hCb
     have HLB := Aside0.mk hlb
     have HLN := Aside0.mk hldn
     have HBM := Aside0.mk hbm
     have hwlt : W.heap.size ≤ wr.heap.size := HW.out
     clear hRm hCb hlb hldn hbm hk0 hk1 hk2 hk3 hk4 hk5 hk6 hk7
     refine start_ (n := 27) (S := fun w' => w'.cell? ⟨B q.2, 0, none⟩ = some (.int .u8 m.f2) ∧ w'.cell? ⟨B q.2, 1, none⟩ = some (.int .i64 m.f3.f0) ∧ w'.cell? ⟨B q.2, 2, none⟩ = some (.int .i64 m.f3.f1) ∧ w'.cell? ⟨B q.2, 3, none⟩ = some (.int .i64 m.f3.f2) ∧ w'.cell? ⟨B q.2, 4, none⟩ = some (.int .i64 m.f3.f3) ∧ w'.cell? ⟨B q.2, 5, none⟩ = some (.string m.f1) ∧ w'.cell? ⟨B q.2, 6, none⟩ = some (.slice Ab m.f4.length cb) ∧ w'.cell? ⟨B q.2, 7, none⟩ = some (.string ldn)) (ds := []) #[false, false, false, false, false, false, false, false, false, false, false, false, false, false, false, false, false, false, false, false, false, false, false, false, false, false, false] (by kernel_rfl) rfl rfl ⟨j0, j1, j2, j3, j4, j5, j6, j7⟩ (fun hHeld => ?_)
     generalize hwq : World.drew _ = wq at hHeld ⊢
     have hzq : wr.heap.size = wq.heap.size := by rw [← hwq]; exact hwz
     have HNQ : Aside0 (Kd.N k38 38 wq base (fun k => W.heap.size ≤ k) (.slice Ao out.length co) out) := ⟨by rw [← hwq]; exact Kd.N_drew HMM.out.2.2.1⟩
     have HBQ : Aside0 (Below base W wq) := ⟨by rw [← hwq]; exact below_drew HMM.out.2.2.2.2⟩
     have HOB := Aside0.mk (Kd.N_lt HNQ.out)
     have HNE : Aside0 (∀ w5 : World, Below wq.heap.size wq w5 → some (B q.2) ≠ (Value.slice Ao out.length co).ownBlock) := ⟨fun w5 hb => Kd.N_ne (cells := thingCells m (.slice Ab m.f4.length cb) ldn) (t := 102) HNQ.out (by rw [← hwq]; exact HBM.out) (by decide)⟩
     refine pure_ (i := 0) (N := some 37) (v := ?_) (a' := ?_) #[true, false, false, false, false, false, false, false, false, false, false, false, false, false, false, false, false, false, false, false, false, false, false, false, false, false, false] rfl rfl (by kernel_rfl) (fun _ _ _ h => h) (Or.inl ⟨by rfl, ?_⟩) ?_ ?_
     rotate_left
     ·intro w'
      go_simp
      with_reducible rfl
     rotate_left
     ·simp only [Act.put, List.setIfInBounds_toArray, List.set_cons_zero, List.set_cons_succ, i64_w, i32_w]
      rfl
     refine pure_ (i := 1) (N := some 38) (v := ?_) (a' := ?_) #[true, true, false, false, false, false, false, false, false, false, false, false, false, false, false, false, false, false, false, false, false, false, false, false, false, false, false] rfl rfl (by kernel_rfl) (fun _ _ _ h => h) (Or.inl ⟨by rfl, ?_⟩) ?_ ?_
     rotate_left
     ·intro w'
      go_simp
      with_reducible rfl
     rotate_left
     ·simp only [Act.put, List.setIfInBounds_toArray, List.set_cons_zero, List.set_cons_succ, i64_w, i32_w]
      rfl
     refine pure_ (i := 2) (N := some 39) (v := ?_) (a' := ?_) #[true, true, true, false, false, false, false, false, false, false, false, false, false, false, false, false, false, false, false, false, false, false, false, false, false, false, false] rfl rfl (by kernel_rfl) (fun _ _ _ h => h) (Or.inl ⟨by rfl, ?_⟩) ?_ ?_
     rotate_left
     ·intro w'
      go_simp
      with_reducible rfl
     rotate_left
     ·simp only [Act.put, List.setIfInBounds_toArray, List.set_cons_zero, List.set_cons_succ, i64_w, i32_w]
      rfl
     refine pure_ (i := 3) (N := some 40) (v := ?_) (a' := ?_) #[true, true, true, true, false, false, false, false, false, false, false, false, false, false, false, false, false, false, false, false, false, false, false, false, false, false, false] rfl rfl (by kernel_rfl) (fun _ _ _ h => h) (Or.inl ⟨by rfl, ?_⟩) ?_ ?_
     rotate_left
     ·intro w'
      go_simp
      with_reducible rfl
     rotate_left
     ·simp only [Act.put, List.setIfInBounds_toArray, List.set_cons_zero, List.set_cons_succ, i64_w, i32_w]
      rfl
     refine pure_ (i := 4) (N := some 41) (v := ?_) (a' := ?_) #[true, true, true, true, true, false, false, false, false, false, false, false, false, false, false, false, false, false, false, false, false, false, false, false, false, false, false] rfl rfl (by kernel_rfl) (fun _ _ _ h => h) (Or.inl ⟨by rfl, ?_⟩) ?_ ?_
     rotate_left
     ·intro w'
      go_simp
      with_reducible rfl
     rotate_left
     ·simp only [Act.put, List.setIfInBounds_toArray, List.set_cons_zero, List.set_cons_succ, i64_w, i32_w]
      rfl
     refine take_ (i := 5) (N := some 42) (v := ?_) (a' := ?_) #[true, true, true, true, true, true, false, false, false, false, false, false, false, false, false, false, false, false, false, false, false, false, false, false, false, false, false] rfl rfl (by kernel_rfl) (fun _ _ _ h => h) (Or.inl ⟨by rfl, ?_⟩) hHeld ?_ ?_
     rotate_left
     ·rintro w' ⟨s0, s1, s2, s3, s4, s5, s6, s7⟩
      go_simp
      with_reducible rfl
     rotate_left
     ·simp only [Act.put, List.setIfInBounds_toArray, List.set_cons_zero, List.set_cons_succ, i64_w, i32_w]
      rfl
     refine pure_ (i := 6) (N := some 43) (v := ?_) (a' := ?_) #[true, true, true, true, true, true, true, false, false, false, false, false, false, false, false, false, false, false, false, false, false, false, false, false, false, false, false] rfl rfl (by kernel_rfl) (fun _ _ _ h => h) (Or.inl ⟨by rfl, ?_⟩) ?_ ?_
     rotate_left
     ·intro w'
      go_simp
      with_reducible rfl
     rotate_left
     ·simp only [Act.put, List.setIfInBounds_toArray, List.set_cons_zero, List.set_cons_succ, i64_w, i32_w]
      rfl
     refine pure_ (i := 7) (N := some 44) (v := ?_) (a' := ?_) #[true, true, true, true, true, true, true, true, false, false, false, false, false, false, false, false, false, false, false, false, false, false, false, false, false, false, false] rfl rfl (by kernel_rfl) (fun _ _ _ h => h) (Or.inl ⟨by rfl, ?_⟩) ?_ ?_
     rotate_left
     ·intro w'
      go_simp
      with_reducible rfl
     rotate_left
     ·simp only [Act.put, List.setIfInBounds_toArray, List.set_cons_zero, List.set_cons_succ, i64_w, i32_w]
      rfl
     refine pure_ (i := 8) (N := some 45) (v := ?_) (a' := ?_) #[true, true, true, true, true, true, true, true, true, false, false, false, false, false, false, false, false, false, false, false, false, false, false, false, false, false, false] rfl rfl (by kernel_rfl) (fun _ _ _ h => h) (Or.inl ⟨by rfl, ?_⟩) ?_ ?_
     rotate_left
     ·intro w'
      go_simp
      with_reducible rfl
     rotate_left
     ·simp only [Act.put, List.setIfInBounds_toArray, List.set_cons_zero, List.set_cons_succ, i64_w, i32_w]
      rfl
     refine take_ (i := 9) (N := some 46) (v := ?_) (a' := ?_) #[true, true, true, true, true, true, true, true, true, true, false, false, false, false, false, false, false, false, false, false, false, false, false, false, false, false, false] rfl rfl (by kernel_rfl) (fun _ _ _ h => h) (Or.inl ⟨by rfl, ?_⟩) hHeld ?_ ?_
     rotate_left
     ·rintro w' ⟨s0, s1, s2, s3, s4, s5, s6, s7⟩
      go_simp
      with_reducible rfl
     rotate_left
     ·simp only [Act.put, List.setIfInBounds_toArray, List.set_cons_zero, List.set_cons_succ, i64_w, i32_w]
      rfl
     refine pure_ (i := 10) (N := some 47) (v := ?_) (a' := ?_) #[true, true, true, true, true, true, true, true, true, true, true, false, false, false, false, false, false, false, false, false, false, false, false, false, false, false, false] rfl rfl (by kernel_rfl) (fun _ _ _ h => h) (Or.inl ⟨by rfl, ?_⟩) ?_ ?_
     rotate_left
     ·intro w'
      go_simp
      with_reducible rfl
     rotate_left
     ·simp only [Act.put, List.setIfInBounds_toArray, List.set_cons_zero, List.set_cons_succ, i64_w, i32_w]
      rfl
     refine pure_ (i := 11) (N := some 48) (v := ?_) (a' := ?_) #[true, true, true, true, true, true, true, true, true, true, true, true, false, false, false, false, false, false, false, false, false, false, false, false, false, false, false] rfl rfl (by kernel_rfl) (fun _ _ _ h => h) (Or.inl ⟨by rfl, ?_⟩) ?_ ?_
     rotate_left
     ·intro w'
      go_simp
      with_reducible rfl
     rotate_left
     ·simp only [Act.put, List.setIfInBounds_toArray, List.set_cons_zero, List.set_cons_succ, i64_w, i32_w]
      rfl
     refine pure_ (i := 12) (N := some 49) (v := ?_) (a' := ?_) #[true, true, true, true, true, true, true, true, true, true, true, true, true, false, false, false, false, false, false, false, false, false, false, false, false, false, false] rfl rfl (by kernel_rfl) (fun _ _ _ h => h) (Or.inl ⟨by rfl, ?_⟩) ?_ ?_
     rotate_left
     ·intro w'
      go_simp
      with_reducible rfl
     rotate_left
     ·simp only [Act.put, List.setIfInBounds_toArray, List.set_cons_zero, List.set_cons_succ, i64_w, i32_w]
      rfl
     refine take_ (i := 13) (N := some 50) (v := ?_) (a' := ?_) #[true, true, true, true, true, true, true, true, true, true, true, true, true, true, false, false, false, false, false, false, false, false, false, false, false, false, false] rfl rfl (by kernel_rfl) (fun _ _ _ h => h) (Or.inl ⟨by rfl, ?_⟩) hHeld ?_ ?_
     rotate_left
     ·rintro w' ⟨s0, s1, s2, s3, s4, s5, s6, s7⟩
      go_simp
      with_reducible rfl
     rotate_left
     ·simp only [Act.put, List.setIfInBounds_toArray, List.set_cons_zero, List.set_cons_succ, i64_w, i32_w]
      rfl
     refine pure_ (i := 14) (N := some 51) (v := ?_) (a' := ?_) #[true, true, true, true, true, true, true, true, true, true, true, true, true, true, true, false, false, false, false, false, false, false, false, false, false, false, false] rfl rfl (by kernel_rfl) (fun _ _ _ h => h) (Or.inl ⟨by rfl, ?_⟩) ?_ ?_
     rotate_left
     ·intro w'
      go_simp
      with_reducible rfl
     rotate_left
     ·simp only [Act.put, List.setIfInBounds_toArray, List.set_cons_zero, List.set_cons_succ, i64_w, i32_w]
      rfl
     refine pure_ (i := 15) (N := some 52) (v := ?_) (a' := ?_) #[true, true, true, true, true, true, true, true, true, true, true, true, true, true, true, true, false, false, false, false, false, false, false, false, false, false, false] rfl rfl (by kernel_rfl) (fun _ _ _ h => h) (Or.inl ⟨by rfl, ?_⟩) ?_ ?_
     rotate_left
     ·intro w'
      go_simp
      with_reducible rfl
     rotate_left
     ·simp only [Act.put, List.setIfInBounds_toArray, List.set_cons_zero, List.set_cons_succ, i64_w, i32_w]
      rfl
     refine pure_ (i := 16) (N := some 53) (v := ?_) (a' := ?_) #[true, true, true, true, true, true, true, true, true, true, true, true, true, true, true, true, true, false, false, false, false, false, false, false, false, false, false] rfl rfl (by kernel_rfl) (fun _ _ _ h => h) (Or.inl ⟨by rfl, ?_⟩) ?_ ?_
     rotate_left
     ·intro w'
      go_simp
      with_reducible rfl
     rotate_left
     ·simp only [Act.put, List.setIfInBounds_toArray, List.set_cons_zero, List.set_cons_succ, i64_w, i32_w]
      rfl
     refine take_ (i := 17) (N := some 54) (v := ?_) (a' := ?_) #[true, true, true, true, true, true, true, true, true, true, true, true, true, true, true, true, true, true, false, false, false, false, false, false, false, false, false] rfl rfl (by kernel_rfl) (fun _ _ _ h => h) (Or.inl ⟨by rfl, ?_⟩) hHeld ?_ ?_
     rotate_left
     ·rintro w' ⟨s0, s1, s2, s3, s4, s5, s6, s7⟩
      go_simp
      with_reducible rfl
     rotate_left
     ·simp only [Act.put, List.setIfInBounds_toArray, List.set_cons_zero, List.set_cons_succ, i64_w, i32_w]
      rfl
     refine pure_ (i := 18) (N := some 55) (v := ?_) (a' := ?_) #[true, true, true, true, true, true, true, true, true, true, true, true, true, true, true, true, true, true, true, false, false, false, false, false, false, false, false] rfl rfl (by kernel_rfl) (fun _ _ _ h => h) (Or.inl ⟨by rfl, ?_⟩) ?_ ?_
     rotate_left
     ·intro w'
      go_simp
      with_reducible rfl
     rotate_left
     ·simp only [Act.put, List.setIfInBounds_toArray, List.set_cons_zero, List.set_cons_succ, i64_w, i32_w]
      rfl
     refine pure_ (i := 19) (N := some 56) (v := ?_) (a' := ?_) #[true, true, true, true, true, true, true, true, true, true, true, true, true, true, true, true, true, true, true, true, false, false, false, false, false, false, false] rfl rfl (by kernel_rfl) (fun _ _ _ h => h) (Or.inl ⟨by rfl, ?_⟩) ?_ ?_
     rotate_left
     ·intro w'
      go_simp
      with_reducible rfl
     rotate_left
     ·simp only [Act.put, List.setIfInBounds_toArray, List.set_cons_zero, List.set_cons_succ, i64_w, i32_w]
      rfl
     refine pure_ (i := 20) (N := some 57) (v := ?_) (a' := ?_) #[true, true, true, true, true, true, true, true, true, true, true, true, true, true, true, true, true, true, true, true, true, false, false, false, false, false, false] rfl rfl (by kernel_rfl) (fun _ _ _ h => h) (Or.inl ⟨by rfl, ?_⟩) ?_ ?_
     rotate_left
     ·intro w'
      go_simp
      with_reducible rfl
     rotate_left
     ·simp only [Act.put, List.setIfInBounds_toArray, List.set_cons_zero, List.set_cons_succ, i64_w, i32_w]
      rfl
     refine take_ (i := 21) (N := some 58) (v := ?_) (a' := ?_) #[true, true, true, true, true, true, true, true, true, true, true, true, true, true, true, true, true, true, true, true, true, true, false, false, false, false, false] rfl rfl (by kernel_rfl) (fun _ _ _ h => h) (Or.inl ⟨by rfl, ?_⟩) hHeld ?_ ?_
     rotate_left
     ·rintro w' ⟨s0, s1, s2, s3, s4, s5, s6, s7⟩
      go_simp
      with_reducible rfl
     rotate_left
     ·simp only [Act.put, List.setIfInBounds_toArray, List.set_cons_zero, List.set_cons_succ, i64_w, i32_w]
      rfl
     refine one_ (i := 22) (N := some 59) #[true, true, true, true, true, true, true, true, true, true, true, true, true, true, true, true, true, true, true, true, true, true, true, false, false, false, false] rfl rfl (by kernel_rfl) (by decide) (fun K hK => ?_)
     refine goes_ Tryd.func50 (by kernel_rfl) rfl #[.slice Ab m.f4.length cb] (by rfl) rfl rfl (by first | rfl | (simp [Act.eval]; done)) ?_
     refine (Clone_calls Ab cb m.f4 wq (by rw [← hwq]; exact Kd.C_drew HCB.out) (HZ.out m (List.mem_of_getElem? HM.out))).mono ?_
     rintro e w5 ⟨v5, rfl, hR5, hb5⟩
     obtain ⟨Av, cv, rfl, hlv, hCv⟩ := Kd.R_reads hR5
     refine ⟨_, rfl, ?_⟩
     refine hK.out _ _ ⟨fkeep hb5 hHeld.1, fkeep hb5 hHeld.2.1, fkeep hb5 hHeld.2.2.1, fkeep hb5 hHeld.2.2.2.1, fkeep hb5 hHeld.2.2.2.2.1, fkeep hb5 hHeld.2.2.2.2.2.1, fkeep hb5 hHeld.2.2.2.2.2.2.1, fkeep hb5 hHeld.2.2.2.2.2.2.2⟩ (fun hHeld2 => ?_)
     clear hK K
     have HR5 := Aside0.mk hR5
     have HB5 := Aside0.mk hb5
     have HLV := Aside0.mk hlv
     clear hR5 hCv hlv
     refine norm_ (a' := ?_) ?_ ?_
     rotate_left
     ·show Act.put _ (some 59) _ = _
      simp only [Act.put, List.setIfInBounds_toArray, List.set_cons_zero, List.set_cons_succ, i64_w, i32_w]
      rfl
     refine pure_ (i := 23) (N := some 60) (v := ?_) (a' := ?_) #[true, true, true, true, true, true, true, true, true, true, true, true, true, true, true, true, true, true, true, true, true, true, true, true, false, false, false] rfl rfl (by kernel_rfl) (fun _ _ _ h => h) (Or.inl ⟨by rfl, ?_⟩) ?_ ?_
     rotate_left
     ·intro w'
      go_simp
      with_reducible rfl
     rotate_left
     ·simp only [Act.put, List.setIfInBounds_toArray, List.set_cons_zero, List.set_cons_succ, i64_w, i32_w]
      rfl
     refine one_ (i := 24) (N := some 61) #[true, true, true, true, true, true, true, true, true, true, true, true, true, true, true, true, true, true, true, true, true, true, true, true, true, false, false] rfl rfl (by kernel_rfl) (by decide) (fun K hK => ?_)
     refine value_ (w1 := ?_) (v := ?_) (by rfl) rfl ?_ ?_
     rotate_left 2
     ·go_simp
      constructor
      ·rfl
      ·rfl
     refine hK.out _ _ ⟨fcell hHeld2.1 _, fcell hHeld2.2.1 _, fcell hHeld2.2.2.1 _, fcell hHeld2.2.2.2.1 _, fcell hHeld2.2.2.2.2.1 _, fcell hHeld2.2.2.2.2.2.1 _, fcell hHeld2.2.2.2.2.2.2.1 _, fcell hHeld2.2.2.2.2.2.2.2 _⟩ (fun hHeld3 => ?_)
     clear hK K
     refine norm_ (a' := ?_) ?_ ?_
     rotate_left
     ·show Act.put _ (some 61) _ = _
      simp only [Act.put, List.setIfInBounds_toArray, List.set_cons_zero, List.set_cons_succ, i64_w, i32_w]
      rfl
     refine one_ (i := 25) (N := some 62) #[true, true, true, true, true, true, true, true, true, true, true, true, true, true, true, true, true, true, true, true, true, true, true, true, true, true, false] rfl rfl (by kernel_rfl) (by decide) (fun K hK => ?_)
     refine Kd.N_append_step k38 (w0 := W) (W := w5) base (by rfl) (.tmp 37) (.tmp 61) 31 38 (.agg #[(.string ⟨#[]⟩), (.string ⟨#[]⟩), (.string ⟨#[]⟩), (.int .u8 0), (.int .i64 0), (.int .i64 0), (.int .i64 0), (.int .i64 0), (.slice none 0 0)]) 112 rfl Tryd.underlying31 infoNode rfl (by decide) (by decide) (.slice Ao out.length co) out (⟨q.1, m.f1, ldn, m.f2, m.f3, m.f4⟩ : Node) [.string q.1, .string m.f1, .string ldn, .int .u8 m.f2, .int .i64 m.f3.f0, .int .i64 m.f3.f1, .int .i64 m.f3.f2, .int .i64 m.f3.f3, .slice Av m.f4.length cv] (fun k => W.heap.size ≤ k) (fun k => wq.heap.size ≤ k ∧ k < w5.heap.size) (by rfl) rfl (k38_mkF w5 _ _ HLV.out (Kd.R_F (Kd.R_mono (Kd.R_bound HR5.out) (fun k hk => ⟨hk.2.1, hk.2.2.1⟩)))) (fun k hk => ⟨by have := hk.1; omega, fun e => by have := HOB.out k e.symm; have := hk.1; omega⟩) (fun k hk => by have := HB5.out.size; omega) (Kd.N_below HNQ.out HB5.out) (HBQ.out.trans (HB5.out.mono (by omega))) (by have := HB5.out.size; omega) (by rw [HOL.out]; omega) ?_
     intro v6 w6 hN6 hB6 hg6 hat6
     have HN6 := Aside0.mk hN6
     have HB6 := Aside0.mk hB6
     have HG6 := Aside0.mk hg6
     clear hN6 hB6 hat6
     refine hK.out _ _ ⟨rcell' hg6 (HNE.out _ HB5.out) hHeld2.1, rcell' hg6 (HNE.out _ HB5.out) hHeld2.2.1, rcell' hg6 (HNE.out _ HB5.out) hHeld2.2.2.1, rcell' hg6 (HNE.out _ HB5.out) hHeld2.2.2.2.1, rcell' hg6 (HNE.out _ HB5.out) hHeld2.2.2.2.2.1, rcell' hg6 (HNE.out _ HB5.out) hHeld2.2.2.2.2.2.1, rcell' hg6 (HNE.out _ HB5.out) hHeld2.2.2.2.2.2.2.1, rcell' hg6 (HNE.out _ HB5.out) hHeld2.2.2.2.2.2.2.2⟩ (fun hHeld4 => ?_)
     clear hK K hg6 hHeld hHeld2 hHeld3 hb5
     refine norm_ (a' := ?_) ?_ ?_
     rotate_left
     ·show Act.put _ (some 62) _ = _
      simp only [Act.put, List.setIfInBounds_toArray, List.set_cons_zero, List.set_cons_succ, i64_w, i32_w]
      rfl
     refine pure_ (i := 26) (N := some 3) (v := ?_) (a' := ?_) #[true, true, true, true, true, true, true, true, true, true, true, true, true, true, true, true, true, true, true, true, true, true, true, true, true, true, true] rfl rfl (by kernel_rfl) (fun _ _ _ h => h) (Or.inl ⟨by rfl, ?_⟩) ?_ ?_
     rotate_left
     ·intro w'
      go_simp
      with_reducible rfl
     rotate_left
     ·simp only [Act.put, List.setIfInBounds_toArray, List.set_cons_zero, List.set_cons_succ, i64_w, i32_w]
      rfl
     refine done_ (by kernel_rfl) ?_
     have hfin : NodRel l s base d B W (.slice (some ad) (sortP s).length cq) (n + 1) v6 w6 := by
      refine mid_next h0 hnl HOUT.out HMM.out ((drew_below hwq).trans (HB5.out.mono (by rw [← hwq]; exact Nat.le_refl _))) HG6.out hdlt hbase (by omega) ?_ HB6.out
      ·have e := HND.out
       rw [HTK.out, HLN.out] at e
       rw [HQE.out, e]
       exact HN6.out
     have HFIN := Aside0.mk hfin
     clear hfin HN6 HB6 HG6 HB5 HR5 HNQ HBQ hHeld4 j0 j1 j2 j3 j4 j5 j6 j7
     go_wp2_with (fail)
     go_roundw
     case rel => exact ⟨n + 1, by go_num, HFIN⟩
     case measure => simp [intOf]; omega
    | false =>
     have hem : ld0.toList = [] := by rw [← HLD.out]; exact HLF.out.2 ha
     have hem2 : (ld0.toList == []) = true := by simpa using hem
     obtain ⟨hmid, hwz⟩ := HMID.out _ (.inr ⟨rfl, H48.out, ha⟩)
     have HMM := Aside0.mk hmid
     clear ha hmid
     go_upto_region 8 with (fail)
     obtain ⟨_, vb, hbm, hRm⟩ := HMM.out.2.1 q.2 m HM.out H49.out
     obtain ⟨Ab, cb, rfl, hlb, hCb⟩ := Kd.R_reads hRm
     rw [HTK.out] at hbm
     generalize hldn : ldF m ((sortP s).take n.toNat ++ [q]) q.2 = ldn at hbm
     obtain ⟨j0, j1, j2, j3, j4, j5, j6, j7⟩ := thing_cells hbm
     have HCB := Aside0.mk hCb
     have HLB := Aside0.mk hlb
     have HLN := Aside0.mk hldn
     have HBM := Aside0.mk hbm
     have hwlt : W.heap.size ≤ wr.heap.size := HW.out
     clear hRm hCb hlb hldn hbm hk0 hk1 hk2 hk3 hk4 hk5 hk6 hk7
     refine start_ (n := 27) (S := fun w' => w'.cell? ⟨B q.2, 0, none⟩ = some (.int .u8 m.f2) ∧ w'.cell? ⟨B q.2, 1, none⟩ = some (.int .i64 m.f3.f0) ∧ w'.cell? ⟨B q.2, 2, none⟩ = some (.int .i64 m.f3.f1) ∧ w'.cell? ⟨B q.2, 3, none⟩ = some (.int .i64 m.f3.f2) ∧ w'.cell? ⟨B q.2, 4, none⟩ = some (.int .i64 m.f3.f3) ∧ w'.cell? ⟨B q.2, 5, none⟩ = some (.string m.f1) ∧ w'.cell? ⟨B q.2, 6, none⟩ = some (.slice Ab m.f4.length cb) ∧ w'.cell? ⟨B q.2, 7, none⟩ = some (.string ldn)) (ds := []) #[false, false, false, false, false, false, false, false, false, false, false, false, false, false, false, false, false, false, false, false, false, false, false, false, false, false, false] (by kernel_rfl) rfl rfl ⟨j0, j1, j2, j3, j4, j5, j6, j7⟩ (fun hHeld => ?_)
     generalize hwq : World.drew _ = wq at hHeld ⊢
     have hzq : wr.heap.size = wq.heap.size := by rw [← hwq]; exact hwz
     have HNQ : Aside0 (Kd.N k38 38 wq base (fun k => W.heap.size ≤ k) (.slice Ao out.length co) out) := ⟨by rw [← hwq]; exact Kd.N_drew HMM.out.2.2.1⟩
     have HBQ : Aside0 (Below base W wq) := ⟨by rw [← hwq]; exact below_drew HMM.out.2.2.2.2⟩
     have HOB := Aside0.mk (Kd.N_lt HNQ.out)
     have HNE : Aside0 (∀ w5 : World, Below wq.heap.size wq w5 → some (B q.2) ≠ (Value.slice Ao out.length co).ownBlock) := ⟨fun w5 hb => Kd.N_ne (cells := thingCells m (.slice Ab m.f4.length cb) ldn) (t := 102) HNQ.out (by rw [← hwq]; exact HBM.out) (by decide)⟩
     refine pure_ (i := 0) (N := some 37) (v := ?_) (a' := ?_) #[true, false, false, false, false, false, false, false, false, false, false, false, false, false, false, false, false, false, false, false, false, false, false, false, false, false, false] rfl rfl (by kernel_rfl) (fun _ _ _ h => h) (Or.inl ⟨by rfl, ?_⟩) ?_ ?_
     rotate_left
     ·intro w'
      go_simp
      with_reducible rfl
     rotate_left
     ·simp only [Act.put, List.setIfInBounds_toArray, List.set_cons_zero, List.set_cons_succ, i64_w, i32_w]
      rfl
     refine pure_ (i := 1) (N := some 38) (v := ?_) (a' := ?_) #[true, true, false, false, false, false, false, false, false, false, false, false, false, false, false, false, false, false, false, false, false, false, false, false, false, false, false] rfl rfl (by kernel_rfl) (fun _ _ _ h => h) (Or.inl ⟨by rfl, ?_⟩) ?_ ?_
     rotate_left
     ·intro w'
      go_simp
      with_reducible rfl
     rotate_left
     ·simp only [Act.put, List.setIfInBounds_toArray, List.set_cons_zero, List.set_cons_succ, i64_w, i32_w]
      rfl
     refine pure_ (i := 2) (N := some 39) (v := ?_) (a' := ?_) #[true, true, true, false, false, false, false, false, false, false, false, false, false, false, false, false, false, false, false, false, false, false, false, false, false, false, false] rfl rfl (by kernel_rfl) (fun _ _ _ h => h) (Or.inl ⟨by rfl, ?_⟩) ?_ ?_
     rotate_left
     ·intro w'
      go_simp
      with_reducible rfl
     rotate_left
     ·simp only [Act.put, List.setIfInBounds_toArray, List.set_cons_zero, List.set_cons_succ, i64_w, i32_w]
      rfl
     refine pure_ (i := 3) (N := some 40) (v := ?_) (a' := ?_) #[true, true, true, true, false, false, false, false, false, false, false, false, false, false, false, false, false, false, false, false, false, false, false, false, false, false, false] rfl rfl (by kernel_rfl) (fun _ _ _ h => h) (Or.inl ⟨by rfl, ?_⟩) ?_ ?_
     rotate_left
     ·intro w'
      go_simp
      with_reducible rfl
     rotate_left
     ·simp only [Act.put, List.setIfInBounds_toArray, List.set_cons_zero, List.set_cons_succ, i64_w, i32_w]
      rfl
     refine pure_ (i := 4) (N := some 41) (v := ?_) (a' := ?_) #[true, true, true, true, true, false, false, false, false, false, false, false, false, false, false, false, false, false, false, false, false, false, false, false, false, false, false] rfl rfl (by kernel_rfl) (fun _ _ _ h => h) (Or.inl ⟨by rfl, ?_⟩) ?_ ?_
     rotate_left
     ·intro w'
      go_simp
      with_reducible rfl
     rotate_left
     ·simp only [Act.put, List.setIfInBounds_toArray, List.set_cons_zero, List.set_cons_succ, i64_w, i32_w]
      rfl
     refine take_ (i := 5) (N := some 42) (v := ?_) (a' := ?_) #[true, true, true, true, true, true, false, false, false, false, false, false, false, false, false, false, false, false, false, false, false, false, false, false, false, false, false] rfl rfl (by kernel_rfl) (fun _ _ _ h => h) (Or.inl ⟨by rfl, ?_⟩) hHeld ?_ ?_
     rotate_left
     ·rintro w' ⟨s0, s1, s2, s3, s4, s5, s6, s7⟩
      go_simp
      with_reducible rfl
     rotate_left
     ·simp only [Act.put, List.setIfInBounds_toArray, List.set_cons_zero, List.set_cons_succ, i64_w, i32_w]
      rfl
     refine pure_ (i := 6) (N := some 43) (v := ?_) (a' := ?_) #[true, true, true, true, true, true, true, false, false, false, false, false, false, false, false, false, false, false, false, false, false, false, false, false, false, false, false] rfl rfl (by kernel_rfl) (fun _ _ _ h => h) (Or.inl ⟨by rfl, ?_⟩) ?_ ?_
     rotate_left
     ·intro w'
      go_simp
      with_reducible rfl
     rotate_left
     ·simp only [Act.put, List.setIfInBounds_toArray, List.set_cons_zero, List.set_cons_succ, i64_w, i32_w]
      rfl
     refine pure_ (i := 7) (N := some 44) (v := ?_) (a' := ?_) #[true, true, true, true, true, true, true, true, false, false, false, false, false, false, false, false, false, false, false, false, false, false, false, false, false, false, false] rfl rfl (by kernel_rfl) (fun _ _ _ h => h) (Or.inl ⟨by rfl, ?_⟩) ?_ ?_
     rotate_left
     ·intro w'
      go_simp
      with_reducible rfl
     rotate_left
     ·simp only [Act.put, List.setIfInBounds_toArray, List.set_cons_zero, List.set_cons_succ, i64_w, i32_w]
      rfl
     refine pure_ (i := 8) (N := some 45) (v := ?_) (a' := ?_) #[true, true, true, true, true, true, true, true, true, false, false, false, false, false, false, false, false, false, false, false, false, false, false, false, false, false, false] rfl rfl (by kernel_rfl) (fun _ _ _ h => h) (Or.inl ⟨by rfl, ?_⟩) ?_ ?_
     rotate_left
     ·intro w'
      go_simp
      with_reducible rfl
     rotate_left
     ·simp only [Act.put, List.setIfInBounds_toArray, List.set_cons_zero, List.set_cons_succ, i64_w, i32_w]
      rfl
     refine take_ (i := 9) (N := some 46) (v := ?_) (a' := ?_) #[true, true, true, true, true, true, true, true, true, true, false, false, false, false, false, false, false, false, false, false, false, false, false, false, false, false, false] rfl rfl (by kernel_rfl) (fun _ _ _ h => h) (Or.inl ⟨by rfl, ?_⟩) hHeld ?_ ?_
     rotate_left
     ·rintro w' ⟨s0, s1, s2, s3, s4, s5, s6, s7⟩
      go_simp
      with_reducible rfl
     rotate_left
     ·simp only [Act.put, List.setIfInBounds_toArray, List.set_cons_zero, List.set_cons_succ, i64_w, i32_w]
      rfl
     refine pure_ (i := 10) (N := some 47) (v := ?_) (a' := ?_) #[true, true, true, true, true, true, true, true, true, true, true, false, false, false, false, false, false, false, false, false, false, false, false, false, false, false, false] rfl rfl (by kernel_rfl) (fun _ _ _ h => h) (Or.inl ⟨by rfl, ?_⟩) ?_ ?_
     rotate_left
     ·intro w'
      go_simp
      with_reducible rfl
     rotate_left
     ·simp only [Act.put, List.setIfInBounds_toArray, List.set_cons_zero, List.set_cons_succ, i64_w, i32_w]
      rfl
     refine pure_ (i := 11) (N := some 48) (v := ?_) (a' := ?_) #[true, true, true, true, true, true, true, true, true, true, true, true, false, false, false, false, false, false, false, false, false, false, false, false, false, false, false] rfl rfl (by kernel_rfl) (fun _ _ _ h => h) (Or.inl ⟨by rfl, ?_⟩) ?_ ?_
     rotate_left
     ·intro w'
      go_simp
      with_reducible rfl
     rotate_left
     ·simp only [Act.put, List.setIfInBounds_toArray, List.set_cons_zero, List.set_cons_succ, i64_w, i32_w]
      rfl
     refine pure_ (i := 12) (N := some 49) (v := ?_) (a' := ?_) #[true, true, true, true, true, true, true, true, true, true, true, true, true, false, false, false, false, false, false, false, false, false, false, false, false, false, false] rfl rfl (by kernel_rfl) (fun _ _ _ h => h) (Or.inl ⟨by rfl, ?_⟩) ?_ ?_
     rotate_left
     ·intro w'
      go_simp
      with_reducible rfl
     rotate_left
     ·simp only [Act.put, List.setIfInBounds_toArray, List.set_cons_zero, List.set_cons_succ, i64_w, i32_w]
      rfl
     refine take_ (i := 13) (N := some 50) (v := ?_) (a' := ?_) #[true, true, true, true, true, true, true, true, true, true, true, true, true, true, false, false, false, false, false, false, false, false, false, false, false, false, false] rfl rfl (by kernel_rfl) (fun _ _ _ h => h) (Or.inl ⟨by rfl, ?_⟩) hHeld ?_ ?_
     rotate_left
     ·rintro w' ⟨s0, s1, s2, s3, s4, s5, s6, s7⟩
      go_simp
      with_reducible rfl
     rotate_left
     ·simp only [Act.put, List.setIfInBounds_toArray, List.set_cons_zero, List.set_cons_succ, i64_w, i32_w]
      rfl
     refine pure_ (i := 14) (N := some 51) (v := ?_) (a' := ?_) #[true, true, true, true, true, true, true, true, true, true, true, true, true, true, true, false, false, false, false, false, false, false, false, false, false, false, false] rfl rfl (by kernel_rfl) (fun _ _ _ h => h) (Or.inl ⟨by rfl, ?_⟩) ?_ ?_
     rotate_left
     ·intro w'
      go_simp
      with_reducible rfl
     rotate_left
     ·simp only [Act.put, List.setIfInBounds_toArray, List.set_cons_zero, List.set_cons_succ, i64_w, i32_w]
      rfl
     refine pure_ (i := 15) (N := some 52) (v := ?_) (a' := ?_) #[true, true, true, true, true, true, true, true, true, true, true, true, true, true, true, true, false, false, false, false, false, false, false, false, false, false, false] rfl rfl (by kernel_rfl) (fun _ _ _ h => h) (Or.inl ⟨by rfl, ?_⟩) ?_ ?_
     rotate_left
     ·intro w'
      go_simp
      with_reducible rfl
     rotate_left
     ·simp only [Act.put, List.setIfInBounds_toArray, List.set_cons_zero, List.set_cons_succ, i64_w, i32_w]
      rfl
     refine pure_ (i := 16) (N := some 53) (v := ?_) (a' := ?_) #[true, true, true, true, true, true, true, true, true, true, true, true, true, true, true, true, true, false, false, false, false, false, false, false, false, false, false] rfl rfl (by kernel_rfl) (fun _ _ _ h => h) (Or.inl ⟨by rfl, ?_⟩) ?_ ?_
     rotate_left
     ·intro w'
      go_simp
      with_reducible rfl
     rotate_left
     ·simp only [Act.put, List.setIfInBounds_toArray, List.set_cons_zero, List.set_cons_succ, i64_w, i32_w]
      rfl
     refine take_ (i := 17) (N := some 54) (v := ?_) (a' := ?_) #[true, true, true, true, true, true, true, true, true, true, true, true, true, true, true, true, true, true, false, false, false, false, false, false, false, false, false] rfl rfl (by kernel_rfl) (fun _ _ _ h => h) (Or.inl ⟨by rfl, ?_⟩) hHeld ?_ ?_
     rotate_left
     ·rintro w' ⟨s0, s1, s2, s3, s4, s5, s6, s7⟩
      go_simp
      with_reducible rfl
     rotate_left
     ·simp only [Act.put, List.setIfInBounds_toArray, List.set_cons_zero, List.set_cons_succ, i64_w, i32_w]
      rfl
     refine pure_ (i := 18) (N := some 55) (v := ?_) (a' := ?_) #[true, true, true, true, true, true, true, true, true, true, true, true, true, true, true, true, true, true, true, false, false, false, false, false, false, false, false] rfl rfl (by kernel_rfl) (fun _ _ _ h => h) (Or.inl ⟨by rfl, ?_⟩) ?_ ?_
     rotate_left
     ·intro w'
      go_simp
      with_reducible rfl
     rotate_left
     ·simp only [Act.put, List.setIfInBounds_toArray, List.set_cons_zero, List.set_cons_succ, i64_w, i32_w]
      rfl
     refine pure_ (i := 19) (N := some 56) (v := ?_) (a' := ?_) #[true, true, true, true, true, true, true, true, true, true, true, true, true, true, true, true, true, true, true, true, false, false, false, false, false, false, false] rfl rfl (by kernel_rfl) (fun _ _ _ h => h) (Or.inl ⟨by rfl, ?_⟩) ?_ ?_
     rotate_left
     ·intro w'
      go_simp
      with_reducible rfl
     rotate_left
     ·simp only [Act.put, List.setIfInBounds_toArray, List.set_cons_zero, List.set_cons_succ, i64_w, i32_w]
      rfl
     refine pure_ (i := 20) (N := some 57) (v := ?_) (a' := ?_) #[true, true, true, true, true, true, true, true, true, true, true, true, true, true, true, true, true, true, true, true, true, false, false, false, false, false, false] rfl rfl (by kernel_rfl) (fun _ _ _ h => h) (Or.inl ⟨by rfl, ?_⟩) ?_ ?_
     rotate_left
     ·intro w'
      go_simp
      with_reducible rfl
     rotate_left
     ·simp only [Act.put, List.setIfInBounds_toArray, List.set_cons_zero, List.set_cons_succ, i64_w, i32_w]
      rfl
     refine take_ (i := 21) (N := some 58) (v := ?_) (a' := ?_) #[true, true, true, true, true, true, true, true, true, true, true, true, true, true, true, true, true, true, true, true, true, true, false, false, false, false, false] rfl rfl (by kernel_rfl) (fun _ _ _ h => h) (Or.inl ⟨by rfl, ?_⟩) hHeld ?_ ?_
     rotate_left
     ·rintro w' ⟨s0, s1, s2, s3, s4, s5, s6, s7⟩
      go_simp
      with_reducible rfl
     rotate_left
     ·simp only [Act.put, List.setIfInBounds_toArray, List.set_cons_zero, List.set_cons_succ, i64_w, i32_w]
      rfl
     refine one_ (i := 22) (N := some 59) #[true, true, true, true, true, true, true, true, true, true, true, true, true, true, true, true, true, true, true, true, true, true, true, false, false, false, false] rfl rfl (by kernel_rfl) (by decide) (fun K hK => ?_)
     refine goes_ Tryd.func50 (by kernel_rfl) rfl #[.slice Ab m.f4.length cb] (by rfl) rfl rfl (by first | rfl | (simp [Act.eval]; done)) ?_
     refine (Clone_calls Ab cb m.f4 wq (by rw [← hwq]; exact Kd.C_drew HCB.out) (HZ.out m (List.mem_of_getElem? HM.out))).mono ?_
     rintro e w5 ⟨v5, rfl, hR5, hb5⟩
     obtain ⟨Av, cv, rfl, hlv, hCv⟩ := Kd.R_reads hR5
     refine ⟨_, rfl, ?_⟩
     refine hK.out _ _ ⟨fkeep hb5 hHeld.1, fkeep hb5 hHeld.2.1, fkeep hb5 hHeld.2.2.1, fkeep hb5 hHeld.2.2.2.1, fkeep hb5 hHeld.2.2.2.2.1, fkeep hb5 hHeld.2.2.2.2.2.1, fkeep hb5 hHeld.2.2.2.2.2.2.1, fkeep hb5 hHeld.2.2.2.2.2.2.2⟩ (fun hHeld2 => ?_)
     clear hK K
     have HR5 := Aside0.mk hR5
     have HB5 := Aside0.mk hb5
     have HLV := Aside0.mk hlv
     clear hR5 hCv hlv
     refine norm_ (a' := ?_) ?_ ?_
     rotate_left
     ·show Act.put _ (some 59) _ = _
      simp only [Act.put, List.setIfInBounds_toArray, List.set_cons_zero, List.set_cons_succ, i64_w, i32_w]
      rfl
     refine pure_ (i := 23) (N := some 60) (v := ?_) (a' := ?_) #[true, true, true, true, true, true, true, true, true, true, true, true, true, true, true, true, true, true, true, true, true, true, true, true, false, false, false] rfl rfl (by kernel_rfl) (fun _ _ _ h => h) (Or.inl ⟨by rfl, ?_⟩) ?_ ?_
     rotate_left
     ·intro w'
      go_simp
      with_reducible rfl
     rotate_left
     ·simp only [Act.put, List.setIfInBounds_toArray, List.set_cons_zero, List.set_cons_succ, i64_w, i32_w]
      rfl
     refine one_ (i := 24) (N := some 61) #[true, true, true, true, true, true, true, true, true, true, true, true, true, true, true, true, true, true, true, true, true, true, true, true, true, false, false] rfl rfl (by kernel_rfl) (by decide) (fun K hK => ?_)
     refine value_ (w1 := ?_) (v := ?_) (by rfl) rfl ?_ ?_
     rotate_left 2
     ·go_simp
      constructor
      ·rfl
      ·rfl
     refine hK.out _ _ ⟨fcell hHeld2.1 _, fcell hHeld2.2.1 _, fcell hHeld2.2.2.1 _, fcell hHeld2.2.2.2.1 _, fcell hHeld2.2.2.2.2.1 _, fcell hHeld2.2.2.2.2.2.1 _, fcell hHeld2.2.2.2.2.2.2.1 _, fcell hHeld2.2.2.2.2.2.2.2 _⟩ (fun hHeld3 => ?_)
     clear hK K
     refine norm_ (a' := ?_) ?_ ?_
     rotate_left
     ·show Act.put _ (some 61) _ = _
      simp only [Act.put, List.setIfInBounds_toArray, List.set_cons_zero, List.set_cons_succ, i64_w, i32_w]
      rfl
     refine one_ (i := 25) (N := some 62) #[true, true, true, true, true, true, true, true, true, true, true, true, true, true, true, true, true, true, true, true, true, true, true, true, true, true, false] rfl rfl (by kernel_rfl) (by decide) (fun K hK => ?_)
     refine Kd.N_append_step k38 (w0 := W) (W := w5) base (by rfl) (.tmp 37) (.tmp 61) 31 38 (.agg #[(.string ⟨#[]⟩), (.string ⟨#[]⟩), (.string ⟨#[]⟩), (.int .u8 0), (.int .i64 0), (.int .i64 0), (.int .i64 0), (.int .i64 0), (.slice none 0 0)]) 112 rfl Tryd.underlying31 infoNode rfl (by decide) (by decide) (.slice Ao out.length co) out (⟨q.1, m.f1, ldn, m.f2, m.f3, m.f4⟩ : Node) [.string q.1, .string m.f1, .string ldn, .int .u8 m.f2, .int .i64 m.f3.f0, .int .i64 m.f3.f1, .int .i64 m.f3.f2, .int .i64 m.f3.f3, .slice Av m.f4.length cv] (fun k => W.heap.size ≤ k) (fun k => wq.heap.size ≤ k ∧ k < w5.heap.size) (by rfl) rfl (k38_mkF w5 _ _ HLV.out (Kd.R_F (Kd.R_mono (Kd.R_bound HR5.out) (fun k hk => ⟨hk.2.1, hk.2.2.1⟩)))) (fun k hk => ⟨by have := hk.1; omega, fun e => by have := HOB.out k e.symm; have := hk.1; omega⟩) (fun k hk => by have := HB5.out.size; omega) (Kd.N_below HNQ.out HB5.out) (HBQ.out.trans (HB5.out.mono (by omega))) (by have := HB5.out.size; omega) (by rw [HOL.out]; omega) ?_
     intro v6 w6 hN6 hB6 hg6 hat6
     have HN6 := Aside0.mk hN6
     have HB6 := Aside0.mk hB6
     have HG6 := Aside0.mk hg6
     clear hN6 hB6 hat6
     refine hK.out _ _ ⟨rcell' hg6 (HNE.out _ HB5.out) hHeld2.1, rcell' hg6 (HNE.out _ HB5.out) hHeld2.2.1, rcell' hg6 (HNE.out _ HB5.out) hHeld2.2.2.1, rcell' hg6 (HNE.out _ HB5.out) hHeld2.2.2.2.1, rcell' hg6 (HNE.out _ HB5.out) hHeld2.2.2.2.2.1, rcell' hg6 (HNE.out _ HB5.out) hHeld2.2.2.2.2.2.1, rcell' hg6 (HNE.out _ HB5.out) hHeld2.2.2.2.2.2.2.1, rcell' hg6 (HNE.out _ HB5.out) hHeld2.2.2.2.2.2.2.2⟩ (fun hHeld4 => ?_)
     clear hK K hg6 hHeld hHeld2 hHeld3 hb5
     refine norm_ (a' := ?_) ?_ ?_
     rotate_left
     ·show Act.put _ (some 62) _ = _
      simp only [Act.put, List.setIfInBounds_toArray, List.set_cons_zero, List.set_cons_succ, i64_w, i32_w]
      rfl
     refine pure_ (i := 26) (N := some 3) (v := ?_) (a' := ?_) #[true, true, true, true, true, true, true, true, true, true, true, true, true, true, true, true, true, true, true, true, true, true, true, true, true, true, true] rfl rfl (by kernel_rfl) (fun _ _ _ h => h) (Or.inl ⟨by rfl, ?_⟩) ?_ ?_
     rotate_left
     ·intro w'
      go_simp
      with_reducible rfl
     rotate_left
     ·simp only [Act.put, List.setIfInBounds_toArray, List.set_cons_zero, List.set_cons_succ, i64_w, i32_w]
      rfl
     refine done_ (by kernel_rfl) ?_
     have hfin : NodRel l s base d B W (.slice (some ad) (sortP s).length cq) (n + 1) v6 w6 := by
      refine mid_next h0 hnl HOUT.out HMM.out ((drew_below hwq).trans (HB5.out.mono (by rw [← hwq]; exact Nat.le_refl _))) HG6.out hdlt hbase (by omega) ?_ HB6.out
      ·have e := HND.out
       rw [HTK.out, HLN.out] at e
       rw [HQE.out, e]
       exact HN6.out
     have HFIN := Aside0.mk hfin
     clear hfin HN6 HB6 HG6 HB5 HR5 HNQ HBQ hHeld4 j0 j1 j2 j3 j4 j5 j6 j7
     go_wp2_with (fail)
     go_roundw
     case rel => exact ⟨n + 1, by go_num, HFIN⟩
     case measure => simp [intOf]; omega
   ·have e48 : (m.f2 == 48) = false := beq_eq_false_iff_ne.2 h48
    obtain ⟨hmid, hwz⟩ := HMID.out wr (.inl ⟨rfl, fun h => absurd h h48⟩)
    have HMM := Aside0.mk hmid
    clear h48 hmid
    go_upto_region 8 with (fail)
    obtain ⟨_, vb, hbm, hRm⟩ := HMM.out.2.1 q.2 m HM.out H49.out
    obtain ⟨Ab, cb, rfl, hlb, hCb⟩ := Kd.R_reads hRm
    rw [HTK.out] at hbm
    generalize hldn : ldF m ((sortP s).take n.toNat ++ [q]) q.2 = ldn at hbm
    obtain ⟨j0, j1, j2, j3, j4, j5, j6, j7⟩ := thing_cells hbm
    have HCB := Aside0.mk hCb
    have HLB := Aside0.mk hlb
    have HLN := Aside0.mk hldn
    have HBM := Aside0.mk hbm
    have hwlt : W.heap.size ≤ wr.heap.size := HW.out
    clear hRm hCb hlb hldn hbm hk0 hk1 hk2 hk3 hk4 hk5 hk6 hk7
    refine start_ (n := 27) (S := fun w' => w'.cell? ⟨B q.2, 0, none⟩ = some (.int .u8 m.f2) ∧ w'.cell? ⟨B q.2, 1, none⟩ = some (.int .i64 m.f3.f0) ∧ w'.cell? ⟨B q.2, 2, none⟩ = some (.int .i64 m.f3.f1) ∧ w'.cell? ⟨B q.2, 3, none⟩ = some (.int .i64 m.f3.f2) ∧ w'.cell? ⟨B q.2, 4, none⟩ = some (.int .i64 m.f3.f3) ∧ w'.cell? ⟨B q.2, 5, none⟩ = some (.string m.f1) ∧ w'.cell? ⟨B q.2, 6, none⟩ = some (.slice Ab m.f4.length cb) ∧ w'.cell? ⟨B q.2, 7, none⟩ = some (.string ldn)) (ds := []) #[false, false, false, false, false, false, false, false, false, false, false, false, false, false, false, false, false, false, false, false, false, false, false, false, false, false, false] (by kernel_rfl) rfl rfl ⟨j0, j1, j2, j3, j4, j5, j6, j7⟩ (fun hHeld => ?_)
    generalize hwq : World.drew _ = wq at hHeld ⊢
    have hzq : wr.heap.size = wq.heap.size := by rw [← hwq]; exact hwz
    have HNQ : Aside0 (Kd.N k38 38 wq base (fun k => W.heap.size ≤ k) (.slice Ao out.length co) out) := ⟨by rw [← hwq]; exact Kd.N_drew HMM.out.2.2.1⟩
    have HBQ : Aside0 (Below base W wq) := ⟨by rw [← hwq]; exact below_drew HMM.out.2.2.2.2⟩
    have HOB := Aside0.mk (Kd.N_lt HNQ.out)
    have HNE : Aside0 (∀ w5 : World, Below wq.heap.size wq w5 → some (B q.2) ≠ (Value.slice Ao out.length co).ownBlock) := ⟨fun w5 hb => Kd.N_ne (cells := thingCells m (.slice Ab m.f4.length cb) ldn) (t := 102) HNQ.out (by rw [← hwq]; exact HBM.out) (by decide)⟩
    refine pure_ (i := 0) (N := some 37) (v := ?_) (a' := ?_) #[true, false, false, false, false, false, false, false, false, false, false, false, false, false, false, false, false, false, false, false, false, false, false, false, false, false, false] rfl rfl (by kernel_rfl) (fun _ _ _ h => h) (Or.inl ⟨by rfl, ?_⟩) ?_ ?_
    rotate_left
    ·intro w'
     go_simp
     with_reducible rfl
    rotate_left
    ·simp only [Act.put, List.setIfInBounds_toArray, List.set_cons_zero, List.set_cons_succ, i64_w, i32_w]
     rfl
    refine pure_ (i := 1) (N := some 38) (v := ?_) (a' := ?_) #[true, true, false, false, false, false, false, false, false, false, false, false, false, false, false, false, false, false, false, false, false, false, false, false, false, false, false] rfl rfl (by kernel_rfl) (fun _ _ _ h => h) (Or.inl ⟨by rfl, ?_⟩) ?_ ?_
    rotate_left
    ·intro w'
     go_simp
     with_reducible rfl
    rotate_left
    ·simp only [Act.put, List.setIfInBounds_toArray, List.set_cons_zero, List.set_cons_succ, i64_w, i32_w]
     rfl
    refine pure_ (i := 2) (N := some 39) (v := ?_) (a' := ?_) #[true, true, true, false, false, false, false, false, false, false, false, false, false, false, false, false, false, false, false, false, false, false, false, false, false, false, false] rfl rfl (by kernel_rfl) (fun _ _ _ h => h) (Or.inl ⟨by rfl, ?_⟩) ?_ ?_
    rotate_left
    ·intro w'
     go_simp
     with_reducible rfl
    rotate_left
    ·simp only [Act.put, List.setIfInBounds_toArray, List.set_cons_zero, List.set_cons_succ, i64_w, i32_w]
     rfl
    refine pure_ (i := 3) (N := some 40) (v := ?_) (a' := ?_) #[true, true, true, true, false, false, false, false, false, false, false, false, false, false, false, false, false, false, false, false, false, false, false, false, false, false, false] rfl rfl (by kernel_rfl) (fun _ _ _ h => h) (Or.inl ⟨by rfl, ?_⟩) ?_ ?_
    rotate_left
    ·intro w'
     go_simp
     with_reducible rfl
    rotate_left
    ·simp only [Act.put, List.setIfInBounds_toArray, List.set_cons_zero, List.set_cons_succ, i64_w, i32_w]
     rfl
    refine pure_ (i := 4) (N := some 41) (v := ?_) (a' := ?_) #[true, true, true, true, true, false, false, false, false, false, false, false, false, false, false, false, false, false, false, false, false, false, false, false, false, false, false] rfl rfl (by kernel_rfl) (fun _ _ _ h => h) (Or.inl ⟨by rfl, ?_⟩) ?_ ?_
    rotate_left
    ·intro w'
     go_simp
     with_reducible rfl
    rotate_left
    ·simp only [Act.put, List.setIfInBounds_toArray, List.set_cons_zero, List.set_cons_succ, i64_w, i32_w]
     rfl
    refine take_ (i := 5) (N := some 42) (v := ?_) (a' := ?_) #[true, true, true, true, true, true, false, false, false, false, false, false, false, false, false, false, false, false, false, false, false, false, false, false, false, false, false] rfl rfl (by kernel_rfl) (fun _ _ _ h => h) (Or.inl ⟨by rfl, ?_⟩) hHeld ?_ ?_
    rotate_left
    ·rintro w' ⟨s0, s1, s2, s3, s4, s5, s6, s7⟩
     go_simp
     with_reducible rfl
    rotate_left
    ·simp only [Act.put, List.setIfInBounds_toArray, List.set_cons_zero, List.set_cons_succ, i64_w, i32_w]
     rfl
    refine pure_ (i := 6) (N := some 43) (v := ?_) (a' := ?_) #[true, true, true, true, true, true, true, false, false, false, false, false, false, false, false, false, false, false, false, false, false, false, false, false, false, false, false] rfl rfl (by kernel_rfl) (fun _ _ _ h => h) (Or.inl ⟨by rfl, ?_⟩) ?_ ?_
    rotate_left
    ·intro w'
     go_simp
     with_reducible rfl
    rotate_left
    ·simp only [Act.put, List.setIfInBounds_toArray, List.set_cons_zero, List.set_cons_succ, i64_w, i32_w]
     rfl
    refine pure_ (i := 7) (N := some 44) (v := ?_) (a' := ?_) #[true, true, true, true, true, true, true, true, false, false, false, false, false, false, false, false, false, false, false, false, false, false, false, false, false, false, false] rfl rfl (by kernel_rfl) (fun _ _ _ h => h) (Or.inl ⟨by rfl, ?_⟩) ?_ ?_
    rotate_left
    ·intro w'
     go_simp
     with_reducible rfl
    rotate_left
    ·simp only [Act.put, List.setIfInBounds_toArray, List.set_cons_zero, List.set_cons_succ, i64_w, i32_w]
     rfl
    refine pure_ (i := 8) (N := some 45) (v := ?_) (a' := ?_) #[true, true, true, true, true, true, true, true, true, false, false, false, false, false, false, false, false, false, false, false, false, false, false, false, false, false, false] rfl rfl (by kernel_rfl) (fun _ _ _ h => h) (Or.inl ⟨by rfl, ?_⟩) ?_ ?_
    rotate_left
    ·intro w'
     go_simp
     with_reducible rfl
    rotate_left
    ·simp only [Act.put, List.setIfInBounds_toArray, List.set_cons_zero, List.set_cons_succ, i64_w, i32_w]
     rfl
    refine take_ (i := 9) (N := some 46) (v := ?_) (a' := ?_) #[true, true, true, true, true, true, true, true, true, true, false, false, false, false, false, false, false, false, false, false, false, false, false, false, false, false, false] rfl rfl (by kernel_rfl) (fun _ _ _ h => h) (Or.inl ⟨by rfl, ?_⟩) hHeld ?_ ?_
    rotate_left
    ·rintro w' ⟨s0, s1, s2, s3, s4, s5, s6, s7⟩
     go_simp
     with_reducible rfl
    rotate_left
    ·simp only [Act.put, List.setIfInBounds_toArray, List.set_cons_zero, List.set_cons_succ, i64_w, i32_w]
     rfl
    refine pure_ (i := 10) (N := some 47) (v := ?_) (a' := ?_) #[true, true, true, true, true, true, true, true, true, true, true, false, false, false, false, false, false, false, false, false, false, false, false, false, false, false, false] rfl rfl (by kernel_rfl) (fun _ _ _ h => h) (Or.inl ⟨by rfl, ?_⟩) ?_ ?_
    rotate_left
    ·intro w'
     go_simp
     with_reducible rfl
    rotate_left
    ·simp only [Act.put, List.setIfInBounds_toArray, List.set_cons_zero, List.set_cons_succ, i64_w, i32_w]
     rfl
    refine pure_ (i := 11) (N := some 48) (v := ?_) (a' := ?_) #[true, true, true, true, true, true, true, true, true, true, true, true, false, false, false, false, false, false, false, false, false, false, false, false, false, false, false] rfl rfl (by kernel_rfl) (fun _ _ _ h => h) (Or.inl ⟨by rfl, ?_⟩) ?_ ?_
    rotate_left
    ·intro w'
     go_simp
     with_reducible rfl
    rotate_left
    ·simp only [Act.put, List.setIfInBounds_toArray, List.set_cons_zero, List.set_cons_succ, i64_w, i32_w]
     rfl
    refine pure_ (i := 12) (N := some 49) (v := ?_) (a' := ?_) #[true, true, true, true, true, true, true, true, true, true, true, true, true, false, false, false, false, false, false, false, false, false, false, false, false, false, false] rfl rfl (by kernel_rfl) (fun _ _ _ h => h) (Or.inl ⟨by rfl, ?_⟩) ?_ ?_
    rotate_left
    ·intro w'
     go_simp
     with_reducible rfl
    rotate_left
    ·simp only [Act.put, List.setIfInBounds_toArray, List.set_cons_zero, List.set_cons_succ, i64_w, i32_w]
     rfl
    refine take_ (i := 13) (N := some 50) (v := ?_) (a' := ?_) #[true, true, true, true, true, true, true, true, true, true, true, true, true, true, false, false, false, false, false, false, false, false, false, false, false, false, false] rfl rfl (by kernel_rfl) (fun _ _ _ h => h) (Or.inl ⟨by rfl, ?_⟩) hHeld ?_ ?_
    rotate_left
    ·rintro w' ⟨s0, s1, s2, s3, s4, s5, s6, s7⟩
     go_simp
     with_reducible rfl
    rotate_left
    ·simp only [Act.put, List.setIfInBounds_toArray, List.set_cons_zero, List.set_cons_succ, i64_w, i32_w]
     rfl
    refine pure_ (i := 14) (N := some 51) (v := ?_) (a' := ?_) #[true, true, true, true, true, true, true, true, true, true, true, true, true, true, true, false, false, false, false, false, false, false, false, false, false, false, false] rfl rfl (by kernel_rfl) (fun _ _ _ h => h) (Or.inl ⟨by rfl, ?_⟩) ?_ ?_
    rotate_left
    ·intro w'
     go_simp
     with_reducible rfl
    rotate_left
    ·simp only [Act.put, List.setIfInBounds_toArray, List.set_cons_zero, List.set_cons_succ, i64_w, i32_w]
     rfl
    refine pure_ (i := 15) (N := some 52) (v := ?_) (a' := ?_) #[true, true, true, true, true, true, true, true, true, true, true, true, true, true, true, true, false, false, false, false, false, false, false, false, false, false, false] rfl rfl (by kernel_rfl) (fun _ _ _ h => h) (Or.inl ⟨by rfl, ?_⟩) ?_ ?_
    rotate_left
    ·intro w'
     go_simp
     with_reducible rfl
    rotate_left
    ·simp only [Act.put, List.setIfInBounds_toArray, List.set_cons_zero, List.set_cons_succ, i64_w, i32_w]
     rfl
    refine pure_ (i := 16) (N := some 53) (v := ?_) (a' := ?_) #[true, true, true, true, true, true, true, true, true, true, true, true, true, true, true, true, true, false, false, false, false, false, false, false, false, false, false] rfl rfl (by kernel_rfl) (fun _ _ _ h => h) (Or.inl ⟨by rfl, ?_⟩) ?_ ?_
    rotate_left
    ·intro w'
     go_simp
     with_reducible rfl
    rotate_left
    ·simp only [Act.put, List.setIfInBounds_toArray, List.set_cons_zero, List.set_cons_succ, i64_w, i32_w]
     rfl
    refine take_ (i := 17) (N := some 54) (v := ?_) (a' := ?_) #[true, true, true, true, true, true, true, true, true, true, true, true, true, true, true, true, true, true, false, false, false, false, false, false, false, false, false] rfl rfl (by kernel_rfl) (fun _ _ _ h => h) (Or.inl ⟨by rfl, ?_⟩) hHeld ?_ ?_
    rotate_left
    ·rintro w' ⟨s0, s1, s2, s3, s4, s5, s6, s7⟩
     go_simp
     with_reducible rfl
    rotate_left
    ·simp only [Act.put, List.setIfInBounds_toArray, List.set_cons_zero, List.set_cons_succ, i64_w, i32_w]
     rfl
    refine pure_ (i := 18) (N := some 55) (v := ?_) (a' := ?_) #[true, true, true, true, true, true, true, true, true, true, true, true, true, true, true, true, true, true, true, false, false, false, false, false, false, false, false] rfl rfl (by kernel_rfl) (fun _ _ _ h => h) (Or.inl ⟨by rfl, ?_⟩) ?_ ?_
    rotate_left
    ·intro w'
     go_simp
     with_reducible rfl
    rotate_left
    ·simp only [Act.put, List.setIfInBounds_toArray, List.set_cons_zero, List.set_cons_succ, i64_w, i32_w]
     rfl
    refine pure_ (i := 19) (N := some 56) (v := ?_) (a' := ?_) #[true, true, true, true, true, true, true, true, true, true, true, true, true, true, true, true, true, true, true, true, false, false, false, false, false, false, false] rfl rfl (by kernel_rfl) (fun _ _ _ h => h) (Or.inl ⟨by rfl, ?_⟩) ?_ ?_
    rotate_left
    ·intro w'
     go_simp
     with_reducible rfl
    rotate_left
    ·simp only [Act.put, List.setIfInBounds_toArray, List.set_cons_zero, List.set_cons_succ, i64_w, i32_w]
     rfl
    refine pure_ (i := 20) (N := some 57) (v := ?_) (a' := ?_) #[true, true, true, true, true, true, true, true, true, true, true, true, true, true, true, true, true, true, true, true, true, false, false, false, false, false, false] rfl rfl (by kernel_rfl) (fun _ _ _ h => h) (Or.inl ⟨by rfl, ?_⟩) ?_ ?_
    rotate_left
    ·intro w'
     go_simp
     with_reducible rfl
    rotate_left
    ·simp only [Act.put, List.setIfInBounds_toArray, List.set_cons_zero, List.set_cons_succ, i64_w, i32_w]
     rfl
    refine take_ (i := 21) (N := some 58) (v := ?_) (a' := ?_) #[true, true, true, true, true, true, true, true, true, true, true, true, true, true, true, true, true, true, true, true, true, true, false, false, false, false, false] rfl rfl (by kernel_rfl) (fun _ _ _ h => h) (Or.inl ⟨by rfl, ?_⟩) hHeld ?_ ?_
    rotate_left
    ·rintro w' ⟨s0, s1, s2, s3, s4, s5, s6, s7⟩
     go_simp
     with_reducible rfl
    rotate_left
    ·simp only [Act.put, List.setIfInBounds_toArray, List.set_cons_zero, List.set_cons_succ, i64_w, i32_w]
     rfl
    refine one_ (i := 22) (N := some 59) #[true, true, true, true, true, true, true, true, true, true, true, true, true, true, true, true, true, true, true, true, true, true, true, false, false, false, false] rfl rfl (by kernel_rfl) (by decide) (fun K hK => ?_)
    refine goes_ Tryd.func50 (by kernel_rfl) rfl #[.slice Ab m.f4.length cb] (by rfl) rfl rfl (by first | rfl | (simp [Act.eval]; done)) ?_
    refine (Clone_calls Ab cb m.f4 wq (by rw [← hwq]; exact Kd.C_drew HCB.out) (HZ.out m (List.mem_of_getElem? HM.out))).mono ?_
    rintro e w5 ⟨v5, rfl, hR5, hb5⟩
    obtain ⟨Av, cv, rfl, hlv, hCv⟩ := Kd.R_reads hR5
    refine ⟨_, rfl, ?_⟩
    refine hK.out _ _ ⟨fkeep hb5 hHeld.1, fkeep hb5 hHeld.2.1, fkeep hb5 hHeld.2.2.1, fkeep hb5 hHeld.2.2.2.1, fkeep hb5 hHeld.2.2.2.2.1, fkeep hb5 hHeld.2.2.2.2.2.1, fkeep hb5 hHeld.2.2.2.2.2.2.1, fkeep hb5 hHeld.2.2.2.2.2.2.2⟩ (fun hHeld2 => ?_)
    clear hK K
    have HR5 := Aside0.mk hR5
    have HB5 := Aside0.mk hb5
    have HLV := Aside0.mk hlv
    clear hR5 hCv hlv
    refine norm_ (a' := ?_) ?_ ?_
    rotate_left
    ·show Act.put _ (some 59) _ = _
     simp only [Act.put, List.setIfInBounds_toArray, List.set_cons_zero, List.set_cons_succ, i64_w, i32_w]
     rfl
    refine pure_ (i := 23) (N := some 60) (v := ?_) (a' := ?_) #[true, true, true, true, true, true, true, true, true, true, true, true, true, true, true, true, true, true, true, true, true, true, true, true, false, false, false] rfl rfl (by kernel_rfl) (fun _ _ _ h => h) (Or.inl ⟨by rfl, ?_⟩) ?_ ?_
    rotate_left
    ·intro w'
     go_simp
     with_reducible rfl
    rotate_left
    ·simp only [Act.put, List.setIfInBounds_toArray, List.set_cons_zero, List.set_cons_succ, i64_w, i32_w]
     rfl
    refine one_ (i := 24) (N := some 61) #[true, true, true, true, true, true, true, true, true, true, true, true, true, true, true, true, true, true, true, true, true, true, true, true, true, false, false] rfl rfl (by kernel_rfl) (by decide) (fun K hK => ?_)
    refine value_ (w1 := ?_) (v := ?_) (by rfl) rfl ?_ ?_
    rotate_left 2
    ·go_simp
     constructor
     ·rfl
     ·rfl
    refine hK.out _ _ ⟨fcell hHeld2.1 _, fcell hHeld2.2.1 _, fcell hHeld2.2.2.1 _, fcell hHeld2.2.2.2.1 _, fcell hHeld2.2.2.2.2.1 _, fcell hHeld2.2.2.2.2.2.1 _, fcell hHeld2.2.2.2.2.2.2.1 _, fcell hHeld2.2.2.2.2.2.2.2 _⟩ (fun hHeld3 => ?_)
    clear hK K
    refine norm_ (a' := ?_) ?_ ?_
    rotate_left
    ·show Act.put _ (some 61) _ = _
     simp only [Act.put, List.setIfInBounds_toArray, List.set_cons_zero, List.set_cons_succ, i64_w, i32_w]
     rfl
    refine one_ (i := 25) (N := some 62) #[true, true, true, true, true, true, true, true, true, true, true, true, true, true, true, true, true, true, true, true, true, true, true, true, true, true, false] rfl rfl (by kernel_rfl) (by decide) (fun K hK => ?_)
    refine Kd.N_append_step k38 (w0 := W) (W := w5) base (by rfl) (.tmp 37) (.tmp 61) 31 38 (.agg #[(.string ⟨#[]⟩), (.string ⟨#[]⟩), (.string ⟨#[]⟩), (.int .u8 0), (.int .i64 0), (.int .i64 0), (.int .i64 0), (.int .i64 0), (.slice none 0 0)]) 112 rfl Tryd.underlying31 infoNode rfl (by decide) (by decide) (.slice Ao out.length co) out (⟨q.1, m.f1, ldn, m.f2, m.f3, m.f4⟩ : Node) [.string q.1, .string m.f1, .string ldn, .int .u8 m.f2, .int .i64 m.f3.f0, .int .i64 m.f3.f1, .int .i64 m.f3.f2, .int .i64 m.f3.f3, .slice Av m.f4.length cv] (fun k => W.heap.size ≤ k) (fun k => wq.heap.size ≤ k ∧ k < w5.heap.size) (by rfl) rfl (k38_mkF w5 _ _ HLV.out (Kd.R_F (Kd.R_mono (Kd.R_bound HR5.out) (fun k hk => ⟨hk.2.1, hk.2.2.1⟩)))) (fun k hk => ⟨by have := hk.1; omega, fun e => by have := HOB.out k e.symm; have := hk.1; omega⟩) (fun k hk => by have := HB5.out.size; omega) (Kd.N_below HNQ.out HB5.out) (HBQ.out.trans (HB5.out.mono (by omega))) (by have := HB5.out.size; omega) (by rw [HOL.out]; omega) ?_
    intro v6 w6 hN6 hB6 hg6 hat6
    have HN6 := Aside0.mk hN6
    have HB6 := Aside0.mk hB6
    have HG6 := Aside0.mk hg6
    clear hN6 hB6 hat6
    refine hK.out _ _ ⟨rcell' hg6 (HNE.out _ HB5.out) hHeld2.1, rcell' hg6 (HNE.out _ HB5.out) hHeld2.2.1, rcell' hg6 (HNE.out _ HB5.out) hHeld2.2.2.1, rcell' hg6 (HNE.out _ HB5.out) hHeld2.2.2.2.1, rcell' hg6 (HNE.out _ HB5.out) hHeld2.2.2.2.2.1, rcell' hg6 (HNE.out _ HB5.out) hHeld2.2.2.2.2.2.1, rcell' hg6 (HNE.out _ HB5.out) hHeld2.2.2.2.2.2.2.1, rcell' hg6 (HNE.out _ HB5.out) hHeld2.2.2.2.2.2.2.2⟩ (fun hHeld4 => ?_)
    clear hK K hg6 hHeld hHeld2 hHeld3 hb5
    refine norm_ (a' := ?_) ?_ ?_
    rotate_left
    ·show Act.put _ (some 62) _ = _
     simp only [Act.put, List.setIfInBounds_toArray, List.set_cons_zero, List.set_cons_succ, i64_w, i32_w]
     rfl
    refine pure_ (i := 26) (N := some 3) (v := ?_) (a' := ?_) #[true, true, true, true, true, true, true, true, true, true, true, true, true, true, true, true, true, true, true, true, true, true, true, true, true, true, true] rfl rfl (by kernel_rfl) (fun _ _ _ h => h) (Or.inl ⟨by rfl, ?_⟩) ?_ ?_
    rotate_left
    ·intro w'
     go_simp
     with_reducible rfl
    rotate_left
    ·simp only [Act.put, List.setIfInBounds_toArray, List.set_cons_zero, List.set_cons_succ, i64_w, i32_w]
     rfl
    refine done_ (by kernel_rfl) ?_
    have hfin : NodRel l s base d B W (.slice (some ad) (sortP s).length cq) (n + 1) v6 w6 := by
     refine mid_next h0 hnl HOUT.out HMM.out ((drew_below hwq).trans (HB5.out.mono (by rw [← hwq]; exact Nat.le_refl _))) HG6.out hdlt hbase (by omega) ?_ HB6.out
     ·have e := HND.out
      rw [HTK.out, HLN.out] at e
      rw [HQE.out, e]
      exact HN6.out
    have HFIN := Aside0.mk hfin
    clear hfin HN6 HB6 HG6 HB5 HR5 HNQ HBQ hHeld4 j0 j1 j2 j3 j4 j5 j6 j7
    go_wp2_with (fail)
    go_roundw
    case rel => exact ⟨n + 1, by go_num, HFIN⟩
    case measure => simp [intOf]; omega
  ·have c1b : decide (n < ((sortP s).length : Int)) = false := decide_eq_false hlt
   go_wp2
   rw [← hQ.out]
   have hN := HNV.out
   rw [← HOUT.out, List.take_of_length_le (by omega)] at hN
   rw [← HOUT.out, List.take_of_length_le (by omega)]
   exact ⟨_, rfl, hN, HR.out.2.2.2.2.2.2⟩
end Go.Proofs.YtfmphccoeinhcaaDoor

namespace Go.Proofs.YtfmphccoeinhcaaDoor
open Go.RowKit Go.Maps Go.Proofs.YtfmphccoeinhcaaDoor.Print Go.Proofs.YtfmphccoeinhcaaDoorW.PrintWords Go.Proofs.YtfmphccoeinhcaaDoorW.PrintLast Go.Proofs.YtfmphccoeinhcaaDoorW.PrintMore
set_option linter.unusedVariables false
set_option linter.unusedSimpArgs false
theorem good_full {m : Mem} (h : goodM m = true) : m.f0.toList ≠ [] := by
 intro e
 have h1 := (goodM_clean h).1
 unfold cleanOk at h1
 simp only [Bool.and_eq_true, decide_eq_true_iff] at h1
 obtain ⟨h2, h3⟩ := h1
 rw [e] at h3
 unfold cleanF at h2 h3
 split at h2
 ·cases h2
 ·rename_i c1
  rw [if_neg c1] at h3
  split at h2
  ·cases h2
  ·rename_i c2
   rw [if_neg c2] at h3
   split at h2
   ·cases h2
   ·rename_i c3
    rw [if_neg c3] at h3
    split at h2
    ·cases h2
    ·rename_i c4
     rw [if_neg c4] at h3
     apply c4
     rw [← h3]
     rfl
theorem rcell'' {W w1 : World} {row : Option Nat} (hg : W.grownBy w1 row) {g o : Nat} (hlt : g < W.heap.size) (hne : some g ≠ row) : w1.cell? ⟨g, o, none⟩ = W.cell? ⟨g, o, none⟩ := World.cell?_of_block (a := ⟨g, o, none⟩) (hg.block g hlt hne)
theorem rfroz'' {W w1 : World} {row : Option Nat} (hg : W.grownBy w1 row) {g o : Nat} (hlt : g < W.heap.size) (hne : some g ≠ row) : w1.frozen? ⟨g, o, none⟩ = W.frozen? ⟨g, o, none⟩ := World.frozen?_of_block (a := ⟨g, o, none⟩) (hg.block g hlt hne)
theorem FoldBad_calls (x : Mem) (A : Option Addr) (c : Nat) (W : World) (hT : Tabs W) (hz : MemZ x) (hx : Kd.C (Kd.int .u8) W A x.f4.length x.f4) (hc : x.f4.length ≤ c) :
  Calls Tryd.prog 44 #[.agg (memCells x (.slice A x.f4.length c))] W fun e W' => e = .returned (.bool (!goodM x)) ∧ Below W.heap.size W W' := by
 obtain ⟨kg, hkg⟩ := Ev.rounds (member_Good_eq x hz)
 generalize goodM x = g at hkg
 have HK := Aside0.mk hkg
 have HTA := Aside0.mk (fun o => Tabs.below hT (below_alloc (Below.refl _ _) o))
 have HX := Aside0.mk (fun o => Kd.C_alloc hx o)
 clear hkg hT hx hz
 unfold memCells
 go_enter Tryd.func44, Tryd.ntmps44
 go_wp2_with (go_at_call 45; (with_reducible refine (member_Good.calls kg x.f0 x.f1 x.f2 x.f3.f0 x.f3.f1 x.f3.f2 x.f3.f3 A c x.f4 g _ ⟨HTA.out _⟩ (HX.out _) hc HK.out).mono ?_); rintro e w5 ⟨rfl, hb5⟩)
 go_ret
 exact ⟨rfl, ((Below.refl _ _).alloc (Nat.le_refl _) _).trans (hb5.mono (by simp))⟩
def BadRel (l : List Mem) (W : World) (i : Int) (wr : World) : Prop := 0 ≤ i ∧ i ≤ l.length ∧ (∀ (j : Nat) (hj : j < l.length), (j : Int) < i → goodM l[j] = true) ∧ Below W.heap.size W wr
def badAt (l : List Mem) : Int := match l.findIdx? (fun m => !goodM m) with
 | some i => (i : Int)
 | none => -1
theorem badAt_some {l : List Mem} {j : Nat} (hj : j < l.length) (h : ∀ (k : Nat) (hk : k < l.length), k < j → goodM l[k] = true) (hb : goodM l[j] = false) : badAt l = (j : Int) := by
 unfold badAt
 rw [List.findIdx?_eq_some_iff_getElem.2 ⟨hj, by rw [hb]; rfl, fun k hk => by rw [h k (by omega) hk]; simp⟩]
theorem badAt_none {l : List Mem} (h : ∀ (k : Nat) (hk : k < l.length), goodM l[k] = true) : badAt l = -1 := by
 unfold badAt
 rw [List.findIdx?_eq_none_iff.2 (fun x hx => by obtain ⟨i, hi, rfl⟩ := List.getElem_of_mem hx; rw [h i hi]; rfl)]
set_option maxRecDepth 100000 in
set_option maxHeartbeats 2000000 in
theorem Bad_calls (A0 : Option Addr) (c0 : Nat) (l : List Mem) (W : World) (hT : Tabs W) (hC : Kd.C k27 W A0 l.length l) (hz : MemsZ l) :
  Calls Tryd.prog 43 #[.slice A0 l.length c0, .func (.func 44) #[] #[]] W fun e W' => e = .returned (.int .i64 (badAt l)) ∧ Below W.heap.size W W' := by
 have HC := Aside0.mk hC
 have HZ := Aside0.mk hz
 have HT := Aside0.mk hT
 have hlen : (l.length : Int) ≤ 1000000000000 := by have := hz.1; omega
 clear hC hz hT
 generalize hpost : (fun (e : Ending) (W' : World) => e = .returned (.int .i64 (badAt l)) ∧ Below W.heap.size W W') = Q
 have hQ := Aside0.mk hpost
 clear hpost
 go_enter Tryd.func43, Tryd.ntmps43
 go_wp2
 go_loopw [8] (fun i wr => ∃ n : Int, i = .int .i64 n ∧ Aside0 (BadRel l W n wr)) (fun i _ => (l.length - (intOf i)).toNat)
 case atStart => exact ⟨0, rfl, ⟨⟨by omega, by omega, fun j hj h => absurd h (by omega), Below.refl _ _⟩⟩⟩
 case round =>
  obtain ⟨n, rfl, HR⟩ := hrel
  have h0 := HR.out.1
  have h1 := HR.out.2.1
  have HB := Aside0.mk HR.out.2.2.2
  by_cases hlt : n < (l.length : Int)
  ·have c1 : decide (n < (l.length : Int)) = true := decide_eq_true hlt
   have hnl : n.toNat < l.length := by omega
   obtain ⟨ad, A7, c7, rfl, x0, x1, x2, x3, x4, x5, x6, x7, hl7, hC7⟩ := at_T27 (Kd.C_below HC.out HB.out) n h0 hlt
   have hx := rdM_at l n h0 hlt
   have hxz : MemZ (rd_T27 l n) := by rw [hx]; exact HZ.out.2 _ (List.getElem_mem _)
   generalize rd_T27 l n = x at hx hxz x0 x1 x2 x3 x4 x5 x6 x7 hl7 hC7
   have hcl := FoldBad_calls x A7 c7 wr (Tabs.below HT.out HB.out) hxz hC7 hl7
   have HX := Aside0.mk hx
   have HNL := Aside0.mk hnl
   clear hx hC7 hl7 hnl hxz
   cases hb : goodM x with
   | true =>
    rw [hb, Bool.not_true] at hcl
    unfold memCells at hcl
    have HC2 := Aside0.mk hcl
    have HLB := Aside0.mk hb
    clear hcl hb
    go_wp2_with (go_at_call 44; refine HC2.out.mono ?_; rintro e w1 ⟨rfl, hb1⟩)
    have hfin : BadRel l W (n + 1) w1 := by
     refine ⟨by omega, by omega, fun j hj hjn => ?_, HB.out.trans (hb1.mono HB.out.size)⟩
     rcases Nat.lt_or_ge j n.toNat with h | h
     ·exact HR.out.2.2.1 j hj (by omega)
     ·obtain rfl : j = n.toNat := by omega
      rw [← HX.out]; exact HLB.out
    clear hb1
    go_roundw
    case rel => exact ⟨n + 1, by go_num, ⟨hfin⟩⟩
    case measure => simp [intOf]; omega
   | false =>
    rw [hb, Bool.not_false] at hcl
    unfold memCells at hcl
    have HC2 := Aside0.mk hcl
    have HLB := Aside0.mk hb
    clear hcl hb
    go_wp2_with (go_at_call 44; refine HC2.out.mono ?_; rintro e w1 ⟨rfl, hb1⟩)
    rw [← hQ.out]
    refine ⟨?_, HB.out.trans (hb1.mono HB.out.size)⟩
    rw [badAt_some HNL.out (fun k hk hkn => HR.out.2.2.1 k hk (by omega)) (by rw [← HX.out]; exact HLB.out)]
    rw [Int.toNat_of_nonneg h0]
    rfl
  ·have c1 : decide (n < (l.length : Int)) = false := decide_eq_false hlt
   go_wp2
   rw [← hQ.out]
   refine ⟨?_, HB.out⟩
   rw [badAt_none (fun j hj => HR.out.2.2.1 j hj (by omega))]
theorem badAt_neg {l : List Mem} (h : ¬ badAt l ≥ 0) : l.findIdx? (fun m => !goodM m) = none := by
 unfold badAt at h
 cases hf : l.findIdx? (fun m => !goodM m) with
 | none => rfl
 | some i => rw [hf] at h; dsimp only at h; omega
theorem badAt_pos {l : List Mem} (h : badAt l ≥ 0) : ∃ i, l.findIdx? (fun m => !goodM m) = some i ∧ badAt l = (i : Int) := by
 unfold badAt at h ⊢
 cases hf : l.findIdx? (fun m => !goodM m) with
 | none => rw [hf] at h; dsimp only at h; omega
 | some i => exact ⟨i, rfl, rfl⟩
def FoldRel (l : List Mem) (W : World) (d : Nat) (i : Int) (wr : World) : Prop :=
 0 ≤ i ∧ i ≤ l.length ∧ (∃ s B, stepsF l i.toNat = some s ∧ FInv l i.toNat s ∧ DirS wr (W.heap.size + 1) d i.toNat l s B) ∧ Below W.heap.size W wr ∧ wr.cell? ⟨W.heap.size, 0, none⟩ = some (.int .i64 0) ∧ wr.cell? ⟨W.heap.size, 1, none⟩ = some (.int .i64 0) ∧ wr.frozen? ⟨W.heap.size, 0, none⟩ = false ∧ wr.frozen? ⟨W.heap.size, 1, none⟩ = false
def FoldPost (l : List Mem) (W : World) (e : Ending) (W' : World) : Prop := ∃ v, e = .returned (.tuple #[v, .agg #[.int .i64 (foldF l).2.1, .int .i64 (foldF l).2.2]]) ∧ Kd.V k38 38 W' W.heap.size (fun k => W.heap.size ≤ k) v (foldF l).1 ∧ Below W.heap.size W W' ∧ (0 < (foldF l).1.length → ∃ g c, v = .slice (some ⟨g, 0, none⟩) (foldF l).1.length c)
set_option maxRecDepth 100000 in
set_option maxHeartbeats 4000000 in
theorem Fold_calls (A0 : Option Addr) (c0 : Nat) (l : List Mem) (W : World) (hT : Tabs W) (hC : Kd.C k27 W A0 l.length l) (hz : MemsZ l) :
  Calls Tryd.prog 18 #[.slice A0 l.length c0] W (FoldPost l W) := by
 have hmm := @run_makeMap Tryd.prog
 have HBC := Aside0.mk (fun o => Bad_calls A0 c0 l _ (Tabs.below hT (below_alloc (Below.refl _ _) o)) (Kd.C_alloc hC o) hz)
 have HC := Aside0.mk hC
 have HZ := Aside0.mk hz
 have hlen : (l.length : Int) ≤ 1000000000000 := by have := hz.1; omega
 clear hC hz hT
 generalize hpost : FoldPost l W = Q
 have hQ := Aside0.mk hpost
 clear hpost
 by_cases hbad : badAt l ≥ 0
 ·obtain ⟨i, hi, hbi⟩ := badAt_pos hbad
  have hb2 : decide (badAt l ≥ 0) = true := decide_eq_true hbad
  have hb3 : decide (0 ≤ badAt l) = true := decide_eq_true hbad
  have HI := Aside0.mk hi
  have HBI := Aside0.mk hbi
  clear hi hbi
  go_enter Tryd.func18, Tryd.ntmps18
  go_wp2_with (go_at_call 43; refine (HBC.out _).mono ?_; rintro e w1 ⟨rfl, hb1⟩; obtain ⟨hc1, hf1⟩ := bcell hb1; have hz1 : W.heap.size < w1.heap.size := Nat.lt_of_lt_of_le (by simp) hb1.size; have HB1 := Aside0.mk hb1; clear hb1)
  have hB1 := ((Below.refl W.heap.size W).alloc (Nat.le_refl _) (.cells #[.int .i64 0, .int .i64 0] 34)).trans (HB1.out.mono (by simp))
  refine bodyPost_ret (v := .tuple #[.slice none 0 0, .agg #[.int .i64 1, .int .i64 (badAt l)]]) (by simp [results, Tryd.results18, go_sem, hc1, hz1]) rfl ?_
  rw [← hQ.out]
  refine ⟨.slice none 0 0, by rw [foldF_bad HI.out, HBI.out], by rw [foldF_bad HI.out]; exact Kd.V_nil _ _ _ _ _, ?_, by rw [foldF_bad HI.out]; intro h; cases h⟩
  repeat (with_reducible refine below_put ?_ _ _ (Nat.le_refl _) _)
  exact hB1
 ·have hg := badAt_neg hbad
  have hb2 : decide (badAt l ≥ 0) = false := decide_eq_false hbad
  have hb3 : decide (0 ≤ badAt l) = false := decide_eq_false hbad
  have HG := Aside0.mk hg
  clear hg
  go_enter Tryd.func18, Tryd.ntmps18
  go_wp2_with (go_at_call 43; refine (HBC.out _).mono ?_; rintro e w1 ⟨rfl, hb1⟩; obtain ⟨hc1, hf1⟩ := bcell hb1; have hz1 : W.heap.size < w1.heap.size := Nat.lt_of_lt_of_le (by simp) hb1.size; have HB1 := Aside0.mk hb1; clear hb1)
  have hB1 : Below W.heap.size W w1 := ((Below.refl W.heap.size W).alloc (Nat.le_refl _) (.cells #[.int .i64 0, .int .i64 0] 34)).trans (HB1.out.mono (by simp))
  have hstart : FoldRel l W w1.heap.size 0 (w1.alloc (.map #[] 0)) := by
   refine ⟨by omega, by omega, ⟨[], fun _ => 0, rfl, FInv.start l, DirS.start _ _ _ _⟩, hB1.alloc hB1.size _, ?_, ?_, ?_, ?_⟩
   ·exact fcell ((hc1 W.heap.size 0 (by simp)).trans (by simp)) _
   ·exact fcell ((hc1 W.heap.size 1 (by simp)).trans (by simp)) _
   ·exact ((below_alloc (Below.refl _ _) _).frozen (p := ⟨W.heap.size, 0, none⟩) hz1).trans ((hf1 W.heap.size 0 (by simp)).trans (by simp))
   ·exact ((below_alloc (Below.refl _ _) _).frozen (p := ⟨W.heap.size, 1, none⟩) hz1).trans ((hf1 W.heap.size 1 (by simp)).trans (by simp))
  have HST := Aside0.mk hstart
  have HDZ : Aside0 (W.heap.size < w1.heap.size) := ⟨hz1⟩
  clear hstart hB1 hc1 hf1 HB1
  go_loopw [17] (fun i wr => ∃ n : Int, i = .int .i64 n ∧ Aside0 (FoldRel l W w1.heap.size n wr)) (fun i _ => (l.length - (intOf i)).toNat)
  case atStart => exact ⟨0, rfl, HST⟩
  case round =>
   obtain ⟨n, rfl, HR⟩ := hrel
   have h0 := HR.out.1
   have h1 := HR.out.2.1
   obtain ⟨s, B, hs, hI, hD⟩ := HR.out.2.2.1
   have HB := Aside0.mk HR.out.2.2.2.1
   obtain ⟨f0, f1, f2, f3⟩ := HR.out.2.2.2.2
   have hwz := HB.out.size
   have hwlt : W.heap.size < wr.heap.size := World.block_lt_of_cell? wr _ f0
   have HS := Aside0.mk hs
   have HI := Aside0.mk hI
   have HD := Aside0.mk hD
   clear hs hI hD
   by_cases hlt : n < (l.length : Int)
   ·have c1b : decide (n < (l.length : Int)) = true := decide_eq_true hlt
    have hnl : n.toNat < l.length := by omega
    obtain ⟨ad, A7, c7, rfl, x0, x1, x2, x3, x4, x5, x6, x7, hl7, hC7⟩ := at_T27 (Kd.C_below HC.out HB.out) n h0 hlt
    have hx := rdM_at l n h0 hlt
    have hxz : MemZ (rd_T27 l n) := by rw [hx]; exact HZ.out.2 _ (List.getElem_mem _)
    have hxg : goodM (rd_T27 l n) = true := by rw [hx]; exact all_good HG.out (List.getElem_mem _)
    generalize rd_T27 l n = x at hx hxz hxg x0 x1 x2 x3 x4 x5 x6 x7 hl7 hC7
    have HLC := Aside0.mk (fun o => Lay_calls (W.heap.size + 1) w1.heap.size n.toNat l s B x A7 c7 (wr.alloc o) (by rw [hx, List.getElem?_eq_getElem hnl]) (by omega) hxz (HD.out.below (below_alloc (Below.refl _ _) o)) HI.out (by rw [World.size_alloc]; omega) (Kd.C_alloc hC7 o))
    have HX := Aside0.mk hx
    have HXZ := Aside0.mk hxz
    have HXG := Aside0.mk hxg
    have HNL := Aside0.mk hnl
    clear hx hxz hxg hnl hC7 hl7
    unfold memCells at HLC
    have hdn : ¬ W.heap.size = w1.heap.size := by have := HDZ.out; omega
    have hdlt : w1.heap.size < wr.heap.size := HD.out.1.lt
    go_wp2_with (go_at_call 46; refine (HLC.out _).mono ?_; rintro e w2 ⟨(⟨hno, rfl⟩ | ⟨s', B', hst, rfl, hD'⟩), hg2⟩; all_goals (have hc2 : ∀ j, w2.cell? ⟨W.heap.size, j, none⟩ = wr.cell? ⟨W.heap.size, j, none⟩ := (fun j => (rcell'' hg2 (by simp; omega) (fun e => by injection e with e; exact hdn e)).trans (World.cell?_of_block (a := ⟨W.heap.size, j, none⟩) ((below_alloc (Below.refl _ _) _).block _ hwlt))); have hf2 : ∀ j, w2.frozen? ⟨W.heap.size, j, none⟩ = wr.frozen? ⟨W.heap.size, j, none⟩ := (fun j => (rfroz'' hg2 (by simp; omega) (fun e => by injection e with e; exact hdn e)).trans (World.frozen?_of_block (a := ⟨W.heap.size, j, none⟩) ((below_alloc (Below.refl _ _) _).block _ hwlt))); have hz2 := hg2.size; simp only [World.size_alloc] at hz2; have HG2 := Aside0.mk hg2; clear hg2))
    ·rw [← hQ.out]
     have hB2 : Below W.heap.size W w2 := (HB.out.alloc HB.out.size _).grown HG2.out (by rw [World.size_alloc]; omega) (fun j hj => by cases hj; omega)
     have hst := foldF_stop HG.out HNL.out HS.out hno
     rw [Int.toNat_of_nonneg h0] at hst
     refine bodyPost_ret (v := .tuple #[.slice none 0 0, .agg #[.int .i64 7, .int .i64 n]]) (by simp [results, Tryd.results18, go_sem, hc2, f0, f1, hz2]) rfl ?_
     refine ⟨.slice none 0 0, by rw [hst], by rw [hst]; exact Kd.V_nil _ _ _ _ _, ?_, by rw [hst]; intro h; cases h⟩
     repeat (with_reducible refine below_put ?_ _ _ (Nat.le_refl _) _)
     exact hB2
    ·have hB2 : Below W.heap.size W w2 := (HB.out.alloc HB.out.size _).grown HG2.out (by rw [World.size_alloc]; omega) (fun j hj => by cases hj; omega)
     have hxe : l[n.toNat]'HNL.out = x := HX.out.symm
     have hfin : FoldRel l W w1.heap.size (n + 1) w2 := by
      refine ⟨by omega, by have := HNL.out; omega, ⟨s', B', ?_, ?_, ?_⟩, hB2, (hc2 0).trans f0, (hc2 1).trans f1, (hf2 0).trans f2, (hf2 1).trans f3⟩
      ·rw [show (n + 1).toNat = n.toNat + 1 from by omega, stepsF_succ HS.out]; exact hst
      ·rw [show (n + 1).toNat = n.toNat + 1 from by omega]
       exact HI.out.step HNL.out (by rw [hxe]; exact good_full HXG.out) (by rw [hxe]; exact HXZ.out.1) hst
      ·rw [show (n + 1).toNat = n.toNat + 1 from by omega]; exact hD'
     have HF := Aside0.mk hfin
     clear hfin hB2 hxe hst hD' hc2 hf2
     go_roundw
     case rel => exact ⟨n + 1, by go_num, HF⟩
     case measure => simp [intOf]; have := HNL.out; omega
   ·have c1b : decide (n < (l.length : Int)) = false := decide_eq_false hlt
    have hnl : n.toNat = l.length := by omega
    have hs := HS.out
    have hI := HI.out
    have hD := HD.out
    rw [hnl] at hs hI hD
    have hNC := Nodes_calls (W.heap.size + 1) w1.heap.size l s B wr (by omega) (fun m hm => (HZ.out.2 m hm).2.2) hD hI (by omega)
    have HNC := Aside0.mk hNC
    have HSS := Aside0.mk hs
    clear hs hI hD hNC hnl
    go_wp2_with (go_at_call 47; refine HNC.out.mono ?_; rintro e w3 ⟨v, rfl, hN, hb3⟩; obtain ⟨Av, cv, rfl⟩ := Kd.N_slice hN; have hc3 : ∀ j, w3.cell? ⟨W.heap.size, j, none⟩ = wr.cell? ⟨W.heap.size, j, none⟩ := (fun j => hb3.cell (p := ⟨W.heap.size, j, none⟩) (Nat.lt_succ_self _)); have hf3 : ∀ j, w3.frozen? ⟨W.heap.size, j, none⟩ = wr.frozen? ⟨W.heap.size, j, none⟩ := (fun j => hb3.frozen (p := ⟨W.heap.size, j, none⟩) (Nat.lt_succ_self _)); have hz3 : W.heap.size < w3.heap.size := Nat.lt_of_lt_of_le hwlt hb3.size; have HN3 := Aside0.mk hN; have HB3 := Aside0.mk hb3; clear hN hb3)
    have hst := foldF_end HG.out HSS.out
    refine bodyPost_ret (v := .tuple #[.slice Av ((sortP s).map (nodeOf l (sortP s))).length cv, .agg #[.int .i64 0, .int .i64 0]]) (by simp [results, Tryd.results18, go_sem, hc3, f0, f1, hz3]) rfl ?_
    rw [← hQ.out]
    refine ⟨_, by rw [hst], ?_, ?_, ?_⟩
    ·rw [hst]
     refine Kd.V_mono (ok := fun k => wr.heap.size ≤ k) ?_ (fun k hk => by omega)
     repeat (with_reducible refine Kd.V_far ?_ (fun k hk e => by have e' : k = W.heap.size := e; omega) _)
     exact Kd.N_V HN3.out
    ·repeat (with_reducible refine below_put ?_ _ _ (Nat.le_refl _) _)
     exact HB.out.trans (HB3.out.mono (by omega))
    ·rw [hst]
     intro hp
     obtain ⟨g, cap, he, _⟩ := Kd.N_form HN3.out hp
     exact ⟨g, cap, he⟩
end Go.Proofs.YtfmphccoeinhcaaDoor

namespace Go.Proofs.YtfmphccoeinhcaaDoor.Print
open Go.RowKit Go.Proofs.YtfmphccoeinhcaaDoor Go.Proofs.YtfmphccoeinhcaaDoorW.PrintWords Go.Proofs.YtfmphccoeinhcaaDoorW.PrintLast Go.Proofs.YtfmphccoeinhcaaDoorW.PrintMore
set_option linter.unusedVariables false
def tree_Fold.f (l : List S27) : Option (List S38 × Int × Int) := if memsZ l = true then some (foldF l) else none
theorem tree_Fold.calls (A0 : Option Addr) (c0 : Nat) (l0 : List S27) (r1 : List S38) (r2 r3 : Int) (w : World) (hT : Aside0 (Tabs w)) (hr0 : Kd.C k27 w A0 l0.length l0) (hc0 : l0.length ≤ c0) (h : tree_Fold.f l0 = some (r1, r2, r3)) :
  Calls Tryd.prog 18 #[.slice A0 l0.length c0] w fun e w' => ∃ v0_ : Value, e = .returned (.tuple #[v0_, .agg #[.int .i64 r2, .int .i64 r3]]) ∧ Kd.V k38 38 w' w.heap.size (fun k_ => w.heap.size ≤ k_) v0_ r1 ∧ Below w.heap.size w w' := by
 unfold tree_Fold.f at h
 split at h
 ·rename_i hc
  simp only [Option.some.injEq] at h
  refine (Fold_calls A0 c0 l0 w hT.out hr0 ((memsZ_iff l0).1 hc)).mono ?_
  rintro e w' ⟨v, rfl, hV, hB, _⟩
  rw [h] at hV ⊢
  exact ⟨v, rfl, hV, hB⟩
 ·cases h
end Go.Proofs.YtfmphccoeinhcaaDoor.Print

namespace Go.Proofs.YtfmphccoeinhcaaDoor.Print
open Go.RowKit Go.Proofs.YtfmphccoeinhcaaDoor Go.Proofs.YtfmphccoeinhcaaDoorW.PrintWords Go.Proofs.YtfmphccoeinhcaaDoorW.PrintLast Go.Proofs.YtfmphccoeinhcaaDoorW.PrintMore
set_option linter.unusedVariables false
def tree_Find.f (l : List S38) (p : ByteArray) : Option (ByteArray × ByteArray × ByteArray × Int × Int × Int × Int × Int × List Int × Bool) :=
 if riseB l = true ∧ nodesZ l = true then some (tupN (findF l p)) else none
theorem tree_Find.calls (A0 : Option Addr) (c0 : Nat) (l0 : List S38) (a1 : ByteArray) (r1 r2 r3 : ByteArray) (r4 r5 r6 r7 r8 : Int) (r9 : List Int) (r10 : Bool) (w : World) (hr0 : Kd.C k38 w A0 l0.length l0) (hc0 : l0.length ≤ c0) (h : tree_Find.f l0 a1 = some (r1, r2, r3, r4, r5, r6, r7, r8, r9, r10)) :
  Calls Tryd.prog 54 #[.slice A0 l0.length c0, .string a1] w fun e w' => ∃ v8_ : Value, e = .returned (.tuple #[.agg #[.string r1, .string r2, .string r3, .int .u8 r4, .int .i64 r5, .int .i64 r6, .int .i64 r7, .int .i64 r8, v8_], .bool r10]) ∧ Kd.V (Kd.int .u8) 5 w' w.heap.size (fun k_ => w.heap.size ≤ k_) v8_ r9 ∧ Below w.heap.size w w' := by
 unfold tree_Find.f at h
 split at h
 ·rename_i hc
  refine (Find_calls A0 c0 l0 a1 w hr0 hc.1 ((nodesZ_iff l0).1 hc.2)).mono ?_
  rintro e w' ⟨x, b, v, hm, rfl, hR, hB⟩
  have hV := Kd.R_V (base' := w.heap.size) (Kd.R_mono (ok' := fun k_ => w.heap.size ≤ k_) (Kd.R_bound hR) (fun k hk => hk.2.1))
  cases hf : findF l0 a1 with
  | none =>
   rw [hf] at hm h
   obtain ⟨rfl, rfl⟩ := hm
   simp only [tupN, Option.some.injEq, Prod.mk.injEq] at h
   obtain ⟨rfl, rfl, rfl, rfl, rfl, rfl, rfl, rfl, rfl, rfl⟩ := h
   exact ⟨v, rfl, hV, hB⟩
  | some y =>
   rw [hf] at hm h
   obtain ⟨rfl, rfl⟩ := hm
   simp only [tupN, Option.some.injEq, Prod.mk.injEq] at h
   obtain ⟨rfl, rfl, rfl, rfl, rfl, rfl, rfl, rfl, rfl, rfl⟩ := h
   exact ⟨v, rfl, hV, hB⟩
 ·cases h
end Go.Proofs.YtfmphccoeinhcaaDoor.Print

namespace Go.Proofs.YtfmphccoeinhcaaDoor
open Go.RowKit
theorem binOp_leq_less (t : TypeId) (a b : ByteArray) : binOp .leq t (.string a) (.string b) = pure (.bool !(Op.bytesLess b.toList a.toList)) := by
 rw [binOp_string_leq]
 congr 2
 rcases less_tri a.toList b.toList with h | h | h
 ·rw [h]
  cases h2 : Op.bytesLess b.toList a.toList with
  | false => rfl
  | true =>
   have := less_trans _ _ _ h h2
   rw [less_irr] at this
   cases this
 ·rw [h, less_irr]; simp
 ·rw [h]
  cases h2 : Op.bytesLess a.toList b.toList with
  | true =>
   have := less_trans _ _ _ h h2
   rw [less_irr] at this
   cases this
  | false =>
   cases h3 : (a.toList == b.toList) with
   | false => rfl
   | true =>
    rw [beq_iff_eq] at h3
    rw [h3, less_irr] at h
    cases h
end Go.Proofs.YtfmphccoeinhcaaDoor

namespace Go.Proofs.YtfmphccoeinhcaaDoor.Print
open Go.RowKit Go.Proofs.YtfmphccoeinhcaaDoorW.PrintWords Go.Proofs.YtfmphccoeinhcaaDoorW.PrintLast Go.Proofs.YtfmphccoeinhcaaDoorW.PrintMore
attribute [local go_sem] max2_int min2_int max_two min_two max_three min_three max_four min_four   -- for this text's walks alone
set_option linter.unusedVariables false
set_option linter.unusedSimpArgs false
attribute [local go_sem high] eqA24
attribute [local go_sem high] binOp_leq_less
def tree_led.f (l0 : List (S38)) (a1_0 : ByteArray) (a1_1 : ByteArray) (a1_2 : ByteArray) (a1_3 : Int) (a1_4 : Int) (a1_5 : Int) (a1_6 : Int) (a1_7 : Int) (l1_8 : List Int) : Option (Bool) := if a1_3 = 48 then ((tree_Find.f l0 a1_2).bind fun bt487 => (if bt487.2.2.2.2.2.2.2.2.2 = true then (if bt487.2.2.2.1 = 48 then (if bt487.2.2.1.toList = bt487.1.toList then (if ((Op.bytesLess a1_0.toList bt487.1.toList) = true) then (some false) else (if (bt487.2.2.2.2.1 == a1_4 && (bt487.2.2.2.2.2.1 == a1_5 && (bt487.2.2.2.2.2.2.1 == a1_6 && (bt487.2.2.2.2.2.2.2.1 == a1_7)))) = true then ((bytes_Equal.f bt487.2.2.2.2.2.2.2.2.1 l1_8).bind fun t500 => (some t500)) else (some false))) else (some false)) else (some false)) else (some false))) else (some (a1_2.toList == ([] : List UInt8)))
set_option maxHeartbeats 8000000 in
set_option maxRecDepth 100000 in
theorem tree_led.calls (A0 : Option Addr) (c0 : Nat) (l0 : List (S38)) (a1_0 : ByteArray) (a1_1 : ByteArray) (a1_2 : ByteArray) (a1_3 : Int) (a1_4 : Int) (a1_5 : Int) (a1_6 : Int) (a1_7 : Int) (A1_8 : Option Addr) (c1_8 : Nat) (l1_8 : List Int) (r : Bool) (w : World) (hr0 : Kd.C k38 w A0 l0.length l0) (hc0 : l0.length ≤ c0) (hr1_8 : Kd.C (Kd.int .u8) w A1_8 l1_8.length l1_8) (hc1_8 : l1_8.length ≤ c1_8) (h : tree_led.f l0 a1_0 a1_1 a1_2 a1_3 a1_4 a1_5 a1_6 a1_7 l1_8 = some r) :
  Calls Tryd.prog 60 #[.slice A0 l0.length c0, .agg #[.string a1_0, .string a1_1, .string a1_2, .int .u8 a1_3, .int .i64 a1_4, .int .i64 a1_5, .int .i64 a1_6, .int .i64 a1_7, .slice A1_8 l1_8.length c1_8]] w fun e w' => e = .returned (.bool r) ∧ Below w.heap.size w w' := by
 have hu38 := Tryd.underlying38
 have hu24 := Tryd.underlying24
 have HR0 := A0_ hr0
 have HC0 := A0_ hc0
 clear hr0 hc0
 have HR1_8 := A0_ hr1_8
 have HC1_8 := A0_ hc1_8
 clear hr1_8 hc1_8
 have HB := A0_ (Below.refl w.heap.size w)
 have H : (if a1_3 = 48 then ((tree_Find.f l0 a1_2).bind fun bt487 => (if bt487.2.2.2.2.2.2.2.2.2 = true then (if bt487.2.2.2.1 = 48 then (if bt487.2.2.1.toList = bt487.1.toList then (if ((Op.bytesLess a1_0.toList bt487.1.toList) = true) then (some false) else (if (bt487.2.2.2.2.1 == a1_4 && (bt487.2.2.2.2.2.1 == a1_5 && (bt487.2.2.2.2.2.2.1 == a1_6 && (bt487.2.2.2.2.2.2.2.1 == a1_7)))) = true then ((bytes_Equal.f bt487.2.2.2.2.2.2.2.2.1 l1_8).bind fun t500 => (some t500)) else (some false))) else (some false)) else (some false)) else (some false))) else (some (a1_2.toList == ([] : List UInt8)))) = some r := h
 clear h
 by_cases c3 : a1_3 = 48
 rotate_left
 ·rw [if_neg c3] at H
  have c3b0 : (a1_3 == 48) = false := beq_eq_false_iff_ne.mpr c3
  have c3b1 : (a1_3 != 48) = true := bne_iff_ne.mpr c3
  obtain rfl := Option.some.inj H
  go_enter Tryd.func60, Tryd.ntmps60
  go_wp2_with (first | ((with_reducible refine gate_dst (N := 3) rfl ?_); refine box_event ?hg (N := 3) ?hd (cs := #[.string a1_0, .string a1_1, .string a1_2, .int .u8 a1_3, .int .i64 a1_4, .int .i64 a1_5, .int .i64 a1_6, .int .i64 a1_7, .slice A1_8 l1_8.length c1_8]) (t := 38) ?hr ?_; (case hd => rfl); (case hg => rfl); (case hr => first | (go_simp; done) | (go_simp; rfl)); intro gb486 hg w56 hbox hb; have n0_ := A0_ (below_step (wb_ HB.out) hb); have n1_ := A0_ (hbox); have n2_ := A0_ ((by rw [hg]; exact (below_size (wb_ HB.out)) : w.heap.size ≤ gb486)); have n3_ := A0_ ((by rw [hg]; exact (below_size (wb_ HB.out)) : w.heap.size ≤ gb486)); clear HB; have HB := n0_; have BK486 := n1_; have GW486 := n2_; have GE486 := n3_; clear n0_ n1_ n2_ n3_; clear hb hbox hg; have hcz57_0 : w56.cell? ⟨gb486, 0, none⟩ = some (.string a1_0) := (bc_ BK486.out 0).trans rfl; have hcz57_1 : w56.cell? ⟨gb486, 1, none⟩ = some (.string a1_1) := (bc_ BK486.out 1).trans rfl; have hcz57_2 : w56.cell? ⟨gb486, 2, none⟩ = some (.string a1_2) := (bc_ BK486.out 2).trans rfl; have hcz57_3 : w56.cell? ⟨gb486, 3, none⟩ = some (.int .u8 a1_3) := (bc_ BK486.out 3).trans rfl; have hcz57_4 : w56.cell? ⟨gb486, 4, none⟩ = some (.int .i64 a1_4) := (bc_ BK486.out 4).trans rfl; have hcz57_5 : w56.cell? ⟨gb486, 5, none⟩ = some (.int .i64 a1_5) := (bc_ BK486.out 5).trans rfl; have hcz57_6 : w56.cell? ⟨gb486, 6, none⟩ = some (.int .i64 a1_6) := (bc_ BK486.out 6).trans rfl; have hcz57_7 : w56.cell? ⟨gb486, 7, none⟩ = some (.int .i64 a1_7) := (bc_ BK486.out 7).trans rfl; have hcz57_8 : w56.cell? ⟨gb486, 8, none⟩ = some (.slice A1_8 l1_8.length c1_8) := (bc_ BK486.out 8).trans rfl; have hfz57_0 := bf_ BK486.out 0; have hfz57_1 := bf_ BK486.out 1; have hfz57_2 := bf_ BK486.out 2; have hfz57_3 := bf_ BK486.out 3; have hfz57_4 := bf_ BK486.out 4; have hfz57_5 := bf_ BK486.out 5; have hfz57_6 := bf_ BK486.out 6; have hfz57_7 := bf_ BK486.out 7; have hfz57_8 := bf_ BK486.out 8))
  go_ret
  exact ⟨we_, wb1_ HB.out GE486.out⟩
 rw [if_pos c3] at H
 have c3b0 : (a1_3 == 48) = true := beq_iff_eq.mpr c3
 have c3b1 : (a1_3 != 48) = false := bne_eq_false_iff_eq.mpr c3
 clear c3
 replace H := Option.bind_eq_some_iff.mp H
 obtain ⟨⟨t487, t488, t489, t490, t491, t492, t493, t494, t495, t498⟩, A40, H⟩ := H
 replace H : (if t498 = true then (if t490 = 48 then (if t489.toList = t487.toList then (if ((Op.bytesLess a1_0.toList t487.toList) = true) then (some false) else (if (t491 == a1_4 && (t492 == a1_5 && (t493 == a1_6 && (t494 == a1_7)))) = true then ((bytes_Equal.f t495 l1_8).bind fun t500 => (some t500)) else (some false))) else (some false)) else (some false)) else (some false)) = some r := H
 have A4 := A0_ A40
 clear A40
 by_cases c5 : t498 = true
 rotate_left
 ·replace c5 := Bool.eq_false_iff.mpr c5
  subst c5
  have H1 : (some false) = some r := by rw [if_neg (show ¬ (false = true) by decide)] at H; exact H
  clear H
  have H := H1
  clear H1
  obtain rfl := Option.some.inj H
  go_enter Tryd.func60, Tryd.ntmps60
  go_wp2_with (first | ((with_reducible refine gate_dst (N := 3) rfl ?_); refine box_event ?hg (N := 3) ?hd (cs := #[.string a1_0, .string a1_1, .string a1_2, .int .u8 a1_3, .int .i64 a1_4, .int .i64 a1_5, .int .i64 a1_6, .int .i64 a1_7, .slice A1_8 l1_8.length c1_8]) (t := 38) ?hr ?_; (case hd => rfl); (case hg => rfl); (case hr => first | (go_simp; done) | (go_simp; rfl)); intro gb486 hg w49 hbox hb; have n0_ := A0_ (below_step (wb_ HB.out) hb); have n1_ := A0_ (hbox); have n2_ := A0_ ((by rw [hg]; exact (below_size (wb_ HB.out)) : w.heap.size ≤ gb486)); have n3_ := A0_ ((by rw [hg]; exact (below_size (wb_ HB.out)) : w.heap.size ≤ gb486)); clear HB; have HB := n0_; have BK486 := n1_; have GW486 := n2_; have GE486 := n3_; clear n0_ n1_ n2_ n3_; clear hb hbox hg; have hcz50_0 : w49.cell? ⟨gb486, 0, none⟩ = some (.string a1_0) := (bc_ BK486.out 0).trans rfl; have hcz50_1 : w49.cell? ⟨gb486, 1, none⟩ = some (.string a1_1) := (bc_ BK486.out 1).trans rfl; have hcz50_2 : w49.cell? ⟨gb486, 2, none⟩ = some (.string a1_2) := (bc_ BK486.out 2).trans rfl; have hcz50_3 : w49.cell? ⟨gb486, 3, none⟩ = some (.int .u8 a1_3) := (bc_ BK486.out 3).trans rfl; have hcz50_4 : w49.cell? ⟨gb486, 4, none⟩ = some (.int .i64 a1_4) := (bc_ BK486.out 4).trans rfl; have hcz50_5 : w49.cell? ⟨gb486, 5, none⟩ = some (.int .i64 a1_5) := (bc_ BK486.out 5).trans rfl; have hcz50_6 : w49.cell? ⟨gb486, 6, none⟩ = some (.int .i64 a1_6) := (bc_ BK486.out 6).trans rfl; have hcz50_7 : w49.cell? ⟨gb486, 7, none⟩ = some (.int .i64 a1_7) := (bc_ BK486.out 7).trans rfl; have hcz50_8 : w49.cell? ⟨gb486, 8, none⟩ = some (.slice A1_8 l1_8.length c1_8) := (bc_ BK486.out 8).trans rfl; have hfz50_0 := bf_ BK486.out 0; have hfz50_1 := bf_ BK486.out 1; have hfz50_2 := bf_ BK486.out 2; have hfz50_3 := bf_ BK486.out 3; have hfz50_4 := bf_ BK486.out 4; have hfz50_5 := bf_ BK486.out 5; have hfz50_6 := bf_ BK486.out 6; have hfz50_7 := bf_ BK486.out 7; have hfz50_8 := bf_ BK486.out 8) | ((with_reducible refine gate_callee (f := 54) rfl ?_); refine goesL_ (some 17) rfl rfl Tryd.func54 (by kernel_rfl) rfl #[.slice A0 l0.length c0, .string a1_2] rfl wm_ ?_; (with_reducible refine (tree_Find.calls _ _ l0 a1_2 t487 t488 t489 t490 t491 t492 t493 t494 t495 false _ ?side1 ?side2 A4.out).mono ?_); (case side1 => exact wc_ (Kd.C_below HR0.out HB.out)); (case side2 => exact HC0.out); rintro e w51 ⟨v496, rfl, ho0, hb⟩; refine ⟨_, rfl, ?_⟩; have n0_ := A0_ (Kd.V_lower (Kd.V_mono (ok' := fun k_ => k_ ≠ gb486) ho0 (fun k_ hk_ => (Kd.freshB (g := gb486) (o := .cells #[.string a1_0, .string a1_1, .string a1_2, .int .u8 a1_3, .int .i64 a1_4, .int .i64 a1_5, .int .i64 a1_6, .int .i64 a1_7, .slice A1_8 l1_8.length c1_8] 38 (0, 0)) (wB_ BK486.out) k_ hk_))) (below_size (wb1_ HB.out GE486.out))); have n1_ := A0_ (blk_below (g := gb486) (o := .cells #[.string a1_0, .string a1_1, .string a1_2, .int .u8 a1_3, .int .i64 a1_4, .int .i64 a1_5, .int .i64 a1_6, .int .i64 a1_7, .slice A1_8 l1_8.length c1_8] 38 (0, 0)) (wB_ BK486.out) hb); have n2_ := A0_ (below_step (wb1_ HB.out GE486.out) hb); clear BK486; clear HB; have HO497 := n0_; have BK486 := n1_; have HB := n2_; clear n0_ n1_ n2_; (try clear hb); (try clear hb2); (try clear hk); (try clear hi); (try clear ho0)) | ((with_reducible refine gate_dst (N := 5) rfl ?_); refine box_event ?hg (N := 5) ?hd (cs := #[.string (⟨#[]⟩ : ByteArray), .string (⟨#[]⟩ : ByteArray), .string (⟨#[]⟩ : ByteArray), .int .u8 0, .int .i64 0, .int .i64 0, .int .i64 0, .int .i64 0, .slice none 0 0]) (t := 38) ?hr ?_; (case hd => rfl); (case hg => rfl); (case hr => first | (go_simp; done) | (go_simp; rfl)); intro gb499 hg w52 hbox hb; have n0_ := A0_ (Vb_ (Kd.V_elderB (wV_ HO497.out) gb499 (Nat.le_of_eq hg.symm)) hb); have n1_ := A0_ (blk_below (g := gb486) (o := .cells #[.string a1_0, .string a1_1, .string a1_2, .int .u8 a1_3, .int .i64 a1_4, .int .i64 a1_5, .int .i64 a1_6, .int .i64 a1_7, .slice A1_8 l1_8.length c1_8] 38 (0, 0)) (wB_ BK486.out) hb); have n2_ := A0_ (below_step (wb1_ HB.out GE486.out) hb); have n3_ := A0_ (hbox); have n4_ := A0_ ((by rw [hg]; exact (below_size (wb1_ HB.out GE486.out)) : w.heap.size ≤ gb499)); have n5_ := A0_ ((by rw [hg]; exact (below_size (wb1_ HB.out GE486.out)) : w.heap.size ≤ gb499)); have n6_ := A0_ ((by rw [hg]; exact Nat.ne_of_lt (blk_lt (g := gb486) (o := .cells #[.string a1_0, .string a1_1, .string a1_2, .int .u8 a1_3, .int .i64 a1_4, .int .i64 a1_5, .int .i64 a1_6, .int .i64 a1_7, .slice A1_8 l1_8.length c1_8] 38 (0, 0)) (wB_ BK486.out)) : gb486 ≠ gb499)); have n7_ := A0_ ((by rw [hg]; exact Nat.ne_of_gt (blk_lt (g := gb486) (o := .cells #[.string a1_0, .string a1_1, .string a1_2, .int .u8 a1_3, .int .i64 a1_4, .int .i64 a1_5, .int .i64 a1_6, .int .i64 a1_7, .slice A1_8 l1_8.length c1_8] 38 (0, 0)) (wB_ BK486.out)) : gb499 ≠ gb486)); clear HO497; clear BK486; clear HB; have HO497 := n0_; have BK486 := n1_; have HB := n2_; have BK499 := n3_; have GW499 := n4_; have GE499 := n5_; have NB486_499 := n6_; have NB499_486 := n7_; clear n0_ n1_ n2_ n3_ n4_ n5_ n6_ n7_; clear hb hbox hg; have hnb53 := NB499_486.out; have hnc53 := NB486_499.out; have hcz54_0 : w52.cell? ⟨gb499, 0, none⟩ = some (.string (⟨#[]⟩ : ByteArray)) := (bc_ BK499.out 0).trans rfl; have hcz54_1 : w52.cell? ⟨gb499, 1, none⟩ = some (.string (⟨#[]⟩ : ByteArray)) := (bc_ BK499.out 1).trans rfl; have hcz54_2 : w52.cell? ⟨gb499, 2, none⟩ = some (.string (⟨#[]⟩ : ByteArray)) := (bc_ BK499.out 2).trans rfl; have hcz54_3 : w52.cell? ⟨gb499, 3, none⟩ = some (.int .u8 0) := (bc_ BK499.out 3).trans rfl; have hcz54_4 : w52.cell? ⟨gb499, 4, none⟩ = some (.int .i64 0) := (bc_ BK499.out 4).trans rfl; have hcz54_5 : w52.cell? ⟨gb499, 5, none⟩ = some (.int .i64 0) := (bc_ BK499.out 5).trans rfl; have hcz54_6 : w52.cell? ⟨gb499, 6, none⟩ = some (.int .i64 0) := (bc_ BK499.out 6).trans rfl; have hcz54_7 : w52.cell? ⟨gb499, 7, none⟩ = some (.int .i64 0) := (bc_ BK499.out 7).trans rfl; have hcz54_8 : w52.cell? ⟨gb499, 8, none⟩ = some (.slice none 0 0) := (bc_ BK499.out 8).trans rfl; have hfz54_0 := bf_ BK499.out 0; have hfz54_1 := bf_ BK499.out 1; have hfz54_2 := bf_ BK499.out 2; have hfz54_3 := bf_ BK499.out 3; have hfz54_4 := bf_ BK499.out 4; have hfz54_5 := bf_ BK499.out 5; have hfz54_6 := bf_ BK499.out 6; have hfz54_7 := bf_ BK499.out 7; have hfz54_8 := bf_ BK499.out 8; obtain ⟨Ao55, co55, eo55⟩ := Kd.V_slice HO497.out; subst eo55))
  go_ret
  exact ⟨we_, wb2_ HB.out GE486.out GE499.out⟩
 subst c5
 have H1 : (if t490 = 48 then (if t489.toList = t487.toList then (if ((Op.bytesLess a1_0.toList t487.toList) = true) then (some false) else (if (t491 == a1_4 && (t492 == a1_5 && (t493 == a1_6 && (t494 == a1_7)))) = true then ((bytes_Equal.f t495 l1_8).bind fun t500 => (some t500)) else (some false))) else (some false)) else (some false)) = some r := by rw [if_pos rfl] at H; exact H
 clear H
 have H := H1
 clear H1
 by_cases c6 : t490 = 48
 rotate_left
 ·rw [if_neg c6] at H
  have c6b0 : (t490 == 48) = false := beq_eq_false_iff_ne.mpr c6
  have c6b1 : (t490 != 48) = true := bne_iff_ne.mpr c6
  obtain rfl := Option.some.inj H
  go_enter Tryd.func60, Tryd.ntmps60
  go_wp2_with (first | ((with_reducible refine gate_dst (N := 3) rfl ?_); refine box_event ?hg (N := 3) ?hd (cs := #[.string a1_0, .string a1_1, .string a1_2, .int .u8 a1_3, .int .i64 a1_4, .int .i64 a1_5, .int .i64 a1_6, .int .i64 a1_7, .slice A1_8 l1_8.length c1_8]) (t := 38) ?hr ?_; (case hd => rfl); (case hg => rfl); (case hr => first | (go_simp; done) | (go_simp; rfl)); intro gb486 hg w42 hbox hb; have n0_ := A0_ (below_step (wb_ HB.out) hb); have n1_ := A0_ (hbox); have n2_ := A0_ ((by rw [hg]; exact (below_size (wb_ HB.out)) : w.heap.size ≤ gb486)); have n3_ := A0_ ((by rw [hg]; exact (below_size (wb_ HB.out)) : w.heap.size ≤ gb486)); clear HB; have HB := n0_; have BK486 := n1_; have GW486 := n2_; have GE486 := n3_; clear n0_ n1_ n2_ n3_; clear hb hbox hg; have hcz43_0 : w42.cell? ⟨gb486, 0, none⟩ = some (.string a1_0) := (bc_ BK486.out 0).trans rfl; have hcz43_1 : w42.cell? ⟨gb486, 1, none⟩ = some (.string a1_1) := (bc_ BK486.out 1).trans rfl; have hcz43_2 : w42.cell? ⟨gb486, 2, none⟩ = some (.string a1_2) := (bc_ BK486.out 2).trans rfl; have hcz43_3 : w42.cell? ⟨gb486, 3, none⟩ = some (.int .u8 a1_3) := (bc_ BK486.out 3).trans rfl; have hcz43_4 : w42.cell? ⟨gb486, 4, none⟩ = some (.int .i64 a1_4) := (bc_ BK486.out 4).trans rfl; have hcz43_5 : w42.cell? ⟨gb486, 5, none⟩ = some (.int .i64 a1_5) := (bc_ BK486.out 5).trans rfl; have hcz43_6 : w42.cell? ⟨gb486, 6, none⟩ = some (.int .i64 a1_6) := (bc_ BK486.out 6).trans rfl; have hcz43_7 : w42.cell? ⟨gb486, 7, none⟩ = some (.int .i64 a1_7) := (bc_ BK486.out 7).trans rfl; have hcz43_8 : w42.cell? ⟨gb486, 8, none⟩ = some (.slice A1_8 l1_8.length c1_8) := (bc_ BK486.out 8).trans rfl; have hfz43_0 := bf_ BK486.out 0; have hfz43_1 := bf_ BK486.out 1; have hfz43_2 := bf_ BK486.out 2; have hfz43_3 := bf_ BK486.out 3; have hfz43_4 := bf_ BK486.out 4; have hfz43_5 := bf_ BK486.out 5; have hfz43_6 := bf_ BK486.out 6; have hfz43_7 := bf_ BK486.out 7; have hfz43_8 := bf_ BK486.out 8) | ((with_reducible refine gate_callee (f := 54) rfl ?_); refine goesL_ (some 17) rfl rfl Tryd.func54 (by kernel_rfl) rfl #[.slice A0 l0.length c0, .string a1_2] rfl wm_ ?_; (with_reducible refine (tree_Find.calls _ _ l0 a1_2 t487 t488 t489 t490 t491 t492 t493 t494 t495 true _ ?side1 ?side2 A4.out).mono ?_); (case side1 => exact wc_ (Kd.C_below HR0.out HB.out)); (case side2 => exact HC0.out); rintro e w44 ⟨v496, rfl, ho0, hb⟩; refine ⟨_, rfl, ?_⟩; have n0_ := A0_ (Kd.V_lower (Kd.V_mono (ok' := fun k_ => k_ ≠ gb486) ho0 (fun k_ hk_ => (Kd.freshB (g := gb486) (o := .cells #[.string a1_0, .string a1_1, .string a1_2, .int .u8 a1_3, .int .i64 a1_4, .int .i64 a1_5, .int .i64 a1_6, .int .i64 a1_7, .slice A1_8 l1_8.length c1_8] 38 (0, 0)) (wB_ BK486.out) k_ hk_))) (below_size (wb1_ HB.out GE486.out))); have n1_ := A0_ (blk_below (g := gb486) (o := .cells #[.string a1_0, .string a1_1, .string a1_2, .int .u8 a1_3, .int .i64 a1_4, .int .i64 a1_5, .int .i64 a1_6, .int .i64 a1_7, .slice A1_8 l1_8.length c1_8] 38 (0, 0)) (wB_ BK486.out) hb); have n2_ := A0_ (below_step (wb1_ HB.out GE486.out) hb); clear BK486; clear HB; have HO497 := n0_; have BK486 := n1_; have HB := n2_; clear n0_ n1_ n2_; (try clear hb); (try clear hb2); (try clear hk); (try clear hi); (try clear ho0)) | ((with_reducible refine gate_dst (N := 5) rfl ?_); refine box_event ?hg (N := 5) ?hd (cs := #[.string (⟨#[]⟩ : ByteArray), .string (⟨#[]⟩ : ByteArray), .string (⟨#[]⟩ : ByteArray), .int .u8 0, .int .i64 0, .int .i64 0, .int .i64 0, .int .i64 0, .slice none 0 0]) (t := 38) ?hr ?_; (case hd => rfl); (case hg => rfl); (case hr => first | (go_simp; done) | (go_simp; rfl)); intro gb499 hg w45 hbox hb; have n0_ := A0_ (Vb_ (Kd.V_elderB (wV_ HO497.out) gb499 (Nat.le_of_eq hg.symm)) hb); have n1_ := A0_ (blk_below (g := gb486) (o := .cells #[.string a1_0, .string a1_1, .string a1_2, .int .u8 a1_3, .int .i64 a1_4, .int .i64 a1_5, .int .i64 a1_6, .int .i64 a1_7, .slice A1_8 l1_8.length c1_8] 38 (0, 0)) (wB_ BK486.out) hb); have n2_ := A0_ (below_step (wb1_ HB.out GE486.out) hb); have n3_ := A0_ (hbox); have n4_ := A0_ ((by rw [hg]; exact (below_size (wb1_ HB.out GE486.out)) : w.heap.size ≤ gb499)); have n5_ := A0_ ((by rw [hg]; exact (below_size (wb1_ HB.out GE486.out)) : w.heap.size ≤ gb499)); have n6_ := A0_ ((by rw [hg]; exact Nat.ne_of_lt (blk_lt (g := gb486) (o := .cells #[.string a1_0, .string a1_1, .string a1_2, .int .u8 a1_3, .int .i64 a1_4, .int .i64 a1_5, .int .i64 a1_6, .int .i64 a1_7, .slice A1_8 l1_8.length c1_8] 38 (0, 0)) (wB_ BK486.out)) : gb486 ≠ gb499)); have n7_ := A0_ ((by rw [hg]; exact Nat.ne_of_gt (blk_lt (g := gb486) (o := .cells #[.string a1_0, .string a1_1, .string a1_2, .int .u8 a1_3, .int .i64 a1_4, .int .i64 a1_5, .int .i64 a1_6, .int .i64 a1_7, .slice A1_8 l1_8.length c1_8] 38 (0, 0)) (wB_ BK486.out)) : gb499 ≠ gb486)); clear HO497; clear BK486; clear HB; have HO497 := n0_; have BK486 := n1_; have HB := n2_; have BK499 := n3_; have GW499 := n4_; have GE499 := n5_; have NB486_499 := n6_; have NB499_486 := n7_; clear n0_ n1_ n2_ n3_ n4_ n5_ n6_ n7_; clear hb hbox hg; have hnb46 := NB499_486.out; have hnc46 := NB486_499.out; have hcz47_0 : w45.cell? ⟨gb499, 0, none⟩ = some (.string (⟨#[]⟩ : ByteArray)) := (bc_ BK499.out 0).trans rfl; have hcz47_1 : w45.cell? ⟨gb499, 1, none⟩ = some (.string (⟨#[]⟩ : ByteArray)) := (bc_ BK499.out 1).trans rfl; have hcz47_2 : w45.cell? ⟨gb499, 2, none⟩ = some (.string (⟨#[]⟩ : ByteArray)) := (bc_ BK499.out 2).trans rfl; have hcz47_3 : w45.cell? ⟨gb499, 3, none⟩ = some (.int .u8 0) := (bc_ BK499.out 3).trans rfl; have hcz47_4 : w45.cell? ⟨gb499, 4, none⟩ = some (.int .i64 0) := (bc_ BK499.out 4).trans rfl; have hcz47_5 : w45.cell? ⟨gb499, 5, none⟩ = some (.int .i64 0) := (bc_ BK499.out 5).trans rfl; have hcz47_6 : w45.cell? ⟨gb499, 6, none⟩ = some (.int .i64 0) := (bc_ BK499.out 6).trans rfl; have hcz47_7 : w45.cell? ⟨gb499, 7, none⟩ = some (.int .i64 0) := (bc_ BK499.out 7).trans rfl; have hcz47_8 : w45.cell? ⟨gb499, 8, none⟩ = some (.slice none 0 0) := (bc_ BK499.out 8).trans rfl; have hfz47_0 := bf_ BK499.out 0; have hfz47_1 := bf_ BK499.out 1; have hfz47_2 := bf_ BK499.out 2; have hfz47_3 := bf_ BK499.out 3; have hfz47_4 := bf_ BK499.out 4; have hfz47_5 := bf_ BK499.out 5; have hfz47_6 := bf_ BK499.out 6; have hfz47_7 := bf_ BK499.out 7; have hfz47_8 := bf_ BK499.out 8; obtain ⟨Ao48, co48, eo48⟩ := Kd.V_slice HO497.out; subst eo48))
  go_ret
  exact ⟨we_, wb2_ HB.out GE486.out GE499.out⟩
 rw [if_pos c6] at H
 have c6b0 : (t490 == 48) = true := beq_iff_eq.mpr c6
 have c6b1 : (t490 != 48) = false := bne_eq_false_iff_eq.mpr c6
 clear c6
 by_cases c7 : t489.toList = t487.toList
 rotate_left
 ·rw [if_neg c7] at H
  have c7b0 : (t489.toList == t487.toList) = false := beq_eq_false_iff_ne.mpr c7
  have c7b1 : (t489.toList != t487.toList) = true := bne_iff_ne.mpr c7
  obtain rfl := Option.some.inj H
  go_enter Tryd.func60, Tryd.ntmps60
  go_wp2_with (first | ((with_reducible refine gate_dst (N := 3) rfl ?_); refine box_event ?hg (N := 3) ?hd (cs := #[.string a1_0, .string a1_1, .string a1_2, .int .u8 a1_3, .int .i64 a1_4, .int .i64 a1_5, .int .i64 a1_6, .int .i64 a1_7, .slice A1_8 l1_8.length c1_8]) (t := 38) ?hr ?_; (case hd => rfl); (case hg => rfl); (case hr => first | (go_simp; done) | (go_simp; rfl)); intro gb486 hg w35 hbox hb; have n0_ := A0_ (below_step (wb_ HB.out) hb); have n1_ := A0_ (hbox); have n2_ := A0_ ((by rw [hg]; exact (below_size (wb_ HB.out)) : w.heap.size ≤ gb486)); have n3_ := A0_ ((by rw [hg]; exact (below_size (wb_ HB.out)) : w.heap.size ≤ gb486)); clear HB; have HB := n0_; have BK486 := n1_; have GW486 := n2_; have GE486 := n3_; clear n0_ n1_ n2_ n3_; clear hb hbox hg; have hcz36_0 : w35.cell? ⟨gb486, 0, none⟩ = some (.string a1_0) := (bc_ BK486.out 0).trans rfl; have hcz36_1 : w35.cell? ⟨gb486, 1, none⟩ = some (.string a1_1) := (bc_ BK486.out 1).trans rfl; have hcz36_2 : w35.cell? ⟨gb486, 2, none⟩ = some (.string a1_2) := (bc_ BK486.out 2).trans rfl; have hcz36_3 : w35.cell? ⟨gb486, 3, none⟩ = some (.int .u8 a1_3) := (bc_ BK486.out 3).trans rfl; have hcz36_4 : w35.cell? ⟨gb486, 4, none⟩ = some (.int .i64 a1_4) := (bc_ BK486.out 4).trans rfl; have hcz36_5 : w35.cell? ⟨gb486, 5, none⟩ = some (.int .i64 a1_5) := (bc_ BK486.out 5).trans rfl; have hcz36_6 : w35.cell? ⟨gb486, 6, none⟩ = some (.int .i64 a1_6) := (bc_ BK486.out 6).trans rfl; have hcz36_7 : w35.cell? ⟨gb486, 7, none⟩ = some (.int .i64 a1_7) := (bc_ BK486.out 7).trans rfl; have hcz36_8 : w35.cell? ⟨gb486, 8, none⟩ = some (.slice A1_8 l1_8.length c1_8) := (bc_ BK486.out 8).trans rfl; have hfz36_0 := bf_ BK486.out 0; have hfz36_1 := bf_ BK486.out 1; have hfz36_2 := bf_ BK486.out 2; have hfz36_3 := bf_ BK486.out 3; have hfz36_4 := bf_ BK486.out 4; have hfz36_5 := bf_ BK486.out 5; have hfz36_6 := bf_ BK486.out 6; have hfz36_7 := bf_ BK486.out 7; have hfz36_8 := bf_ BK486.out 8) | ((with_reducible refine gate_callee (f := 54) rfl ?_); refine goesL_ (some 17) rfl rfl Tryd.func54 (by kernel_rfl) rfl #[.slice A0 l0.length c0, .string a1_2] rfl wm_ ?_; (with_reducible refine (tree_Find.calls _ _ l0 a1_2 t487 t488 t489 t490 t491 t492 t493 t494 t495 true _ ?side1 ?side2 A4.out).mono ?_); (case side1 => exact wc_ (Kd.C_below HR0.out HB.out)); (case side2 => exact HC0.out); rintro e w37 ⟨v496, rfl, ho0, hb⟩; refine ⟨_, rfl, ?_⟩; have n0_ := A0_ (Kd.V_lower (Kd.V_mono (ok' := fun k_ => k_ ≠ gb486) ho0 (fun k_ hk_ => (Kd.freshB (g := gb486) (o := .cells #[.string a1_0, .string a1_1, .string a1_2, .int .u8 a1_3, .int .i64 a1_4, .int .i64 a1_5, .int .i64 a1_6, .int .i64 a1_7, .slice A1_8 l1_8.length c1_8] 38 (0, 0)) (wB_ BK486.out) k_ hk_))) (below_size (wb1_ HB.out GE486.out))); have n1_ := A0_ (blk_below (g := gb486) (o := .cells #[.string a1_0, .string a1_1, .string a1_2, .int .u8 a1_3, .int .i64 a1_4, .int .i64 a1_5, .int .i64 a1_6, .int .i64 a1_7, .slice A1_8 l1_8.length c1_8] 38 (0, 0)) (wB_ BK486.out) hb); have n2_ := A0_ (below_step (wb1_ HB.out GE486.out) hb); clear BK486; clear HB; have HO497 := n0_; have BK486 := n1_; have HB := n2_; clear n0_ n1_ n2_; (try clear hb); (try clear hb2); (try clear hk); (try clear hi); (try clear ho0)) | ((with_reducible refine gate_dst (N := 5) rfl ?_); refine box_event ?hg (N := 5) ?hd (cs := #[.string (⟨#[]⟩ : ByteArray), .string (⟨#[]⟩ : ByteArray), .string (⟨#[]⟩ : ByteArray), .int .u8 0, .int .i64 0, .int .i64 0, .int .i64 0, .int .i64 0, .slice none 0 0]) (t := 38) ?hr ?_; (case hd => rfl); (case hg => rfl); (case hr => first | (go_simp; done) | (go_simp; rfl)); intro gb499 hg w38 hbox hb; have n0_ := A0_ (Vb_ (Kd.V_elderB (wV_ HO497.out) gb499 (Nat.le_of_eq hg.symm)) hb); have n1_ := A0_ (blk_below (g := gb486) (o := .cells #[.string a1_0, .string a1_1, .string a1_2, .int .u8 a1_3, .int .i64 a1_4, .int .i64 a1_5, .int .i64 a1_6, .int .i64 a1_7, .slice A1_8 l1_8.length c1_8] 38 (0, 0)) (wB_ BK486.out) hb); have n2_ := A0_ (below_step (wb1_ HB.out GE486.out) hb); have n3_ := A0_ (hbox); have n4_ := A0_ ((by rw [hg]; exact (below_size (wb1_ HB.out GE486.out)) : w.heap.size ≤ gb499)); have n5_ := A0_ ((by rw [hg]; exact (below_size (wb1_ HB.out GE486.out)) : w.heap.size ≤ gb499)); have n6_ := A0_ ((by rw [hg]; exact Nat.ne_of_lt (blk_lt (g := gb486) (o := .cells #[.string a1_0, .string a1_1, .string a1_2, .int .u8 a1_3, .int .i64 a1_4, .int .i64 a1_5, .int .i64 a1_6, .int .i64 a1_7, .slice A1_8 l1_8.length c1_8] 38 (0, 0)) (wB_ BK486.out)) : gb486 ≠ gb499)); have n7_ := A0_ ((by rw [hg]; exact Nat.ne_of_gt (blk_lt (g := gb486) (o := .cells #[.string a1_0, .string a1_1, .string a1_2, .int .u8 a1_3, .int .i64 a1_4, .int .i64 a1_5, .int .i64 a1_6, .int .i64 a1_7, .slice A1_8 l1_8.length c1_8] 38 (0, 0)) (wB_ BK486.out)) : gb499 ≠ gb486)); clear HO497; clear BK486; clear HB; have HO497 := n0_; have BK486 := n1_; have HB := n2_; have BK499 := n3_; have GW499 := n4_; have GE499 := n5_; have NB486_499 := n6_; have NB499_486 := n7_; clear n0_ n1_ n2_ n3_ n4_ n5_ n6_ n7_; clear hb hbox hg; have hnb39 := NB499_486.out; have hnc39 := NB486_499.out; have hcz40_0 : w38.cell? ⟨gb499, 0, none⟩ = some (.string (⟨#[]⟩ : ByteArray)) := (bc_ BK499.out 0).trans rfl; have hcz40_1 : w38.cell? ⟨gb499, 1, none⟩ = some (.string (⟨#[]⟩ : ByteArray)) := (bc_ BK499.out 1).trans rfl; have hcz40_2 : w38.cell? ⟨gb499, 2, none⟩ = some (.string (⟨#[]⟩ : ByteArray)) := (bc_ BK499.out 2).trans rfl; have hcz40_3 : w38.cell? ⟨gb499, 3, none⟩ = some (.int .u8 0) := (bc_ BK499.out 3).trans rfl; have hcz40_4 : w38.cell? ⟨gb499, 4, none⟩ = some (.int .i64 0) := (bc_ BK499.out 4).trans rfl; have hcz40_5 : w38.cell? ⟨gb499, 5, none⟩ = some (.int .i64 0) := (bc_ BK499.out 5).trans rfl; have hcz40_6 : w38.cell? ⟨gb499, 6, none⟩ = some (.int .i64 0) := (bc_ BK499.out 6).trans rfl; have hcz40_7 : w38.cell? ⟨gb499, 7, none⟩ = some (.int .i64 0) := (bc_ BK499.out 7).trans rfl; have hcz40_8 : w38.cell? ⟨gb499, 8, none⟩ = some (.slice none 0 0) := (bc_ BK499.out 8).trans rfl; have hfz40_0 := bf_ BK499.out 0; have hfz40_1 := bf_ BK499.out 1; have hfz40_2 := bf_ BK499.out 2; have hfz40_3 := bf_ BK499.out 3; have hfz40_4 := bf_ BK499.out 4; have hfz40_5 := bf_ BK499.out 5; have hfz40_6 := bf_ BK499.out 6; have hfz40_7 := bf_ BK499.out 7; have hfz40_8 := bf_ BK499.out 8; obtain ⟨Ao41, co41, eo41⟩ := Kd.V_slice HO497.out; subst eo41))
  go_ret
  exact ⟨we_, wb2_ HB.out GE486.out GE499.out⟩
 rw [if_pos c7] at H
 have c7b0 : (t489.toList == t487.toList) = true := beq_iff_eq.mpr c7
 have c7b1 : (t489.toList != t487.toList) = false := bne_eq_false_iff_eq.mpr c7
 clear c7
 by_cases c8 : ((Op.bytesLess a1_0.toList t487.toList) = true)
 ·rw [if_pos c8] at H
  have c8b0 : (Op.bytesLess a1_0.toList t487.toList) = true := c8
  clear c8
  obtain rfl := Option.some.inj H
  go_enter Tryd.func60, Tryd.ntmps60
  go_wp2_with (first | ((with_reducible refine gate_dst (N := 3) rfl ?_); refine box_event ?hg (N := 3) ?hd (cs := #[.string a1_0, .string a1_1, .string a1_2, .int .u8 a1_3, .int .i64 a1_4, .int .i64 a1_5, .int .i64 a1_6, .int .i64 a1_7, .slice A1_8 l1_8.length c1_8]) (t := 38) ?hr ?_; (case hd => rfl); (case hg => rfl); (case hr => first | (go_simp; done) | (go_simp; rfl)); intro gb486 hg w9 hbox hb; have n0_ := A0_ (below_step (wb_ HB.out) hb); have n1_ := A0_ (hbox); have n2_ := A0_ ((by rw [hg]; exact (below_size (wb_ HB.out)) : w.heap.size ≤ gb486)); have n3_ := A0_ ((by rw [hg]; exact (below_size (wb_ HB.out)) : w.heap.size ≤ gb486)); clear HB; have HB := n0_; have BK486 := n1_; have GW486 := n2_; have GE486 := n3_; clear n0_ n1_ n2_ n3_; clear hb hbox hg; have hcz10_0 : w9.cell? ⟨gb486, 0, none⟩ = some (.string a1_0) := (bc_ BK486.out 0).trans rfl; have hcz10_1 : w9.cell? ⟨gb486, 1, none⟩ = some (.string a1_1) := (bc_ BK486.out 1).trans rfl; have hcz10_2 : w9.cell? ⟨gb486, 2, none⟩ = some (.string a1_2) := (bc_ BK486.out 2).trans rfl; have hcz10_3 : w9.cell? ⟨gb486, 3, none⟩ = some (.int .u8 a1_3) := (bc_ BK486.out 3).trans rfl; have hcz10_4 : w9.cell? ⟨gb486, 4, none⟩ = some (.int .i64 a1_4) := (bc_ BK486.out 4).trans rfl; have hcz10_5 : w9.cell? ⟨gb486, 5, none⟩ = some (.int .i64 a1_5) := (bc_ BK486.out 5).trans rfl; have hcz10_6 : w9.cell? ⟨gb486, 6, none⟩ = some (.int .i64 a1_6) := (bc_ BK486.out 6).trans rfl; have hcz10_7 : w9.cell? ⟨gb486, 7, none⟩ = some (.int .i64 a1_7) := (bc_ BK486.out 7).trans rfl; have hcz10_8 : w9.cell? ⟨gb486, 8, none⟩ = some (.slice A1_8 l1_8.length c1_8) := (bc_ BK486.out 8).trans rfl; have hfz10_0 := bf_ BK486.out 0; have hfz10_1 := bf_ BK486.out 1; have hfz10_2 := bf_ BK486.out 2; have hfz10_3 := bf_ BK486.out 3; have hfz10_4 := bf_ BK486.out 4; have hfz10_5 := bf_ BK486.out 5; have hfz10_6 := bf_ BK486.out 6; have hfz10_7 := bf_ BK486.out 7; have hfz10_8 := bf_ BK486.out 8) | ((with_reducible refine gate_callee (f := 54) rfl ?_); refine goesL_ (some 17) rfl rfl Tryd.func54 (by kernel_rfl) rfl #[.slice A0 l0.length c0, .string a1_2] rfl wm_ ?_; (with_reducible refine (tree_Find.calls _ _ l0 a1_2 t487 t488 t489 t490 t491 t492 t493 t494 t495 true _ ?side1 ?side2 A4.out).mono ?_); (case side1 => exact wc_ (Kd.C_below HR0.out HB.out)); (case side2 => exact HC0.out); rintro e w11 ⟨v496, rfl, ho0, hb⟩; refine ⟨_, rfl, ?_⟩; have n0_ := A0_ (Kd.V_lower (Kd.V_mono (ok' := fun k_ => k_ ≠ gb486) ho0 (fun k_ hk_ => (Kd.freshB (g := gb486) (o := .cells #[.string a1_0, .string a1_1, .string a1_2, .int .u8 a1_3, .int .i64 a1_4, .int .i64 a1_5, .int .i64 a1_6, .int .i64 a1_7, .slice A1_8 l1_8.length c1_8] 38 (0, 0)) (wB_ BK486.out) k_ hk_))) (below_size (wb1_ HB.out GE486.out))); have n1_ := A0_ (blk_below (g := gb486) (o := .cells #[.string a1_0, .string a1_1, .string a1_2, .int .u8 a1_3, .int .i64 a1_4, .int .i64 a1_5, .int .i64 a1_6, .int .i64 a1_7, .slice A1_8 l1_8.length c1_8] 38 (0, 0)) (wB_ BK486.out) hb); have n2_ := A0_ (below_step (wb1_ HB.out GE486.out) hb); clear BK486; clear HB; have HO497 := n0_; have BK486 := n1_; have HB := n2_; clear n0_ n1_ n2_; (try clear hb); (try clear hb2); (try clear hk); (try clear hi); (try clear ho0)) | ((with_reducible refine gate_dst (N := 5) rfl ?_); refine box_event ?hg (N := 5) ?hd (cs := #[.string (⟨#[]⟩ : ByteArray), .string (⟨#[]⟩ : ByteArray), .string (⟨#[]⟩ : ByteArray), .int .u8 0, .int .i64 0, .int .i64 0, .int .i64 0, .int .i64 0, .slice none 0 0]) (t := 38) ?hr ?_; (case hd => rfl); (case hg => rfl); (case hr => first | (go_simp; done) | (go_simp; rfl)); intro gb499 hg w12 hbox hb; have n0_ := A0_ (Vb_ (Kd.V_elderB (wV_ HO497.out) gb499 (Nat.le_of_eq hg.symm)) hb); have n1_ := A0_ (blk_below (g := gb486) (o := .cells #[.string a1_0, .string a1_1, .string a1_2, .int .u8 a1_3, .int .i64 a1_4, .int .i64 a1_5, .int .i64 a1_6, .int .i64 a1_7, .slice A1_8 l1_8.length c1_8] 38 (0, 0)) (wB_ BK486.out) hb); have n2_ := A0_ (below_step (wb1_ HB.out GE486.out) hb); have n3_ := A0_ (hbox); have n4_ := A0_ ((by rw [hg]; exact (below_size (wb1_ HB.out GE486.out)) : w.heap.size ≤ gb499)); have n5_ := A0_ ((by rw [hg]; exact (below_size (wb1_ HB.out GE486.out)) : w.heap.size ≤ gb499)); have n6_ := A0_ ((by rw [hg]; exact Nat.ne_of_lt (blk_lt (g := gb486) (o := .cells #[.string a1_0, .string a1_1, .string a1_2, .int .u8 a1_3, .int .i64 a1_4, .int .i64 a1_5, .int .i64 a1_6, .int .i64 a1_7, .slice A1_8 l1_8.length c1_8] 38 (0, 0)) (wB_ BK486.out)) : gb486 ≠ gb499)); have n7_ := A0_ ((by rw [hg]; exact Nat.ne_of_gt (blk_lt (g := gb486) (o := .cells #[.string a1_0, .string a1_1, .string a1_2, .int .u8 a1_3, .int .i64 a1_4, .int .i64 a1_5, .int .i64 a1_6, .int .i64 a1_7, .slice A1_8 l1_8.length c1_8] 38 (0, 0)) (wB_ BK486.out)) : gb499 ≠ gb486)); clear HO497; clear BK486; clear HB; have HO497 := n0_; have BK486 := n1_; have HB := n2_; have BK499 := n3_; have GW499 := n4_; have GE499 := n5_; have NB486_499 := n6_; have NB499_486 := n7_; clear n0_ n1_ n2_ n3_ n4_ n5_ n6_ n7_; clear hb hbox hg; have hnb13 := NB499_486.out; have hnc13 := NB486_499.out; have hcz14_0 : w12.cell? ⟨gb499, 0, none⟩ = some (.string (⟨#[]⟩ : ByteArray)) := (bc_ BK499.out 0).trans rfl; have hcz14_1 : w12.cell? ⟨gb499, 1, none⟩ = some (.string (⟨#[]⟩ : ByteArray)) := (bc_ BK499.out 1).trans rfl; have hcz14_2 : w12.cell? ⟨gb499, 2, none⟩ = some (.string (⟨#[]⟩ : ByteArray)) := (bc_ BK499.out 2).trans rfl; have hcz14_3 : w12.cell? ⟨gb499, 3, none⟩ = some (.int .u8 0) := (bc_ BK499.out 3).trans rfl; have hcz14_4 : w12.cell? ⟨gb499, 4, none⟩ = some (.int .i64 0) := (bc_ BK499.out 4).trans rfl; have hcz14_5 : w12.cell? ⟨gb499, 5, none⟩ = some (.int .i64 0) := (bc_ BK499.out 5).trans rfl; have hcz14_6 : w12.cell? ⟨gb499, 6, none⟩ = some (.int .i64 0) := (bc_ BK499.out 6).trans rfl; have hcz14_7 : w12.cell? ⟨gb499, 7, none⟩ = some (.int .i64 0) := (bc_ BK499.out 7).trans rfl; have hcz14_8 : w12.cell? ⟨gb499, 8, none⟩ = some (.slice none 0 0) := (bc_ BK499.out 8).trans rfl; have hfz14_0 := bf_ BK499.out 0; have hfz14_1 := bf_ BK499.out 1; have hfz14_2 := bf_ BK499.out 2; have hfz14_3 := bf_ BK499.out 3; have hfz14_4 := bf_ BK499.out 4; have hfz14_5 := bf_ BK499.out 5; have hfz14_6 := bf_ BK499.out 6; have hfz14_7 := bf_ BK499.out 7; have hfz14_8 := bf_ BK499.out 8; obtain ⟨Ao15, co15, eo15⟩ := Kd.V_slice HO497.out; subst eo15; have hcz16_0 : w12.cell? ⟨gb486, 0, none⟩ = some (.string a1_0) := (bc_ BK486.out 0).trans rfl; have hcz16_1 : w12.cell? ⟨gb486, 1, none⟩ = some (.string a1_1) := (bc_ BK486.out 1).trans rfl; have hcz16_2 : w12.cell? ⟨gb486, 2, none⟩ = some (.string a1_2) := (bc_ BK486.out 2).trans rfl; have hcz16_3 : w12.cell? ⟨gb486, 3, none⟩ = some (.int .u8 a1_3) := (bc_ BK486.out 3).trans rfl; have hcz16_4 : w12.cell? ⟨gb486, 4, none⟩ = some (.int .i64 a1_4) := (bc_ BK486.out 4).trans rfl; have hcz16_5 : w12.cell? ⟨gb486, 5, none⟩ = some (.int .i64 a1_5) := (bc_ BK486.out 5).trans rfl; have hcz16_6 : w12.cell? ⟨gb486, 6, none⟩ = some (.int .i64 a1_6) := (bc_ BK486.out 6).trans rfl; have hcz16_7 : w12.cell? ⟨gb486, 7, none⟩ = some (.int .i64 a1_7) := (bc_ BK486.out 7).trans rfl; have hcz16_8 : w12.cell? ⟨gb486, 8, none⟩ = some (.slice A1_8 l1_8.length c1_8) := (bc_ BK486.out 8).trans rfl; have hfz16_0 := bf_ BK486.out 0; have hfz16_1 := bf_ BK486.out 1; have hfz16_2 := bf_ BK486.out 2; have hfz16_3 := bf_ BK486.out 3; have hfz16_4 := bf_ BK486.out 4; have hfz16_5 := bf_ BK486.out 5; have hfz16_6 := bf_ BK486.out 6; have hfz16_7 := bf_ BK486.out 7; have hfz16_8 := bf_ BK486.out 8))
  go_ret
  exact ⟨we_, wb2_ HB.out GE486.out GE499.out⟩
 rw [if_neg c8] at H
 have c8b0 : (Op.bytesLess a1_0.toList t487.toList) = false := by simpa using c8
 clear c8
 by_cases c17 : (t491 == a1_4 && (t492 == a1_5 && (t493 == a1_6 && (t494 == a1_7)))) = true
 rotate_left
 ·rw [if_neg c17] at H
  have c17b0 : (t491 == a1_4 && (t492 == a1_5 && (t493 == a1_6 && (t494 == a1_7)))) = false := by simpa using c17
  (try (have c17b1 : decide (t491 = a1_4 && (t492 == a1_5 && (t493 == a1_6 && (t494 == a1_7)))) = false := by simpa using c17))
  (try (have c17b2 : (t491 == a1_4 && (t492 == a1_5 && (t493 == a1_6 && (t494 == a1_7)))) = false := by simpa using c17))
  (try (have c17b3 : ¬ (t491 = a1_4 && (t492 == a1_5 && (t493 == a1_6 && (t494 == a1_7)))) := by simpa using c17))
  clear c17
  obtain rfl := Option.some.inj H
  go_enter Tryd.func60, Tryd.ntmps60
  go_wp2_with (first | ((with_reducible refine gate_dst (N := 3) rfl ?_); refine box_event ?hg (N := 3) ?hd (cs := #[.string a1_0, .string a1_1, .string a1_2, .int .u8 a1_3, .int .i64 a1_4, .int .i64 a1_5, .int .i64 a1_6, .int .i64 a1_7, .slice A1_8 l1_8.length c1_8]) (t := 38) ?hr ?_; (case hd => rfl); (case hg => rfl); (case hr => first | (go_simp; done) | (go_simp; rfl)); intro gb486 hg w27 hbox hb; have n0_ := A0_ (below_step (wb_ HB.out) hb); have n1_ := A0_ (hbox); have n2_ := A0_ ((by rw [hg]; exact (below_size (wb_ HB.out)) : w.heap.size ≤ gb486)); have n3_ := A0_ ((by rw [hg]; exact (below_size (wb_ HB.out)) : w.heap.size ≤ gb486)); clear HB; have HB := n0_; have BK486 := n1_; have GW486 := n2_; have GE486 := n3_; clear n0_ n1_ n2_ n3_; clear hb hbox hg; have hcz28_0 : w27.cell? ⟨gb486, 0, none⟩ = some (.string a1_0) := (bc_ BK486.out 0).trans rfl; have hcz28_1 : w27.cell? ⟨gb486, 1, none⟩ = some (.string a1_1) := (bc_ BK486.out 1).trans rfl; have hcz28_2 : w27.cell? ⟨gb486, 2, none⟩ = some (.string a1_2) := (bc_ BK486.out 2).trans rfl; have hcz28_3 : w27.cell? ⟨gb486, 3, none⟩ = some (.int .u8 a1_3) := (bc_ BK486.out 3).trans rfl; have hcz28_4 : w27.cell? ⟨gb486, 4, none⟩ = some (.int .i64 a1_4) := (bc_ BK486.out 4).trans rfl; have hcz28_5 : w27.cell? ⟨gb486, 5, none⟩ = some (.int .i64 a1_5) := (bc_ BK486.out 5).trans rfl; have hcz28_6 : w27.cell? ⟨gb486, 6, none⟩ = some (.int .i64 a1_6) := (bc_ BK486.out 6).trans rfl; have hcz28_7 : w27.cell? ⟨gb486, 7, none⟩ = some (.int .i64 a1_7) := (bc_ BK486.out 7).trans rfl; have hcz28_8 : w27.cell? ⟨gb486, 8, none⟩ = some (.slice A1_8 l1_8.length c1_8) := (bc_ BK486.out 8).trans rfl; have hfz28_0 := bf_ BK486.out 0; have hfz28_1 := bf_ BK486.out 1; have hfz28_2 := bf_ BK486.out 2; have hfz28_3 := bf_ BK486.out 3; have hfz28_4 := bf_ BK486.out 4; have hfz28_5 := bf_ BK486.out 5; have hfz28_6 := bf_ BK486.out 6; have hfz28_7 := bf_ BK486.out 7; have hfz28_8 := bf_ BK486.out 8) | ((with_reducible refine gate_callee (f := 54) rfl ?_); refine goesL_ (some 17) rfl rfl Tryd.func54 (by kernel_rfl) rfl #[.slice A0 l0.length c0, .string a1_2] rfl wm_ ?_; (with_reducible refine (tree_Find.calls _ _ l0 a1_2 t487 t488 t489 t490 t491 t492 t493 t494 t495 true _ ?side1 ?side2 A4.out).mono ?_); (case side1 => exact wc_ (Kd.C_below HR0.out HB.out)); (case side2 => exact HC0.out); rintro e w29 ⟨v496, rfl, ho0, hb⟩; refine ⟨_, rfl, ?_⟩; have n0_ := A0_ (Kd.V_lower (Kd.V_mono (ok' := fun k_ => k_ ≠ gb486) ho0 (fun k_ hk_ => (Kd.freshB (g := gb486) (o := .cells #[.string a1_0, .string a1_1, .string a1_2, .int .u8 a1_3, .int .i64 a1_4, .int .i64 a1_5, .int .i64 a1_6, .int .i64 a1_7, .slice A1_8 l1_8.length c1_8] 38 (0, 0)) (wB_ BK486.out) k_ hk_))) (below_size (wb1_ HB.out GE486.out))); have n1_ := A0_ (blk_below (g := gb486) (o := .cells #[.string a1_0, .string a1_1, .string a1_2, .int .u8 a1_3, .int .i64 a1_4, .int .i64 a1_5, .int .i64 a1_6, .int .i64 a1_7, .slice A1_8 l1_8.length c1_8] 38 (0, 0)) (wB_ BK486.out) hb); have n2_ := A0_ (below_step (wb1_ HB.out GE486.out) hb); clear BK486; clear HB; have HO497 := n0_; have BK486 := n1_; have HB := n2_; clear n0_ n1_ n2_; (try clear hb); (try clear hb2); (try clear hk); (try clear hi); (try clear ho0)) | ((with_reducible refine gate_dst (N := 5) rfl ?_); refine box_event ?hg (N := 5) ?hd (cs := #[.string (⟨#[]⟩ : ByteArray), .string (⟨#[]⟩ : ByteArray), .string (⟨#[]⟩ : ByteArray), .int .u8 0, .int .i64 0, .int .i64 0, .int .i64 0, .int .i64 0, .slice none 0 0]) (t := 38) ?hr ?_; (case hd => rfl); (case hg => rfl); (case hr => first | (go_simp; done) | (go_simp; rfl)); intro gb499 hg w30 hbox hb; have n0_ := A0_ (Vb_ (Kd.V_elderB (wV_ HO497.out) gb499 (Nat.le_of_eq hg.symm)) hb); have n1_ := A0_ (blk_below (g := gb486) (o := .cells #[.string a1_0, .string a1_1, .string a1_2, .int .u8 a1_3, .int .i64 a1_4, .int .i64 a1_5, .int .i64 a1_6, .int .i64 a1_7, .slice A1_8 l1_8.length c1_8] 38 (0, 0)) (wB_ BK486.out) hb); have n2_ := A0_ (below_step (wb1_ HB.out GE486.out) hb); have n3_ := A0_ (hbox); have n4_ := A0_ ((by rw [hg]; exact (below_size (wb1_ HB.out GE486.out)) : w.heap.size ≤ gb499)); have n5_ := A0_ ((by rw [hg]; exact (below_size (wb1_ HB.out GE486.out)) : w.heap.size ≤ gb499)); have n6_ := A0_ ((by rw [hg]; exact Nat.ne_of_lt (blk_lt (g := gb486) (o := .cells #[.string a1_0, .string a1_1, .string a1_2, .int .u8 a1_3, .int .i64 a1_4, .int .i64 a1_5, .int .i64 a1_6, .int .i64 a1_7, .slice A1_8 l1_8.length c1_8] 38 (0, 0)) (wB_ BK486.out)) : gb486 ≠ gb499)); have n7_ := A0_ ((by rw [hg]; exact Nat.ne_of_gt (blk_lt (g := gb486) (o := .cells #[.string a1_0, .string a1_1, .string a1_2, .int .u8 a1_3, .int .i64 a1_4, .int .i64 a1_5, .int .i64 a1_6, .int .i64 a1_7, .slice A1_8 l1_8.length c1_8] 38 (0, 0)) (wB_ BK486.out)) : gb499 ≠ gb486)); clear HO497; clear BK486; clear HB; have HO497 := n0_; have BK486 := n1_; have HB := n2_; have BK499 := n3_; have GW499 := n4_; have GE499 := n5_; have NB486_499 := n6_; have NB499_486 := n7_; clear n0_ n1_ n2_ n3_ n4_ n5_ n6_ n7_; clear hb hbox hg; have hnb31 := NB499_486.out; have hnc31 := NB486_499.out; have hcz32_0 : w30.cell? ⟨gb499, 0, none⟩ = some (.string (⟨#[]⟩ : ByteArray)) := (bc_ BK499.out 0).trans rfl; have hcz32_1 : w30.cell? ⟨gb499, 1, none⟩ = some (.string (⟨#[]⟩ : ByteArray)) := (bc_ BK499.out 1).trans rfl; have hcz32_2 : w30.cell? ⟨gb499, 2, none⟩ = some (.string (⟨#[]⟩ : ByteArray)) := (bc_ BK499.out 2).trans rfl; have hcz32_3 : w30.cell? ⟨gb499, 3, none⟩ = some (.int .u8 0) := (bc_ BK499.out 3).trans rfl; have hcz32_4 : w30.cell? ⟨gb499, 4, none⟩ = some (.int .i64 0) := (bc_ BK499.out 4).trans rfl; have hcz32_5 : w30.cell? ⟨gb499, 5, none⟩ = some (.int .i64 0) := (bc_ BK499.out 5).trans rfl; have hcz32_6 : w30.cell? ⟨gb499, 6, none⟩ = some (.int .i64 0) := (bc_ BK499.out 6).trans rfl; have hcz32_7 : w30.cell? ⟨gb499, 7, none⟩ = some (.int .i64 0) := (bc_ BK499.out 7).trans rfl; have hcz32_8 : w30.cell? ⟨gb499, 8, none⟩ = some (.slice none 0 0) := (bc_ BK499.out 8).trans rfl; have hfz32_0 := bf_ BK499.out 0; have hfz32_1 := bf_ BK499.out 1; have hfz32_2 := bf_ BK499.out 2; have hfz32_3 := bf_ BK499.out 3; have hfz32_4 := bf_ BK499.out 4; have hfz32_5 := bf_ BK499.out 5; have hfz32_6 := bf_ BK499.out 6; have hfz32_7 := bf_ BK499.out 7; have hfz32_8 := bf_ BK499.out 8; obtain ⟨Ao33, co33, eo33⟩ := Kd.V_slice HO497.out; subst eo33; have hcz34_0 : w30.cell? ⟨gb486, 0, none⟩ = some (.string a1_0) := (bc_ BK486.out 0).trans rfl; have hcz34_1 : w30.cell? ⟨gb486, 1, none⟩ = some (.string a1_1) := (bc_ BK486.out 1).trans rfl; have hcz34_2 : w30.cell? ⟨gb486, 2, none⟩ = some (.string a1_2) := (bc_ BK486.out 2).trans rfl; have hcz34_3 : w30.cell? ⟨gb486, 3, none⟩ = some (.int .u8 a1_3) := (bc_ BK486.out 3).trans rfl; have hcz34_4 : w30.cell? ⟨gb486, 4, none⟩ = some (.int .i64 a1_4) := (bc_ BK486.out 4).trans rfl; have hcz34_5 : w30.cell? ⟨gb486, 5, none⟩ = some (.int .i64 a1_5) := (bc_ BK486.out 5).trans rfl; have hcz34_6 : w30.cell? ⟨gb486, 6, none⟩ = some (.int .i64 a1_6) := (bc_ BK486.out 6).trans rfl; have hcz34_7 : w30.cell? ⟨gb486, 7, none⟩ = some (.int .i64 a1_7) := (bc_ BK486.out 7).trans rfl; have hcz34_8 : w30.cell? ⟨gb486, 8, none⟩ = some (.slice A1_8 l1_8.length c1_8) := (bc_ BK486.out 8).trans rfl; have hfz34_0 := bf_ BK486.out 0; have hfz34_1 := bf_ BK486.out 1; have hfz34_2 := bf_ BK486.out 2; have hfz34_3 := bf_ BK486.out 3; have hfz34_4 := bf_ BK486.out 4; have hfz34_5 := bf_ BK486.out 5; have hfz34_6 := bf_ BK486.out 6; have hfz34_7 := bf_ BK486.out 7; have hfz34_8 := bf_ BK486.out 8))
  go_ret
  exact ⟨we_, wb2_ HB.out GE486.out GE499.out⟩
 rw [if_pos c17] at H
 have c17b0 : (t491 == a1_4 && (t492 == a1_5 && (t493 == a1_6 && (t494 == a1_7)))) = true := c17
 (try (have c17b1 : decide (t491 = a1_4 && (t492 == a1_5 && (t493 == a1_6 && (t494 == a1_7)))) = true := by simpa using c17))
 (try (have c17b2 : (t491 == a1_4 && (t492 == a1_5 && (t493 == a1_6 && (t494 == a1_7)))) = true := by simpa using c17))
 clear c17
 replace H := Option.bind_eq_some_iff.mp H
 obtain ⟨t500, A180, H⟩ := H
 replace H : (some t500) = some r := H
 have A18 := A0_ A180
 clear A180
 obtain rfl := Option.some.inj H
 go_enter Tryd.func60, Tryd.ntmps60
 go_wp2_with (first | ((with_reducible refine gate_dst (N := 3) rfl ?_); refine box_event ?hg (N := 3) ?hd (cs := #[.string a1_0, .string a1_1, .string a1_2, .int .u8 a1_3, .int .i64 a1_4, .int .i64 a1_5, .int .i64 a1_6, .int .i64 a1_7, .slice A1_8 l1_8.length c1_8]) (t := 38) ?hr ?_; (case hd => rfl); (case hg => rfl); (case hr => first | (go_simp; done) | (go_simp; rfl)); intro gb486 hg w19 hbox hb; have n0_ := A0_ (below_step (wb_ HB.out) hb); have n1_ := A0_ (hbox); have n2_ := A0_ ((by rw [hg]; exact (below_size (wb_ HB.out)) : w.heap.size ≤ gb486)); have n3_ := A0_ ((by rw [hg]; exact (below_size (wb_ HB.out)) : w.heap.size ≤ gb486)); clear HB; have HB := n0_; have BK486 := n1_; have GW486 := n2_; have GE486 := n3_; clear n0_ n1_ n2_ n3_; clear hb hbox hg; have hcz20_0 : w19.cell? ⟨gb486, 0, none⟩ = some (.string a1_0) := (bc_ BK486.out 0).trans rfl; have hcz20_1 : w19.cell? ⟨gb486, 1, none⟩ = some (.string a1_1) := (bc_ BK486.out 1).trans rfl; have hcz20_2 : w19.cell? ⟨gb486, 2, none⟩ = some (.string a1_2) := (bc_ BK486.out 2).trans rfl; have hcz20_3 : w19.cell? ⟨gb486, 3, none⟩ = some (.int .u8 a1_3) := (bc_ BK486.out 3).trans rfl; have hcz20_4 : w19.cell? ⟨gb486, 4, none⟩ = some (.int .i64 a1_4) := (bc_ BK486.out 4).trans rfl; have hcz20_5 : w19.cell? ⟨gb486, 5, none⟩ = some (.int .i64 a1_5) := (bc_ BK486.out 5).trans rfl; have hcz20_6 : w19.cell? ⟨gb486, 6, none⟩ = some (.int .i64 a1_6) := (bc_ BK486.out 6).trans rfl; have hcz20_7 : w19.cell? ⟨gb486, 7, none⟩ = some (.int .i64 a1_7) := (bc_ BK486.out 7).trans rfl; have hcz20_8 : w19.cell? ⟨gb486, 8, none⟩ = some (.slice A1_8 l1_8.length c1_8) := (bc_ BK486.out 8).trans rfl; have hfz20_0 := bf_ BK486.out 0; have hfz20_1 := bf_ BK486.out 1; have hfz20_2 := bf_ BK486.out 2; have hfz20_3 := bf_ BK486.out 3; have hfz20_4 := bf_ BK486.out 4; have hfz20_5 := bf_ BK486.out 5; have hfz20_6 := bf_ BK486.out 6; have hfz20_7 := bf_ BK486.out 7; have hfz20_8 := bf_ BK486.out 8) | ((with_reducible refine gate_callee (f := 54) rfl ?_); refine goesL_ (some 17) rfl rfl Tryd.func54 (by kernel_rfl) rfl #[.slice A0 l0.length c0, .string a1_2] rfl wm_ ?_; (with_reducible refine (tree_Find.calls _ _ l0 a1_2 t487 t488 t489 t490 t491 t492 t493 t494 t495 true _ ?side1 ?side2 A4.out).mono ?_); (case side1 => exact wc_ (Kd.C_below HR0.out HB.out)); (case side2 => exact HC0.out); rintro e w21 ⟨v496, rfl, ho0, hb⟩; refine ⟨_, rfl, ?_⟩; have n0_ := A0_ (Kd.V_lower (Kd.V_mono (ok' := fun k_ => k_ ≠ gb486) ho0 (fun k_ hk_ => (Kd.freshB (g := gb486) (o := .cells #[.string a1_0, .string a1_1, .string a1_2, .int .u8 a1_3, .int .i64 a1_4, .int .i64 a1_5, .int .i64 a1_6, .int .i64 a1_7, .slice A1_8 l1_8.length c1_8] 38 (0, 0)) (wB_ BK486.out) k_ hk_))) (below_size (wb1_ HB.out GE486.out))); have n1_ := A0_ (blk_below (g := gb486) (o := .cells #[.string a1_0, .string a1_1, .string a1_2, .int .u8 a1_3, .int .i64 a1_4, .int .i64 a1_5, .int .i64 a1_6, .int .i64 a1_7, .slice A1_8 l1_8.length c1_8] 38 (0, 0)) (wB_ BK486.out) hb); have n2_ := A0_ (below_step (wb1_ HB.out GE486.out) hb); clear BK486; clear HB; have HO497 := n0_; have BK486 := n1_; have HB := n2_; clear n0_ n1_ n2_; (try clear hb); (try clear hb2); (try clear hk); (try clear hi); (try clear ho0)) | ((with_reducible refine gate_dst (N := 5) rfl ?_); refine box_event ?hg (N := 5) ?hd (cs := #[.string (⟨#[]⟩ : ByteArray), .string (⟨#[]⟩ : ByteArray), .string (⟨#[]⟩ : ByteArray), .int .u8 0, .int .i64 0, .int .i64 0, .int .i64 0, .int .i64 0, .slice none 0 0]) (t := 38) ?hr ?_; (case hd => rfl); (case hg => rfl); (case hr => first | (go_simp; done) | (go_simp; rfl)); intro gb499 hg w22 hbox hb; have n0_ := A0_ (Vb_ (Kd.V_elderB (wV_ HO497.out) gb499 (Nat.le_of_eq hg.symm)) hb); have n1_ := A0_ (blk_below (g := gb486) (o := .cells #[.string a1_0, .string a1_1, .string a1_2, .int .u8 a1_3, .int .i64 a1_4, .int .i64 a1_5, .int .i64 a1_6, .int .i64 a1_7, .slice A1_8 l1_8.length c1_8] 38 (0, 0)) (wB_ BK486.out) hb); have n2_ := A0_ (below_step (wb1_ HB.out GE486.out) hb); have n3_ := A0_ (hbox); have n4_ := A0_ ((by rw [hg]; exact (below_size (wb1_ HB.out GE486.out)) : w.heap.size ≤ gb499)); have n5_ := A0_ ((by rw [hg]; exact (below_size (wb1_ HB.out GE486.out)) : w.heap.size ≤ gb499)); have n6_ := A0_ ((by rw [hg]; exact Nat.ne_of_lt (blk_lt (g := gb486) (o := .cells #[.string a1_0, .string a1_1, .string a1_2, .int .u8 a1_3, .int .i64 a1_4, .int .i64 a1_5, .int .i64 a1_6, .int .i64 a1_7, .slice A1_8 l1_8.length c1_8] 38 (0, 0)) (wB_ BK486.out)) : gb486 ≠ gb499)); have n7_ := A0_ ((by rw [hg]; exact Nat.ne_of_gt (blk_lt (g := gb486) (o := .cells #[.string a1_0, .string a1_1, .string a1_2, .int .u8 a1_3, .int .i64 a1_4, .int .i64 a1_5, .int .i64 a1_6, .int .i64 a1_7, .slice A1_8 l1_8.length c1_8] 38 (0, 0)) (wB_ BK486.out)) : gb499 ≠ gb486)); clear HO497; clear BK486; clear HB; have HO497 := n0_; have BK486 := n1_; have HB := n2_; have BK499 := n3_; have GW499 := n4_; have GE499 := n5_; have NB486_499 := n6_; have NB499_486 := n7_; clear n0_ n1_ n2_ n3_ n4_ n5_ n6_ n7_; clear hb hbox hg; have hnb23 := NB499_486.out; have hnc23 := NB486_499.out; have hcz24_0 : w22.cell? ⟨gb499, 0, none⟩ = some (.string (⟨#[]⟩ : ByteArray)) := (bc_ BK499.out 0).trans rfl; have hcz24_1 : w22.cell? ⟨gb499, 1, none⟩ = some (.string (⟨#[]⟩ : ByteArray)) := (bc_ BK499.out 1).trans rfl; have hcz24_2 : w22.cell? ⟨gb499, 2, none⟩ = some (.string (⟨#[]⟩ : ByteArray)) := (bc_ BK499.out 2).trans rfl; have hcz24_3 : w22.cell? ⟨gb499, 3, none⟩ = some (.int .u8 0) := (bc_ BK499.out 3).trans rfl; have hcz24_4 : w22.cell? ⟨gb499, 4, none⟩ = some (.int .i64 0) := (bc_ BK499.out 4).trans rfl; have hcz24_5 : w22.cell? ⟨gb499, 5, none⟩ = some (.int .i64 0) := (bc_ BK499.out 5).trans rfl; have hcz24_6 : w22.cell? ⟨gb499, 6, none⟩ = some (.int .i64 0) := (bc_ BK499.out 6).trans rfl; have hcz24_7 : w22.cell? ⟨gb499, 7, none⟩ = some (.int .i64 0) := (bc_ BK499.out 7).trans rfl; have hcz24_8 : w22.cell? ⟨gb499, 8, none⟩ = some (.slice none 0 0) := (bc_ BK499.out 8).trans rfl; have hfz24_0 := bf_ BK499.out 0; have hfz24_1 := bf_ BK499.out 1; have hfz24_2 := bf_ BK499.out 2; have hfz24_3 := bf_ BK499.out 3; have hfz24_4 := bf_ BK499.out 4; have hfz24_5 := bf_ BK499.out 5; have hfz24_6 := bf_ BK499.out 6; have hfz24_7 := bf_ BK499.out 7; have hfz24_8 := bf_ BK499.out 8; obtain ⟨Ao25, co25, eo25⟩ := Kd.V_slice HO497.out; subst eo25; have hcz26_0 : w22.cell? ⟨gb486, 0, none⟩ = some (.string a1_0) := (bc_ BK486.out 0).trans rfl; have hcz26_1 : w22.cell? ⟨gb486, 1, none⟩ = some (.string a1_1) := (bc_ BK486.out 1).trans rfl; have hcz26_2 : w22.cell? ⟨gb486, 2, none⟩ = some (.string a1_2) := (bc_ BK486.out 2).trans rfl; have hcz26_3 : w22.cell? ⟨gb486, 3, none⟩ = some (.int .u8 a1_3) := (bc_ BK486.out 3).trans rfl; have hcz26_4 : w22.cell? ⟨gb486, 4, none⟩ = some (.int .i64 a1_4) := (bc_ BK486.out 4).trans rfl; have hcz26_5 : w22.cell? ⟨gb486, 5, none⟩ = some (.int .i64 a1_5) := (bc_ BK486.out 5).trans rfl; have hcz26_6 : w22.cell? ⟨gb486, 6, none⟩ = some (.int .i64 a1_6) := (bc_ BK486.out 6).trans rfl; have hcz26_7 : w22.cell? ⟨gb486, 7, none⟩ = some (.int .i64 a1_7) := (bc_ BK486.out 7).trans rfl; have hcz26_8 : w22.cell? ⟨gb486, 8, none⟩ = some (.slice A1_8 l1_8.length c1_8) := (bc_ BK486.out 8).trans rfl; have hfz26_0 := bf_ BK486.out 0; have hfz26_1 := bf_ BK486.out 1; have hfz26_2 := bf_ BK486.out 2; have hfz26_3 := bf_ BK486.out 3; have hfz26_4 := bf_ BK486.out 4; have hfz26_5 := bf_ BK486.out 5; have hfz26_6 := bf_ BK486.out 6; have hfz26_7 := bf_ BK486.out 7; have hfz26_8 := bf_ BK486.out 8) | (go_at_call 72; (with_reducible refine (bytes_Equal.calls _ _ t495 _ _ l1_8 t500 _ ?side1 ?side2 ?side3 ?side4 A18.out).mono ?_); (case side1 => refine (Kd.V_reads' (e := 5) (base := w.heap.size) (ok := fun k_ => (k_ ≠ gb486 ∧ k_ ≠ gb499)) (n := t495.length) (c := co25) ?_).2.2; exact (by (with_reducible repeat (first | apply Va_ | apply VN_ | apply V1_)); exact (Kd.V_mono (Kd.V_far (p := ⟨gb499, 8, none⟩) (Kd.V_far (p := ⟨gb499, 7, none⟩) (Kd.V_far (p := ⟨gb499, 6, none⟩) (Kd.V_far (p := ⟨gb499, 5, none⟩) (Kd.V_far (p := ⟨gb499, 4, none⟩) (Kd.V_far (p := ⟨gb499, 3, none⟩) (Kd.V_far (p := ⟨gb499, 2, none⟩) (Kd.V_far (p := ⟨gb499, 1, none⟩) (Kd.V_far (p := ⟨gb499, 0, none⟩) (Kd.V_mono HO497.out (fun k_ hk => (⟨hk, hk.2⟩ : _ ∧ k_ ≠ gb499))) (fun _ hk => hk.2) (.string t487)) (fun _ hk => hk.2) (.string t488)) (fun _ hk => hk.2) (.string t489)) (fun _ hk => hk.2) (.int .u8 t490)) (fun _ hk => hk.2) (.int .i64 t491)) (fun _ hk => hk.2) (.int .i64 t492)) (fun _ hk => hk.2) (.int .i64 t493)) (fun _ hk => hk.2) (.int .i64 t494)) (fun _ hk => hk.2) (.slice Ao25 t495.length co25)) (fun _ h_ => h_.1)))); (case side2 => exact (Kd.V_reads' HO497.out).2.1); (case side3 => exact Kd.C_below HR1_8.out (wb2_ HB.out GE486.out GE499.out)); (case side4 => exact HC1_8.out); rintro e w' ⟨rfl, ⟨nd, rfl⟩⟩))
 go_ret
 exact ⟨we_, wb2_ HB.out GE486.out GE499.out⟩
end Go.Proofs.YtfmphccoeinhcaaDoor.Print

namespace Go.Proofs.YtfmphccoeinhcaaDoor
open Go.RowKit Go.Proofs.YtfmphccoeinhcaaDoor.Print Go.Proofs.YtfmphccoeinhcaaDoorW.PrintWords
theorem led_f {l : List Node} (hr : riseB l = true) (hz : nodesZ l = true) (x : Node) : tree_led.f l x.f0 x.f1 x.f2 x.f3 x.f4.f0 x.f4.f1 x.f4.f2 x.f4.f3 x.f5 = some (ledB l x) := by
 unfold tree_led.f ledB
 by_cases h48 : x.f3 = 48
 ·rw [if_pos h48, if_pos h48]
  have hF : tree_Find.f l x.f2 = some (tupN (findF l x.f2)) := by unfold tree_Find.f; rw [if_pos ⟨hr, hz⟩]
  rw [hF, Option.bind_some]
  cases hf : findF l x.f2 with
  | none => rfl
  | some y =>
   refine (if_pos (c := (tupN (some y)).2.2.2.2.2.2.2.2.2 = true) rfl).trans ?_
   show (if y.f3 = 48 then (if y.f2.toList = y.f0.toList then (if Op.bytesLess x.f0.toList y.f0.toList = true then some false else (if (y.f4.f0 == x.f4.f0 && (y.f4.f1 == x.f4.f1 && (y.f4.f2 == x.f4.f2 && (y.f4.f3 == x.f4.f3)))) = true then (bytes_Equal.f y.f5 x.f5).bind fun t => some t else some false)) else some false) else some false) = some (decide (y.f3 = 48 ∧ y.f2.toList = y.f0.toList ∧ lt x.f0 y.f0 = false ∧ y.f4.f0 = x.f4.f0 ∧ y.f4.f1 = x.f4.f1 ∧ y.f4.f2 = x.f4.f2 ∧ y.f4.f3 = x.f4.f3 ∧ (strOfNums y.f5).toList = (strOfNums x.f5).toList))
   by_cases a : y.f3 = 48
   ·rw [if_pos a]
    by_cases b : y.f2.toList = y.f0.toList
    ·rw [if_pos b]
     by_cases c : Op.bytesLess x.f0.toList y.f0.toList = true
     ·rw [if_pos c, decide_eq_false]
      intro h
      have h2 := h.2.2.1
      unfold lt at h2
      rw [c] at h2
      cases h2
     ·rw [if_neg c]
      have c' : lt x.f0 y.f0 = false := by unfold lt; cases hb : Op.bytesLess x.f0.toList y.f0.toList with | true => exact absurd hb c | false => rfl
      by_cases d : (y.f4.f0 == x.f4.f0 && (y.f4.f1 == x.f4.f1 && (y.f4.f2 == x.f4.f2 && (y.f4.f3 == x.f4.f3)))) = true
      ·rw [if_pos d]
       simp only [Bool.and_eq_true, beq_iff_eq] at d
       unfold bytes_Equal.f
       rw [Option.bind_some]
       congr 1
       rw [Bool.eq_iff_iff, beq_iff_eq, decide_eq_true_iff]
       exact ⟨fun h => ⟨a, b, c', d.1, d.2.1, d.2.2.1, d.2.2.2, h⟩, fun h => h.2.2.2.2.2.2.2⟩
      ·rw [if_neg d, decide_eq_false]
       intro h
       apply d
       simp only [Bool.and_eq_true, beq_iff_eq]
       exact ⟨h.2.2.2.1, h.2.2.2.2.1, h.2.2.2.2.2.1, h.2.2.2.2.2.2.1⟩
    ·rw [if_neg b, decide_eq_false]
     exact fun h => b h.2.1
   ·rw [if_neg a, decide_eq_false]
    exact fun h => a h.1
 ·rw [if_neg h48, if_neg h48]
  congr 1
  rw [Bool.eq_iff_iff, beq_iff_eq, decide_eq_true_iff]
end Go.Proofs.YtfmphccoeinhcaaDoor
