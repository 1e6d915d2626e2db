/-
  Part of the proof that MergeOne answers true: texts put together (wip/bundle.py).
-/
import Derived.Test.YtbngbefchobfnaaGreatDoorCMergeOne1
import Derived.Lib.TrimUEq
import Derived.Lib.Hide
namespace Go.Proofs.YtbngbefchobfnaaGreatDoor
def stepN (n b0 b1 b2 b3 : Nat) : Nat :=
 if b0 = 0 then 0 else if b0 < 128 then 1
 else if b0 < 194 then 0
 else if b0 < 224 then (if 2 ≤ n ∧ 128 ≤ b1 ∧ b1 ≤ 191 then 2 else 0)
 else if b0 < 240 then (if 3 ≤ n ∧ 128 ≤ b1 ∧ b1 ≤ 191 ∧ 128 ≤ b2 ∧ b2 ≤ 191 ∧ ¬ (b0 = 224 ∧ b1 < 160) ∧ ¬ (b0 = 237 ∧ 159 < b1) then 3 else 0)
 else if b0 < 245 then (if 4 ≤ n ∧ 128 ≤ b1 ∧ b1 ≤ 191 ∧ 128 ≤ b2 ∧ b2 ≤ 191 ∧ 128 ≤ b3 ∧ b3 ≤ 191 ∧ ¬ (b0 = 240 ∧ b1 < 144) ∧ ¬ (b0 = 244 ∧ 143 < b1) then 4 else 0)
 else 0
def step (l : List UInt8) : Nat := stepN l.length (l.getD 0 0).toNat (l.getD 1 0).toNat (l.getD 2 0).toNat (l.getD 3 0).toNat
set_option maxRecDepth 100000 in
set_option maxHeartbeats 4000000 in
theorem step_dec (n b0 b1 b2 b3 : Nat) (h0 : b0 ≠ 0) (h : b0 < 256) (h1 : b1 < 256) (h2 : b2 < 256) (h3 : b3 < 256) :
  (((Lib.decodeN n b0 b1 b2 b3).1 = 65533 ∧ (Lib.decodeN n b0 b1 b2 b3).2 = 1) ↔ stepN n b0 b1 b2 b3 = 0) ∧ (stepN n b0 b1 b2 b3 ≠ 0 → (Lib.decodeN n b0 b1 b2 b3).2 = stepN n b0 b1 b2 b3) := by
 unfold Lib.decodeN stepN
 repeat' split
 all_goals first
  | (constructor <;> simp <;> omega)
  | (exfalso; omega)
def goodF : Nat → List UInt8 → Bool
 | 0, _ => true
 | n + 1, l => if l = [] then true else if step l = 0 then false else goodF n (l.drop (step l))
theorem step_le (l : List UInt8) : step l ≤ l.length := by
 unfold step stepN
 repeat' split
 all_goals try omega
 all_goals
  cases l with
  | nil => simp at *
  | cons a t => simp
theorem contains_app (x y : List UInt8) : (x ++ y).contains 0 = (x.contains 0 || y.contains 0) := by
 induction x with
 | nil => simp
 | cons a x ih => rw [List.cons_append, List.contains_cons, List.contains_cons, ih, Bool.or_assoc]
theorem byte_lt (b : UInt8) : b.toNat < 256 := b.toNat_lt
theorem validGoD_good (n : Nat) : ∀ l : List UInt8, l.length ≤ n → goodF n l = (Lib.validGoD n l && !(l.contains 0)) := by
 induction n with
 | zero =>
  intro l hl
  have : l = [] := List.length_eq_zero_iff.1 (by omega)
  subst this
  rfl
 | succ n ih =>
  intro l hl
  cases l with
  | nil => rfl
  | cons a t =>
   have hne : a :: t ≠ [] := by simp
   simp only [goodF, Lib.validGoD, if_neg hne]
   by_cases ha : a = 0
   ·subst ha
    have : step (0 :: t) = 0 := by simp [step, stepN]
    simp [this]
   ·have ha' : a.toNat ≠ 0 := fun e => ha (by simpa using (UInt8.toNat_inj (b := 0)).1 (by simpa using e))
    have hd := step_dec (a :: t).length ((a :: t).getD 0 0).toNat ((a :: t).getD 1 0).toNat ((a :: t).getD 2 0).toNat ((a :: t).getD 3 0).toNat (by simpa using ha') (byte_lt _) (byte_lt _) (byte_lt _) (byte_lt _)
    rw [← Lib.decodeL_N] at hd
    have hs : stepN (a :: t).length ((a :: t).getD 0 0).toNat ((a :: t).getD 1 0).toNat ((a :: t).getD 2 0).toNat ((a :: t).getD 3 0).toNat = step (a :: t) := rfl
    rw [hs] at hd
    by_cases h0 : step (a :: t) = 0
    ·rw [if_pos h0, if_pos (hd.1.2 h0)]
     rfl
    ·rw [if_neg h0, if_neg (fun e => h0 (hd.1.1 e)), hd.2 h0]
     have hpos : 1 ≤ step (a :: t) := by omega
     rw [ih _ (by rw [List.length_drop]; simp at hl ⊢; omega)]
     congr 2
     have hsplit : (a :: t).contains 0 = (((a :: t).take (step (a :: t))).contains 0 || ((a :: t).drop (step (a :: t))).contains 0) := by
      rw [← contains_app, List.take_append_drop]
     rw [hsplit]
     have hz : ((a :: t).take (step (a :: t))).contains 0 = false := by
      rw [List.contains_eq_mem, decide_eq_false_iff_not]
      intro hm
      obtain ⟨i, hi, he⟩ := List.getElem_of_mem hm
      rw [List.getElem_take] at he
      rw [List.length_take] at hi
      have hi1 : i < step (a :: t) := by omega
      have hg : ((a :: t).getD i 0).toNat = 0 := by rw [List.getD_eq_getElem?_getD, List.getElem?_eq_getElem (by omega), Option.getD_some, he]; rfl
      have hst : stepN (a :: t).length ((a :: t).getD 0 0).toNat ((a :: t).getD 1 0).toNat ((a :: t).getD 2 0).toNat ((a :: t).getD 3 0).toNat = step (a :: t) := rfl
      unfold stepN at hst
      have h00 : ((a :: t).getD 0 0).toNat ≠ 0 := by simpa using ha'
      have hi4 : i < 4 := by
       repeat' split at hst
       all_goals omega
      have : i = 0 ∨ i = 1 ∨ i = 2 ∨ i = 3 := by omega
      rcases this with rfl | rfl | rfl | rfl
      ·exact h00 hg
      all_goals
       repeat' split at hst
       all_goals omega
     rw [hz, Bool.false_or]
theorem indexByte_mem (l : List UInt8) (c : UInt8) : decide (0 ≤ Lib.indexByte l c) = l.contains c := by
 induction l with
 | nil => rfl
 | cons a t ih =>
  by_cases hc : a = c
  ·subst hc; simp [Lib.indexByte]
  ·have hb : (a == c) = false := by simpa using hc
   have hc' : ¬ c = a := fun e => hc e.symm
   have ge : -1 ≤ Lib.indexByte t c := by
    clear ih
    induction t with
    | nil => simp [Lib.indexByte]
    | cons b r ih => simp only [Lib.indexByte]; split <;> (try split) <;> omega
   simp only [Lib.indexByte, hb]
   rw [List.contains_cons]
   have : (c == a) = false := by simpa using hc'
   rw [this, Bool.false_or, ← ih]
   by_cases h1 : Lib.indexByte t c = -1
   ·simp [h1]
   ·have h2 : (Lib.indexByte t c == -1) = false := by simpa using h1
    simp only [h2]
    have : 0 ≤ Lib.indexByte t c := by omega
    simp [this]
    omega
theorem rightB_good (s : ByteArray) : rightB s = goodF s.data.toList.length s.data.toList := by
 unfold rightB Lib.validD
 rw [validGoD_good _ _ (Nat.le_refl _), indexByte_mem]
end Go.Proofs.YtbngbefchobfnaaGreatDoor

namespace Go.Proofs.YtbngbefchobfnaaGreatDoor.Print
open Go.RowKit Go.Proofs.YtbngbefchobfnaaGreatDoorW.PrintWords Go.Proofs.YtbngbefchobfnaaGreatDoorW.PrintLast Go.Proofs.YtbngbefchobfnaaGreatDoorW.PrintMore
attribute [local go_sem] max2_int min2_int max_two min_two max_three min_three max_four min_four   -- for this text's walks alone
set_option linter.unusedVariables false
set_option linter.unusedSimpArgs false
mutual
def bindleref01_Text.l0 : Nat → ByteArray → Int → Option (Bool)
 | 0, _, _ => none
 | k + 1, x0, x3 => if x3 < (x0.size : Int) then (if 0 ≤ x3 then (if (wrap64 (bt x0 x3)) = 0 then (some false) else (if (wrap64 (bt x0 x3)) < 128 then (bindleref01_Text.j3 k x0 x3 (wrap64 (bt x0 x3)) 1) else (if (wrap64 (bt x0 x3)) ≥ 194 then (bindleref01_Text.j1 k x0 x3 (wrap64 (bt x0 x3)) (decide ((wrap64 (bt x0 x3)) < 224))) else (bindleref01_Text.j1 k x0 x3 (wrap64 (bt x0 x3)) false)))) else (none)) else (some true)
def bindleref01_Text.j3 : Nat → ByteArray → Int → Int → Int → Option (Bool)
 | 0, _, _, _, _ => none
 | k + 1, x0, x3, x4, x5 => if (wrap64 ((x0.size : Int) - x3)) < x5 then (some false) else (bindleref01_Text.l1 k x0 x3 x4 x5 1)
def bindleref01_Text.l1 : Nat → ByteArray → Int → Int → Int → Int → Option (Bool)
 | 0, _, _, _, _, _ => none
 | k + 1, x0, x3, x4, x5, x6 => if x6 < x5 then (if 0 ≤ (wrap64 (x3 + x6)) then (if (wrap64 (x3 + x6)) < (x0.size : Int) then (if (bt x0 (wrap64 (x3 + x6))) < 128 then (some false) else (if (bt x0 (wrap64 (x3 + x6))) > 191 then (some false) else (bindleref01_Text.l1 k x0 x3 x4 x5 (wrap64 (x6 + 1))))) else (none)) else (none)) else (if x5 = 3 then (if x4 = 224 then (if 0 ≤ (wrap64 (x3 + 1)) then (if (wrap64 (x3 + 1)) < (x0.size : Int) then (if (bt x0 (wrap64 (x3 + 1))) < 160 then (some false) else (if x4 = 237 then (if (bt x0 (wrap64 (x3 + 1))) > 159 then (some false) else (if x5 = 4 then (if x4 = 240 then (if (bt x0 (wrap64 (x3 + 1))) < 144 then (some false) else (if x4 = 244 then (if (bt x0 (wrap64 (x3 + 1))) > 143 then (some false) else (bindleref01_Text.l0 k x0 (wrap64 (x3 + x5)))) else (bindleref01_Text.l0 k x0 (wrap64 (x3 + x5))))) else (if x4 = 244 then (if (bt x0 (wrap64 (x3 + 1))) > 143 then (some false) else (bindleref01_Text.l0 k x0 (wrap64 (x3 + x5)))) else (bindleref01_Text.l0 k x0 (wrap64 (x3 + x5))))) else (bindleref01_Text.l0 k x0 (wrap64 (x3 + x5))))) else (if x5 = 4 then (if x4 = 240 then (if (bt x0 (wrap64 (x3 + 1))) < 144 then (some false) else (if x4 = 244 then (if (bt x0 (wrap64 (x3 + 1))) > 143 then (some false) else (bindleref01_Text.l0 k x0 (wrap64 (x3 + x5)))) else (bindleref01_Text.l0 k x0 (wrap64 (x3 + x5))))) else (if x4 = 244 then (if (bt x0 (wrap64 (x3 + 1))) > 143 then (some false) else (bindleref01_Text.l0 k x0 (wrap64 (x3 + x5)))) else (bindleref01_Text.l0 k x0 (wrap64 (x3 + x5))))) else (bindleref01_Text.l0 k x0 (wrap64 (x3 + x5)))))) else (none)) else (none)) else (if x4 = 237 then (if 0 ≤ (wrap64 (x3 + 1)) then (if (wrap64 (x3 + 1)) < (x0.size : Int) then (if (bt x0 (wrap64 (x3 + 1))) > 159 then (some false) else (if x5 = 4 then (if x4 = 240 then (if (bt x0 (wrap64 (x3 + 1))) < 144 then (some false) else (if x4 = 244 then (if (bt x0 (wrap64 (x3 + 1))) > 143 then (some false) else (bindleref01_Text.l0 k x0 (wrap64 (x3 + x5)))) else (bindleref01_Text.l0 k x0 (wrap64 (x3 + x5))))) else (if x4 = 244 then (if (bt x0 (wrap64 (x3 + 1))) > 143 then (some false) else (bindleref01_Text.l0 k x0 (wrap64 (x3 + x5)))) else (bindleref01_Text.l0 k x0 (wrap64 (x3 + x5))))) else (bindleref01_Text.l0 k x0 (wrap64 (x3 + x5))))) else (none)) else (none)) else (if x5 = 4 then (if x4 = 240 then (if 0 ≤ (wrap64 (x3 + 1)) then (if (wrap64 (x3 + 1)) < (x0.size : Int) then (if (bt x0 (wrap64 (x3 + 1))) < 144 then (some false) else (if x4 = 244 then (if (bt x0 (wrap64 (x3 + 1))) > 143 then (some false) else (bindleref01_Text.l0 k x0 (wrap64 (x3 + x5)))) else (bindleref01_Text.l0 k x0 (wrap64 (x3 + x5))))) else (none)) else (none)) else (if x4 = 244 then (if 0 ≤ (wrap64 (x3 + 1)) then (if (wrap64 (x3 + 1)) < (x0.size : Int) then (if (bt x0 (wrap64 (x3 + 1))) > 143 then (some false) else (bindleref01_Text.l0 k x0 (wrap64 (x3 + x5)))) else (none)) else (none)) else (bindleref01_Text.l0 k x0 (wrap64 (x3 + x5))))) else (bindleref01_Text.l0 k x0 (wrap64 (x3 + x5)))))) else (if x5 = 4 then (if x4 = 240 then (if 0 ≤ (wrap64 (x3 + 1)) then (if (wrap64 (x3 + 1)) < (x0.size : Int) then (if (bt x0 (wrap64 (x3 + 1))) < 144 then (some false) else (if x4 = 244 then (if (bt x0 (wrap64 (x3 + 1))) > 143 then (some false) else (bindleref01_Text.l0 k x0 (wrap64 (x3 + x5)))) else (bindleref01_Text.l0 k x0 (wrap64 (x3 + x5))))) else (none)) else (none)) else (if x4 = 244 then (if 0 ≤ (wrap64 (x3 + 1)) then (if (wrap64 (x3 + 1)) < (x0.size : Int) then (if (bt x0 (wrap64 (x3 + 1))) > 143 then (some false) else (bindleref01_Text.l0 k x0 (wrap64 (x3 + x5)))) else (none)) else (none)) else (bindleref01_Text.l0 k x0 (wrap64 (x3 + x5))))) else (bindleref01_Text.l0 k x0 (wrap64 (x3 + x5)))))
def bindleref01_Text.j1 : Nat → ByteArray → Int → Int → Bool → Option (Bool)
 | 0, _, _, _, _ => none
 | k + 1, x0, x3, x4, x21 => if x21 = true then (bindleref01_Text.j3 k x0 x3 x4 2) else (if x4 ≥ 224 then (bindleref01_Text.j2 k x0 x3 x4 (decide (x4 < 240))) else (bindleref01_Text.j2 k x0 x3 x4 false))
def bindleref01_Text.j2 : Nat → ByteArray → Int → Int → Bool → Option (Bool)
 | 0, _, _, _, _ => none
 | k + 1, x0, x3, x4, x28 => if x28 = true then (bindleref01_Text.j3 k x0 x3 x4 3) else (if x4 ≥ 240 then (if x4 < 245 then (bindleref01_Text.j3 k x0 x3 x4 4) else (some false)) else (some false))
end
def bindleref01_Text.f (k : Nat) (a0 : ByteArray) : Option (Bool) := bindleref01_Text.l0 k a0 0
set_option maxHeartbeats 8000000 in
set_option maxRecDepth 100000 in
theorem bindleref01_Text.calls (k : Nat) (a0 : ByteArray) (r : Bool) (w : World) (h : bindleref01_Text.f k a0 = some r) :
  Calls Tryz.prog 61 #[.string a0] w fun e w' => e = .returned (.bool r) ∧ Drawn0 w w' := by
 have H : (bindleref01_Text.l0 k a0 0) = some r := h
 clear h
 have H' := A0_ H
 clear H
 go_enter Tryz.func61, Tryz.ntmps61
 go_wp2
 go_loopg [3] k (fun kq v3 w' => ∃ (x3_1 : Int), v3 = .int .i64 x3_1 ∧ Aside0 (bindleref01_Text.l0 kq a0 x3_1 = some r) ∧ Aside0 (kq ≤ k) ∧ Drawn0 w w')
 case atStart => exact ⟨(0), wr_, H', ⟨Nat.le_refl _⟩, by repeat (first | exact Drawn0.refl _ | apply Drawn0.step)⟩
 case round =>
  clear H'
  obtain ⟨x3_1, rfl, HA, HK1, ⟨m1, rfl⟩⟩ := hrel
  cases gk with
  | zero => exact absurd HA.out (by simp [bindleref01_Text.l0])
  | succ k1 =>
   have H := HA.out
   clear HA
   simp only [bindleref01_Text.l0] at H
   by_cases c2 : x3_1 < (a0.size : Int)
   rotate_left
   ·rw [if_neg c2] at H
    have c2b0 : decide (x3_1 < (a0.size : Int)) = false := decide_eq_false c2
    clear c2
    obtain rfl := Option.some.inj H
    go_wp2
    go_ret
    exact ⟨by first | rfl | (simp; done) | (simp [*]; done), by repeat (first | exact Drawn0.refl _ | apply Drawn0.step)⟩
   rw [if_pos c2] at H
   have c2b0 : decide (x3_1 < (a0.size : Int)) = true := decide_eq_true c2
   clear c2
   by_cases c3 : 0 ≤ x3_1
   rotate_left
   ·rw [if_neg c3] at H
    exact absurd H (by simp)
   rw [if_pos c3] at H
   have c3b0 : decide (0 ≤ x3_1) = true := decide_eq_true c3
   clear c3
   have HC5 := A0_ H
   clear H
   have p4 : 0 ≤ (x3_1 : Int) := wd_
   have q4 : x3_1 < (a0.size : Int) := wd_
   have hx4 := bt_at a0 x3_1
   replace p4 := eq_true p4
   replace q4 := eq_true q4
   go_upto_block 2 with (fail)
   go_cut [5] (fun v5 wc => ∃ (kq : Nat) (x5_4 : Int), v5 = .int .i64 x5_4 ∧ Aside0 (bindleref01_Text.j3 kq a0 x3_1 (wrap64 (bt a0 x3_1)) x5_4 = some r) ∧ Aside0 (kq ≤ k1) ∧ Drawn0 w wc)
   case first =>
    have H := HC5.out
    clear HC5
    by_cases c6 : (wrap64 (bt a0 x3_1)) = 0
    ·rw [if_pos c6] at H
     have c6b0 : ((wrap64 (bt a0 x3_1)) == 0) = true := beq_iff_eq.mpr c6
     have c6b1 : ((wrap64 (bt a0 x3_1)) != 0) = false := bne_eq_false_iff_eq.mpr c6
     clear c6
     (first | rw [c6b0] | (simp only [i64_w, i32_w]; rw [c6b0]) | skip)
     obtain rfl := Option.some.inj H
     go_wp2
     go_ret
     exact ⟨by first | rfl | (simp; done) | (simp [*]; done), by repeat (first | exact Drawn0.refl _ | apply Drawn0.step)⟩
    rw [if_neg c6] at H
    have c6b0 : ((wrap64 (bt a0 x3_1)) == 0) = false := beq_eq_false_iff_ne.mpr c6
    have c6b1 : ((wrap64 (bt a0 x3_1)) != 0) = true := bne_iff_ne.mpr c6
    (first | rw [c6b0] | (simp only [i64_w, i32_w]; rw [c6b0]) | skip)
    by_cases c7 : (wrap64 (bt a0 x3_1)) < 128
    ·rw [if_pos c7] at H
     have c7b0 : decide ((wrap64 (bt a0 x3_1)) < 128) = true := decide_eq_true c7
     clear c7
     have H' := A0_ H
     clear H
     go_wp2
     go_meet
     case rel => exact ⟨_, (1), wr_, H', ⟨by have := HK1.out; first | omega | exact Nat.le_refl _⟩, by repeat (first | exact Drawn0.refl _ | apply Drawn0.step)⟩
    rw [if_neg c7] at H
    have c7b0 : decide ((wrap64 (bt a0 x3_1)) < 128) = false := decide_eq_false c7
    clear c7
    have HC8 := A0_ H
    clear H
    go_upto_region 8 with (fail)
    go_cut [21] (fun v21 wc => ∃ (kq : Nat) (x21_7 : Bool), v21 = .bool x21_7 ∧ Aside0 (bindleref01_Text.j1 kq a0 x3_1 (wrap64 (bt a0 x3_1)) x21_7 = some r) ∧ Aside0 (kq ≤ k1) ∧ Drawn0 w wc)
    case first =>
     have H := HC8.out
     clear HC8
     by_cases c9 : (wrap64 (bt a0 x3_1)) ≥ 194
     rotate_left
     ·rw [if_neg c9] at H
      have c9b0 : decide (194 ≤ (wrap64 (bt a0 x3_1))) = false := decide_eq_false c9
      clear c9
      (first | rw [c9b0] | (simp only [i64_w, i32_w]; rw [c9b0]) | skip)
      have H' := A0_ H
      clear H
      go_wp2
      go_meet
      case rel => exact ⟨_, (false), wr_, H', ⟨by have := HK1.out; first | omega | exact Nat.le_refl _⟩, by repeat (first | exact Drawn0.refl _ | apply Drawn0.step)⟩
     rw [if_pos c9] at H
     have c9b0 : decide (194 ≤ (wrap64 (bt a0 x3_1))) = true := decide_eq_true c9
     clear c9
     (first | rw [c9b0] | (simp only [i64_w, i32_w]; rw [c9b0]) | skip)
     have H' := A0_ H
     clear H
     go_wp2
     go_meet
     case rel => exact ⟨_, (decide ((wrap64 (bt a0 x3_1)) < 224)), wr_, H', ⟨by have := HK1.out; first | omega | exact Nat.le_refl _⟩, by repeat (first | exact Drawn0.refl _ | apply Drawn0.step)⟩
    case rest =>
     clear HC8
     try clear c2
     try clear c2b0
     try clear p2
     try clear c3
     try clear c3b0
     try clear p4
     try clear q4
     try clear hx4
     try clear c6
     try clear c6b0
     try clear c6b1
     try clear p6
     try clear c7
     try clear c7b0
     try clear c9
     try clear c9b0
     try clear p4
     try clear q4
     obtain ⟨kq, x21_7, rfl, HA, HJ7, ⟨mc7, rfl⟩⟩ := hcut
     cases kq with
     | zero => exact absurd HA.out (by simp [bindleref01_Text.j1])
     | succ kj7 =>
      have H := HA.out
      clear HA
      simp only [bindleref01_Text.j1] at H
      by_cases c10 : x21_7 = true
      ·subst c10
       have H1 : (bindleref01_Text.j3 kj7 a0 x3_1 (wrap64 (bt a0 x3_1)) 2) = some r := by rw [if_pos rfl] at H; exact H
       clear H
       have H := H1
       clear H1
       have H' := A0_ H
       clear H
       go_wp2
       go_meet
       case rel => exact ⟨_, (2), wr_, H', ⟨by have := HK1.out; have := HJ7.out; first | omega | exact Nat.le_refl _⟩, by repeat (first | exact Drawn0.refl _ | apply Drawn0.step)⟩
      replace c10 := Bool.eq_false_iff.mpr c10
      subst c10
      have H1 : (if (wrap64 (bt a0 x3_1)) ≥ 224 then (bindleref01_Text.j2 kj7 a0 x3_1 (wrap64 (bt a0 x3_1)) (decide ((wrap64 (bt a0 x3_1)) < 240))) else (bindleref01_Text.j2 kj7 a0 x3_1 (wrap64 (bt a0 x3_1)) false)) = some r := by rw [if_neg (show ¬ (false = true) by decide)] at H; exact H
      clear H
      have H := H1
      clear H1
      have HC11 := A0_ H
      clear H
      go_upto_region 10 with (fail)
      go_cut [28] (fun v28 wc => ∃ (kq : Nat) (x28_10 : Bool), v28 = .bool x28_10 ∧ Aside0 (bindleref01_Text.j2 kq a0 x3_1 (wrap64 (bt a0 x3_1)) x28_10 = some r) ∧ Aside0 (kq ≤ kj7) ∧ Drawn0 w wc)
      case first =>
       have H := HC11.out
       clear HC11
       by_cases c12 : (wrap64 (bt a0 x3_1)) ≥ 224
       rotate_left
       ·rw [if_neg c12] at H
        have c12b0 : decide (224 ≤ (wrap64 (bt a0 x3_1))) = false := decide_eq_false c12
        clear c12
        (first | rw [c12b0] | (simp only [i64_w, i32_w]; rw [c12b0]) | skip)
        have H' := A0_ H
        clear H
        go_wp2
        go_meet
        case rel => exact ⟨_, (false), wr_, H', ⟨by have := HK1.out; have := HJ7.out; first | omega | exact Nat.le_refl _⟩, by repeat (first | exact Drawn0.refl _ | apply Drawn0.step)⟩
       rw [if_pos c12] at H
       have c12b0 : decide (224 ≤ (wrap64 (bt a0 x3_1))) = true := decide_eq_true c12
       clear c12
       (first | rw [c12b0] | (simp only [i64_w, i32_w]; rw [c12b0]) | skip)
       have H' := A0_ H
       clear H
       go_wp2
       go_meet
       case rel => exact ⟨_, (decide ((wrap64 (bt a0 x3_1)) < 240)), wr_, H', ⟨by have := HK1.out; have := HJ7.out; first | omega | exact Nat.le_refl _⟩, by repeat (first | exact Drawn0.refl _ | apply Drawn0.step)⟩
      case rest =>
       clear HC11
       try clear c1
       try clear c2
       try clear c2b0
       try clear p2
       try clear c3
       try clear c3b0
       try clear p4
       try clear q4
       try clear hx4
       try clear c6
       try clear c6b0
       try clear c6b1
       try clear p6
       try clear c7
       try clear c7b0
       try clear c9
       try clear c9b0
       try clear c10
       try clear c12
       try clear c12b0
       try clear p2
       try clear p4
       try clear p6
       try clear q4
       obtain ⟨kq, x28_10, rfl, HA, HJ10, ⟨mc10, rfl⟩⟩ := hcut
       cases kq with
       | zero => exact absurd HA.out (by simp [bindleref01_Text.j2])
       | succ kj10 =>
        have H := HA.out
        clear HA
        simp only [bindleref01_Text.j2] at H
        by_cases c13 : x28_10 = true
        ·subst c13
         have H1 : (bindleref01_Text.j3 kj10 a0 x3_1 (wrap64 (bt a0 x3_1)) 3) = some r := by rw [if_pos rfl] at H; exact H
         clear H
         have H := H1
         clear H1
         have H' := A0_ H
         clear H
         go_wp2
         go_meet
         case rel => exact ⟨_, (3), wr_, H', ⟨by have := HK1.out; have := HJ7.out; have := HJ10.out; first | omega | exact Nat.le_refl _⟩, by repeat (first | exact Drawn0.refl _ | apply Drawn0.step)⟩
        replace c13 := Bool.eq_false_iff.mpr c13
        subst c13
        have H1 : (if (wrap64 (bt a0 x3_1)) ≥ 240 then (if (wrap64 (bt a0 x3_1)) < 245 then (bindleref01_Text.j3 kj10 a0 x3_1 (wrap64 (bt a0 x3_1)) 4) else (some false)) else (some false)) = some r := by rw [if_neg (show ¬ (false = true) by decide)] at H; exact H
        clear H
        have H := H1
        clear H1
        by_cases c14 : (wrap64 (bt a0 x3_1)) ≥ 240
        rotate_left
        ·rw [if_neg c14] at H
         have c14b0 : decide (240 ≤ (wrap64 (bt a0 x3_1))) = false := decide_eq_false c14
         clear c14
         obtain rfl := Option.some.inj H
         go_wp2
         go_ret
         exact ⟨by first | rfl | (simp; done) | (simp [*]; done), by repeat (first | exact Drawn0.refl _ | apply Drawn0.step)⟩
        rw [if_pos c14] at H
        have c14b0 : decide (240 ≤ (wrap64 (bt a0 x3_1))) = true := decide_eq_true c14
        clear c14
        by_cases c15 : (wrap64 (bt a0 x3_1)) < 245
        rotate_left
        ·rw [if_neg c15] at H
         have c15b0 : decide ((wrap64 (bt a0 x3_1)) < 245) = false := decide_eq_false c15
         clear c15
         obtain rfl := Option.some.inj H
         go_wp2
         go_ret
         exact ⟨by first | rfl | (simp; done) | (simp [*]; done), by repeat (first | exact Drawn0.refl _ | apply Drawn0.step)⟩
        rw [if_pos c15] at H
        have c15b0 : decide ((wrap64 (bt a0 x3_1)) < 245) = true := decide_eq_true c15
        clear c15
        have H' := A0_ H
        clear H
        go_wp2
        go_meet
        case rel => exact ⟨_, (4), wr_, H', ⟨by have := HK1.out; have := HJ7.out; have := HJ10.out; first | omega | exact Nat.le_refl _⟩, by repeat (first | exact Drawn0.refl _ | apply Drawn0.step)⟩
   case rest =>
    clear HC5
    try clear c1
    try clear c2
    try clear c2b0
    try clear p2
    try clear c3
    try clear c3b0
    try clear p4
    try clear q4
    try clear hx4
    try clear c6
    try clear c6b0
    try clear c6b1
    try clear p6
    try clear c7
    try clear c7b0
    try clear c9
    try clear c9b0
    try clear c10
    try clear c12
    try clear c12b0
    try clear c13
    try clear c14
    try clear c14b0
    try clear c15
    try clear c15b0
    try clear p2
    try clear p4
    try clear p6
    try clear q4
    obtain ⟨kq, x5_4, rfl, HA, HJ4, ⟨mc4, rfl⟩⟩ := hcut
    cases kq with
    | zero => exact absurd HA.out (by simp [bindleref01_Text.j3])
    | succ kj4 =>
     have H := HA.out
     clear HA
     simp only [bindleref01_Text.j3] at H
     by_cases c16 : (wrap64 ((a0.size : Int) - x3_1)) < x5_4
     ·rw [if_pos c16] at H
      have c16b0 : decide ((wrap64 ((a0.size : Int) - x3_1)) < x5_4) = true := decide_eq_true c16
      clear c16
      obtain rfl := Option.some.inj H
      go_wp2
      go_ret
      exact ⟨by first | rfl | (simp; done) | (simp [*]; done), by repeat (first | exact Drawn0.refl _ | apply Drawn0.step)⟩
     rw [if_neg c16] at H
     have c16b0 : decide ((wrap64 ((a0.size : Int) - x3_1)) < x5_4) = false := decide_eq_false c16
     clear c16
     have H' := A0_ H
     clear H
     go_wp2
     go_loopg [6] kj4 (fun kq v6 w' => ∃ (x6_3 : Int), v6 = .int .i64 x6_3 ∧ Aside0 (bindleref01_Text.l1 kq a0 x3_1 (wrap64 (bt a0 x3_1)) x5_4 x6_3 = some r) ∧ Aside0 (kq ≤ kj4) ∧ Drawn0 w w')
     case atStart => exact ⟨(1), wr_, H', ⟨Nat.le_refl _⟩, by repeat (first | exact Drawn0.refl _ | apply Drawn0.step)⟩
     case round =>
      clear H'
      try clear c1
      try clear c2
      try clear c2b0
      try clear p2
      try clear c3
      try clear c3b0
      try clear c4
      try clear p4
      try clear q4
      try clear hx4
      try clear c6
      try clear c6b0
      try clear c6b1
      try clear p6
      try clear c7
      try clear c7b0
      try clear c9
      try clear c9b0
      try clear c10
      try clear c12
      try clear c12b0
      try clear c13
      try clear c14
      try clear c14b0
      try clear c15
      try clear c15b0
      try clear c16
      try clear c16b0
      try clear p2
      try clear p4
      try clear p6
      try clear q4
      obtain ⟨x6_3, rfl, HA, HK3, ⟨m3, rfl⟩⟩ := hrel
      cases gk with
      | zero => exact absurd HA.out (by simp [bindleref01_Text.l1])
      | succ k3 =>
       have H := HA.out
       clear HA
       simp only [bindleref01_Text.l1] at H
       by_cases c17 : x6_3 < x5_4
       ·rw [if_pos c17] at H
        have c17b0 : decide (x6_3 < x5_4) = true := decide_eq_true c17
        clear c17
        obtain ⟨ji18, hji18⟩ : ∃ j_ : Int, (wrap64 (x3_1 + x6_3)) = j_ := ⟨_, rfl⟩
        replace H : (if 0 ≤ (ji18) then (if (ji18) < (a0.size : Int) then (if (bt a0 (ji18)) < 128 then (some false) else (if (bt a0 (ji18)) > 191 then (some false) else (bindleref01_Text.l1 k3 a0 x3_1 (wrap64 (bt a0 x3_1)) x5_4 (wrap64 (x6_3 + 1))))) else (none)) else (none)) = some r := by first | (rw [hji18] at H; exact H) | (simp only [hji18] at H ⊢; exact H)
        have hji18w : (IntKind.i64.wrap (x3_1 + x6_3)) = ji18 := (i64_w _).trans hji18
        by_cases c19 : 0 ≤ (ji18)
        rotate_left
        ·rw [if_neg c19] at H
         exact absurd H (by simp)
        rw [if_pos c19] at H
        have c19b0 : decide (0 ≤ (ji18)) = true := decide_eq_true c19
        clear c19
        by_cases c20 : (ji18) < (a0.size : Int)
        rotate_left
        ·rw [if_neg c20] at H
         exact absurd H (by simp)
        rw [if_pos c20] at H
        have c20b0 : decide ((ji18) < (a0.size : Int)) = true := decide_eq_true c20
        clear c20
        by_cases c22 : (bt a0 (ji18)) < 128
        ·rw [if_pos c22] at H
         have c22b0 : decide ((bt a0 (ji18)) < 128) = true := decide_eq_true c22
         clear c22
         obtain rfl := Option.some.inj H
         have p21 : 0 ≤ ((ji18) : Int) := wd_
         have q21 : (ji18) < (a0.size : Int) := wd_
         have hx21 := bt_at a0 (ji18)
         replace p21 := eq_true p21
         replace q21 := eq_true q21
         go_wp2
         go_ret
         exact ⟨by first | rfl | (simp; done) | (simp only [← hji18] <;> (first | rfl | simp)) | (simp [*]; done), by repeat (first | exact Drawn0.refl _ | apply Drawn0.step)⟩
        rw [if_neg c22] at H
        have c22b0 : decide ((bt a0 (ji18)) < 128) = false := decide_eq_false c22
        clear c22
        by_cases c24 : (bt a0 (ji18)) > 191
        ·rw [if_pos c24] at H
         have c24b0 : decide (191 < (bt a0 (ji18))) = true := decide_eq_true c24
         clear c24
         obtain rfl := Option.some.inj H
         have p21 : 0 ≤ ((ji18) : Int) := wd_
         have q21 : (ji18) < (a0.size : Int) := wd_
         have hx21 := bt_at a0 (ji18)
         replace p21 := eq_true p21
         replace q21 := eq_true q21
         have p23 : 0 ≤ ((ji18) : Int) := wd_
         have q23 : (ji18) < (a0.size : Int) := wd_
         have hx23 := bt_at a0 (ji18)
         replace p23 := eq_true p23
         replace q23 := eq_true q23
         go_wp2
         go_ret
         exact ⟨by first | rfl | (simp; done) | (simp only [← hji18] <;> (first | rfl | simp)) | (simp [*]; done), by repeat (first | exact Drawn0.refl _ | apply Drawn0.step)⟩
        rw [if_neg c24] at H
        have c24b0 : decide (191 < (bt a0 (ji18))) = false := decide_eq_false c24
        clear c24
        have H' := A0_ H
        clear H
        have p21 : 0 ≤ ((ji18) : Int) := wd_
        have q21 : (ji18) < (a0.size : Int) := wd_
        have hx21 := bt_at a0 (ji18)
        replace p21 := eq_true p21
        replace q21 := eq_true q21
        have p23 : 0 ≤ ((ji18) : Int) := wd_
        have q23 : (ji18) < (a0.size : Int) := wd_
        have hx23 := bt_at a0 (ji18)
        replace p23 := eq_true p23
        replace q23 := eq_true q23
        go_wp2
        go_roundg k3
        case measure => have := HK1.out; have := HJ4.out; have := HK3.out; omega
        case rel => exact ⟨(wrap64 (x6_3 + 1)), wr_, H', ⟨by have := HK1.out; have := HJ4.out; have := HK3.out; omega⟩, by repeat (first | exact Drawn0.refl _ | apply Drawn0.step)⟩
       rw [if_neg c17] at H
       have c17b0 : decide (x6_3 < x5_4) = false := decide_eq_false c17
       clear c17
       by_cases c25 : x5_4 = 3
       rotate_left
       ·rw [if_neg c25] at H
        have c25b0 : (x5_4 == 3) = false := beq_eq_false_iff_ne.mpr c25
        have c25b1 : (x5_4 != 3) = true := bne_iff_ne.mpr c25
        by_cases c87 : x5_4 = 4
        rotate_left
        ·rw [if_neg c87] at H
         have c87b0 : (x5_4 == 4) = false := beq_eq_false_iff_ne.mpr c87
         have c87b1 : (x5_4 != 4) = true := bne_iff_ne.mpr c87
         have H' := A0_ H
         clear H
         go_wp2
         go_roundg k3
         case measure => have := HK1.out; have := HJ4.out; have := HK3.out; omega
         case rel => exact ⟨(wrap64 (x3_1 + x5_4)), wr_, H', ⟨by have := HK1.out; have := HJ4.out; have := HK3.out; omega⟩, by repeat (first | exact Drawn0.refl _ | apply Drawn0.step)⟩
        rw [if_pos c87] at H
        have c87b0 : (x5_4 == 4) = true := beq_iff_eq.mpr c87
        have c87b1 : (x5_4 != 4) = false := bne_eq_false_iff_eq.mpr c87
        clear c87
        by_cases c88 : (wrap64 (bt a0 x3_1)) = 240
        rotate_left
        ·rw [if_neg c88] at H
         have c88b0 : ((wrap64 (bt a0 x3_1)) == 240) = false := beq_eq_false_iff_ne.mpr c88
         have c88b1 : ((wrap64 (bt a0 x3_1)) != 240) = true := bne_iff_ne.mpr c88
         by_cases c97 : (wrap64 (bt a0 x3_1)) = 244
         rotate_left
         ·rw [if_neg c97] at H
          have c97b0 : ((wrap64 (bt a0 x3_1)) == 244) = false := beq_eq_false_iff_ne.mpr c97
          have c97b1 : ((wrap64 (bt a0 x3_1)) != 244) = true := bne_iff_ne.mpr c97
          have H' := A0_ H
          clear H
          go_wp2
          go_roundg k3
          case measure => have := HK1.out; have := HJ4.out; have := HK3.out; omega
          case rel => exact ⟨(wrap64 (x3_1 + x5_4)), wr_, H', ⟨by have := HK1.out; have := HJ4.out; have := HK3.out; omega⟩, by repeat (first | exact Drawn0.refl _ | apply Drawn0.step)⟩
         rw [if_pos c97] at H
         have c97b0 : ((wrap64 (bt a0 x3_1)) == 244) = true := beq_iff_eq.mpr c97
         have c97b1 : ((wrap64 (bt a0 x3_1)) != 244) = false := bne_eq_false_iff_eq.mpr c97
         clear c97
         obtain ⟨ji98, hji98⟩ : ∃ j_ : Int, (wrap64 (x3_1 + 1)) = j_ := ⟨_, rfl⟩
         replace H : (if 0 ≤ (ji98) then (if (ji98) < (a0.size : Int) then (if (bt a0 (ji98)) > 143 then (some false) else (bindleref01_Text.l0 k3 a0 (wrap64 (x3_1 + x5_4)))) else (none)) else (none)) = some r := by first | (rw [hji98] at H; exact H) | (simp only [hji98] at H ⊢; exact H)
         have hji98w : (IntKind.i64.wrap (x3_1 + 1)) = ji98 := (i64_w _).trans hji98
         by_cases c99 : 0 ≤ (ji98)
         rotate_left
         ·rw [if_neg c99] at H
          exact absurd H (by simp)
         rw [if_pos c99] at H
         have c99b0 : decide (0 ≤ (ji98)) = true := decide_eq_true c99
         clear c99
         by_cases c100 : (ji98) < (a0.size : Int)
         rotate_left
         ·rw [if_neg c100] at H
          exact absurd H (by simp)
         rw [if_pos c100] at H
         have c100b0 : decide ((ji98) < (a0.size : Int)) = true := decide_eq_true c100
         clear c100
         by_cases c102 : (bt a0 (ji98)) > 143
         ·rw [if_pos c102] at H
          have c102b0 : decide (143 < (bt a0 (ji98))) = true := decide_eq_true c102
          clear c102
          obtain rfl := Option.some.inj H
          have p101 : 0 ≤ ((ji98) : Int) := wd_
          have q101 : (ji98) < (a0.size : Int) := wd_
          have hx101 := bt_at a0 (ji98)
          replace p101 := eq_true p101
          replace q101 := eq_true q101
          go_wp2
          go_ret
          exact ⟨by first | rfl | (simp; done) | (simp only [← hji98] <;> (first | rfl | simp)) | (simp [*]; done), by repeat (first | exact Drawn0.refl _ | apply Drawn0.step)⟩
         rw [if_neg c102] at H
         have c102b0 : decide (143 < (bt a0 (ji98))) = false := decide_eq_false c102
         clear c102
         have H' := A0_ H
         clear H
         have p101 : 0 ≤ ((ji98) : Int) := wd_
         have q101 : (ji98) < (a0.size : Int) := wd_
         have hx101 := bt_at a0 (ji98)
         replace p101 := eq_true p101
         replace q101 := eq_true q101
         go_wp2
         go_roundg k3
         case measure => have := HK1.out; have := HJ4.out; have := HK3.out; omega
         case rel => exact ⟨(wrap64 (x3_1 + x5_4)), wr_, H', ⟨by have := HK1.out; have := HJ4.out; have := HK3.out; omega⟩, by repeat (first | exact Drawn0.refl _ | apply Drawn0.step)⟩
        rw [if_pos c88] at H
        have c88b0 : ((wrap64 (bt a0 x3_1)) == 240) = true := beq_iff_eq.mpr c88
        have c88b1 : ((wrap64 (bt a0 x3_1)) != 240) = false := bne_eq_false_iff_eq.mpr c88
        clear c88
        obtain ⟨ji89, hji89⟩ : ∃ j_ : Int, (wrap64 (x3_1 + 1)) = j_ := ⟨_, rfl⟩
        replace H : (if 0 ≤ (ji89) then (if (ji89) < (a0.size : Int) then (if (bt a0 (ji89)) < 144 then (some false) else (if (wrap64 (bt a0 x3_1)) = 244 then (if (bt a0 (ji89)) > 143 then (some false) else (bindleref01_Text.l0 k3 a0 (wrap64 (x3_1 + x5_4)))) else (bindleref01_Text.l0 k3 a0 (wrap64 (x3_1 + x5_4))))) else (none)) else (none)) = some r := by first | (rw [hji89] at H; exact H) | (simp only [hji89] at H ⊢; exact H)
        have hji89w : (IntKind.i64.wrap (x3_1 + 1)) = ji89 := (i64_w _).trans hji89
        by_cases c90 : 0 ≤ (ji89)
        rotate_left
        ·rw [if_neg c90] at H
         exact absurd H (by simp)
        rw [if_pos c90] at H
        have c90b0 : decide (0 ≤ (ji89)) = true := decide_eq_true c90
        clear c90
        by_cases c91 : (ji89) < (a0.size : Int)
        rotate_left
        ·rw [if_neg c91] at H
         exact absurd H (by simp)
        rw [if_pos c91] at H
        have c91b0 : decide ((ji89) < (a0.size : Int)) = true := decide_eq_true c91
        clear c91
        by_cases c93 : (bt a0 (ji89)) < 144
        ·rw [if_pos c93] at H
         have c93b0 : decide ((bt a0 (ji89)) < 144) = true := decide_eq_true c93
         clear c93
         obtain rfl := Option.some.inj H
         have p92 : 0 ≤ ((ji89) : Int) := wd_
         have q92 : (ji89) < (a0.size : Int) := wd_
         have hx92 := bt_at a0 (ji89)
         replace p92 := eq_true p92
         replace q92 := eq_true q92
         go_wp2
         go_ret
         exact ⟨by first | rfl | (simp; done) | (simp only [← hji89] <;> (first | rfl | simp)) | (simp [*]; done), by repeat (first | exact Drawn0.refl _ | apply Drawn0.step)⟩
        rw [if_neg c93] at H
        have c93b0 : decide ((bt a0 (ji89)) < 144) = false := decide_eq_false c93
        clear c93
        by_cases c94 : (wrap64 (bt a0 x3_1)) = 244
        rotate_left
        ·rw [if_neg c94] at H
         have c94b0 : ((wrap64 (bt a0 x3_1)) == 244) = false := beq_eq_false_iff_ne.mpr c94
         have c94b1 : ((wrap64 (bt a0 x3_1)) != 244) = true := bne_iff_ne.mpr c94
         have H' := A0_ H
         clear H
         have p92 : 0 ≤ ((ji89) : Int) := wd_
         have q92 : (ji89) < (a0.size : Int) := wd_
         have hx92 := bt_at a0 (ji89)
         replace p92 := eq_true p92
         replace q92 := eq_true q92
         go_wp2
         go_roundg k3
         case measure => have := HK1.out; have := HJ4.out; have := HK3.out; omega
         case rel => exact ⟨(wrap64 (x3_1 + x5_4)), wr_, H', ⟨by have := HK1.out; have := HJ4.out; have := HK3.out; omega⟩, by repeat (first | exact Drawn0.refl _ | apply Drawn0.step)⟩
        rw [if_pos c94] at H
        have c94b0 : ((wrap64 (bt a0 x3_1)) == 244) = true := beq_iff_eq.mpr c94
        have c94b1 : ((wrap64 (bt a0 x3_1)) != 244) = false := bne_eq_false_iff_eq.mpr c94
        clear c94
        by_cases c96 : (bt a0 (ji89)) > 143
        ·rw [if_pos c96] at H
         have c96b0 : decide (143 < (bt a0 (ji89))) = true := decide_eq_true c96
         clear c96
         obtain rfl := Option.some.inj H
         have p92 : 0 ≤ ((ji89) : Int) := wd_
         have q92 : (ji89) < (a0.size : Int) := wd_
         have hx92 := bt_at a0 (ji89)
         replace p92 := eq_true p92
         replace q92 := eq_true q92
         have p95 : 0 ≤ ((ji89) : Int) := wd_
         have q95 : (ji89) < (a0.size : Int) := wd_
         have hx95 := bt_at a0 (ji89)
         replace p95 := eq_true p95
         replace q95 := eq_true q95
         go_wp2
         go_ret
         exact ⟨by first | rfl | (simp; done) | (simp only [← hji89] <;> (first | rfl | simp)) | (simp [*]; done), by repeat (first | exact Drawn0.refl _ | apply Drawn0.step)⟩
        rw [if_neg c96] at H
        have c96b0 : decide (143 < (bt a0 (ji89))) = false := decide_eq_false c96
        clear c96
        have H' := A0_ H
        clear H
        have p92 : 0 ≤ ((ji89) : Int) := wd_
        have q92 : (ji89) < (a0.size : Int) := wd_
        have hx92 := bt_at a0 (ji89)
        replace p92 := eq_true p92
        replace q92 := eq_true q92
        have p95 : 0 ≤ ((ji89) : Int) := wd_
        have q95 : (ji89) < (a0.size : Int) := wd_
        have hx95 := bt_at a0 (ji89)
        replace p95 := eq_true p95
        replace q95 := eq_true q95
        go_wp2
        go_roundg k3
        case measure => have := HK1.out; have := HJ4.out; have := HK3.out; omega
        case rel => exact ⟨(wrap64 (x3_1 + x5_4)), wr_, H', ⟨by have := HK1.out; have := HJ4.out; have := HK3.out; omega⟩, by repeat (first | exact Drawn0.refl _ | apply Drawn0.step)⟩
       rw [if_pos c25] at H
       have c25b0 : (x5_4 == 3) = true := beq_iff_eq.mpr c25
       have c25b1 : (x5_4 != 3) = false := bne_eq_false_iff_eq.mpr c25
       clear c25
       by_cases c26 : (wrap64 (bt a0 x3_1)) = 224
       rotate_left
       ·rw [if_neg c26] at H
        have c26b0 : ((wrap64 (bt a0 x3_1)) == 224) = false := beq_eq_false_iff_ne.mpr c26
        have c26b1 : ((wrap64 (bt a0 x3_1)) != 224) = true := bne_iff_ne.mpr c26
        by_cases c55 : (wrap64 (bt a0 x3_1)) = 237
        rotate_left
        ·rw [if_neg c55] at H
         have c55b0 : ((wrap64 (bt a0 x3_1)) == 237) = false := beq_eq_false_iff_ne.mpr c55
         have c55b1 : ((wrap64 (bt a0 x3_1)) != 237) = true := bne_iff_ne.mpr c55
         by_cases c71 : x5_4 = 4
         rotate_left
         ·rw [if_neg c71] at H
          have c71b0 : (x5_4 == 4) = false := beq_eq_false_iff_ne.mpr c71
          have c71b1 : (x5_4 != 4) = true := bne_iff_ne.mpr c71
          have H' := A0_ H
          clear H
          go_wp2
          go_roundg k3
          case measure => have := HK1.out; have := HJ4.out; have := HK3.out; omega
          case rel => exact ⟨(wrap64 (x3_1 + x5_4)), wr_, H', ⟨by have := HK1.out; have := HJ4.out; have := HK3.out; omega⟩, by repeat (first | exact Drawn0.refl _ | apply Drawn0.step)⟩
         rw [if_pos c71] at H
         have c71b0 : (x5_4 == 4) = true := beq_iff_eq.mpr c71
         have c71b1 : (x5_4 != 4) = false := bne_eq_false_iff_eq.mpr c71
         clear c71
         by_cases c72 : (wrap64 (bt a0 x3_1)) = 240
         rotate_left
         ·rw [if_neg c72] at H
          have c72b0 : ((wrap64 (bt a0 x3_1)) == 240) = false := beq_eq_false_iff_ne.mpr c72
          have c72b1 : ((wrap64 (bt a0 x3_1)) != 240) = true := bne_iff_ne.mpr c72
          by_cases c81 : (wrap64 (bt a0 x3_1)) = 244
          rotate_left
          ·rw [if_neg c81] at H
           have c81b0 : ((wrap64 (bt a0 x3_1)) == 244) = false := beq_eq_false_iff_ne.mpr c81
           have c81b1 : ((wrap64 (bt a0 x3_1)) != 244) = true := bne_iff_ne.mpr c81
           have H' := A0_ H
           clear H
           go_wp2
           go_roundg k3
           case measure => have := HK1.out; have := HJ4.out; have := HK3.out; omega
           case rel => exact ⟨(wrap64 (x3_1 + x5_4)), wr_, H', ⟨by have := HK1.out; have := HJ4.out; have := HK3.out; omega⟩, by repeat (first | exact Drawn0.refl _ | apply Drawn0.step)⟩
          rw [if_pos c81] at H
          have c81b0 : ((wrap64 (bt a0 x3_1)) == 244) = true := beq_iff_eq.mpr c81
          have c81b1 : ((wrap64 (bt a0 x3_1)) != 244) = false := bne_eq_false_iff_eq.mpr c81
          clear c81
          obtain ⟨ji82, hji82⟩ : ∃ j_ : Int, (wrap64 (x3_1 + 1)) = j_ := ⟨_, rfl⟩
          replace H : (if 0 ≤ (ji82) then (if (ji82) < (a0.size : Int) then (if (bt a0 (ji82)) > 143 then (some false) else (bindleref01_Text.l0 k3 a0 (wrap64 (x3_1 + x5_4)))) else (none)) else (none)) = some r := by first | (rw [hji82] at H; exact H) | (simp only [hji82] at H ⊢; exact H)
          have hji82w : (IntKind.i64.wrap (x3_1 + 1)) = ji82 := (i64_w _).trans hji82
          by_cases c83 : 0 ≤ (ji82)
          rotate_left
          ·rw [if_neg c83] at H
           exact absurd H (by simp)
          rw [if_pos c83] at H
          have c83b0 : decide (0 ≤ (ji82)) = true := decide_eq_true c83
          clear c83
          by_cases c84 : (ji82) < (a0.size : Int)
          rotate_left
          ·rw [if_neg c84] at H
           exact absurd H (by simp)
          rw [if_pos c84] at H
          have c84b0 : decide ((ji82) < (a0.size : Int)) = true := decide_eq_true c84
          clear c84
          by_cases c86 : (bt a0 (ji82)) > 143
          ·rw [if_pos c86] at H
           have c86b0 : decide (143 < (bt a0 (ji82))) = true := decide_eq_true c86
           clear c86
           obtain rfl := Option.some.inj H
           have p85 : 0 ≤ ((ji82) : Int) := wd_
           have q85 : (ji82) < (a0.size : Int) := wd_
           have hx85 := bt_at a0 (ji82)
           replace p85 := eq_true p85
           replace q85 := eq_true q85
           go_wp2
           go_ret
           exact ⟨by first | rfl | (simp; done) | (simp only [← hji82] <;> (first | rfl | simp)) | (simp [*]; done), by repeat (first | exact Drawn0.refl _ | apply Drawn0.step)⟩
          rw [if_neg c86] at H
          have c86b0 : decide (143 < (bt a0 (ji82))) = false := decide_eq_false c86
          clear c86
          have H' := A0_ H
          clear H
          have p85 : 0 ≤ ((ji82) : Int) := wd_
          have q85 : (ji82) < (a0.size : Int) := wd_
          have hx85 := bt_at a0 (ji82)
          replace p85 := eq_true p85
          replace q85 := eq_true q85
          go_wp2
          go_roundg k3
          case measure => have := HK1.out; have := HJ4.out; have := HK3.out; omega
          case rel => exact ⟨(wrap64 (x3_1 + x5_4)), wr_, H', ⟨by have := HK1.out; have := HJ4.out; have := HK3.out; omega⟩, by repeat (first | exact Drawn0.refl _ | apply Drawn0.step)⟩
         rw [if_pos c72] at H
         have c72b0 : ((wrap64 (bt a0 x3_1)) == 240) = true := beq_iff_eq.mpr c72
         have c72b1 : ((wrap64 (bt a0 x3_1)) != 240) = false := bne_eq_false_iff_eq.mpr c72
         clear c72
         obtain ⟨ji73, hji73⟩ : ∃ j_ : Int, (wrap64 (x3_1 + 1)) = j_ := ⟨_, rfl⟩
         replace H : (if 0 ≤ (ji73) then (if (ji73) < (a0.size : Int) then (if (bt a0 (ji73)) < 144 then (some false) else (if (wrap64 (bt a0 x3_1)) = 244 then (if (bt a0 (ji73)) > 143 then (some false) else (bindleref01_Text.l0 k3 a0 (wrap64 (x3_1 + x5_4)))) else (bindleref01_Text.l0 k3 a0 (wrap64 (x3_1 + x5_4))))) else (none)) else (none)) = some r := by first | (rw [hji73] at H; exact H) | (simp only [hji73] at H ⊢; exact H)
         have hji73w : (IntKind.i64.wrap (x3_1 + 1)) = ji73 := (i64_w _).trans hji73
         by_cases c74 : 0 ≤ (ji73)
         rotate_left
         ·rw [if_neg c74] at H
          exact absurd H (by simp)
         rw [if_pos c74] at H
         have c74b0 : decide (0 ≤ (ji73)) = true := decide_eq_true c74
         clear c74
         by_cases c75 : (ji73) < (a0.size : Int)
         rotate_left
         ·rw [if_neg c75] at H
          exact absurd H (by simp)
         rw [if_pos c75] at H
         have c75b0 : decide ((ji73) < (a0.size : Int)) = true := decide_eq_true c75
         clear c75
         by_cases c77 : (bt a0 (ji73)) < 144
         ·rw [if_pos c77] at H
          have c77b0 : decide ((bt a0 (ji73)) < 144) = true := decide_eq_true c77
          clear c77
          obtain rfl := Option.some.inj H
          have p76 : 0 ≤ ((ji73) : Int) := wd_
          have q76 : (ji73) < (a0.size : Int) := wd_
          have hx76 := bt_at a0 (ji73)
          replace p76 := eq_true p76
          replace q76 := eq_true q76
          go_wp2
          go_ret
          exact ⟨by first | rfl | (simp; done) | (simp only [← hji73] <;> (first | rfl | simp)) | (simp [*]; done), by repeat (first | exact Drawn0.refl _ | apply Drawn0.step)⟩
         rw [if_neg c77] at H
         have c77b0 : decide ((bt a0 (ji73)) < 144) = false := decide_eq_false c77
         clear c77
         by_cases c78 : (wrap64 (bt a0 x3_1)) = 244
         rotate_left
         ·rw [if_neg c78] at H
          have c78b0 : ((wrap64 (bt a0 x3_1)) == 244) = false := beq_eq_false_iff_ne.mpr c78
          have c78b1 : ((wrap64 (bt a0 x3_1)) != 244) = true := bne_iff_ne.mpr c78
          have H' := A0_ H
          clear H
          have p76 : 0 ≤ ((ji73) : Int) := wd_
          have q76 : (ji73) < (a0.size : Int) := wd_
          have hx76 := bt_at a0 (ji73)
          replace p76 := eq_true p76
          replace q76 := eq_true q76
          go_wp2
          go_roundg k3
          case measure => have := HK1.out; have := HJ4.out; have := HK3.out; omega
          case rel => exact ⟨(wrap64 (x3_1 + x5_4)), wr_, H', ⟨by have := HK1.out; have := HJ4.out; have := HK3.out; omega⟩, by repeat (first | exact Drawn0.refl _ | apply Drawn0.step)⟩
         rw [if_pos c78] at H
         have c78b0 : ((wrap64 (bt a0 x3_1)) == 244) = true := beq_iff_eq.mpr c78
         have c78b1 : ((wrap64 (bt a0 x3_1)) != 244) = false := bne_eq_false_iff_eq.mpr c78
         clear c78
         by_cases c80 : (bt a0 (ji73)) > 143
         ·rw [if_pos c80] at H
          have c80b0 : decide (143 < (bt a0 (ji73))) = true := decide_eq_true c80
          clear c80
          obtain rfl := Option.some.inj H
          have p76 : 0 ≤ ((ji73) : Int) := wd_
          have q76 : (ji73) < (a0.size : Int) := wd_
          have hx76 := bt_at a0 (ji73)
          replace p76 := eq_true p76
          replace q76 := eq_true q76
          have p79 : 0 ≤ ((ji73) : Int) := wd_
          have q79 : (ji73) < (a0.size : Int) := wd_
          have hx79 := bt_at a0 (ji73)
          replace p79 := eq_true p79
          replace q79 := eq_true q79
          go_wp2
          go_ret
          exact ⟨by first | rfl | (simp; done) | (simp only [← hji73] <;> (first | rfl | simp)) | (simp [*]; done), by repeat (first | exact Drawn0.refl _ | apply Drawn0.step)⟩
         rw [if_neg c80] at H
         have c80b0 : decide (143 < (bt a0 (ji73))) = false := decide_eq_false c80
         clear c80
         have H' := A0_ H
         clear H
         have p76 : 0 ≤ ((ji73) : Int) := wd_
         have q76 : (ji73) < (a0.size : Int) := wd_
         have hx76 := bt_at a0 (ji73)
         replace p76 := eq_true p76
         replace q76 := eq_true q76
         have p79 : 0 ≤ ((ji73) : Int) := wd_
         have q79 : (ji73) < (a0.size : Int) := wd_
         have hx79 := bt_at a0 (ji73)
         replace p79 := eq_true p79
         replace q79 := eq_true q79
         go_wp2
         go_roundg k3
         case measure => have := HK1.out; have := HJ4.out; have := HK3.out; omega
         case rel => exact ⟨(wrap64 (x3_1 + x5_4)), wr_, H', ⟨by have := HK1.out; have := HJ4.out; have := HK3.out; omega⟩, by repeat (first | exact Drawn0.refl _ | apply Drawn0.step)⟩
        rw [if_pos c55] at H
        have c55b0 : ((wrap64 (bt a0 x3_1)) == 237) = true := beq_iff_eq.mpr c55
        have c55b1 : ((wrap64 (bt a0 x3_1)) != 237) = false := bne_eq_false_iff_eq.mpr c55
        clear c55
        obtain ⟨ji56, hji56⟩ : ∃ j_ : Int, (wrap64 (x3_1 + 1)) = j_ := ⟨_, rfl⟩
        replace H : (if 0 ≤ (ji56) then (if (ji56) < (a0.size : Int) then (if (bt a0 (ji56)) > 159 then (some false) else (if x5_4 = 4 then (if (wrap64 (bt a0 x3_1)) = 240 then (if (bt a0 (ji56)) < 144 then (some false) else (if (wrap64 (bt a0 x3_1)) = 244 then (if (bt a0 (ji56)) > 143 then (some false) else (bindleref01_Text.l0 k3 a0 (wrap64 (x3_1 + x5_4)))) else (bindleref01_Text.l0 k3 a0 (wrap64 (x3_1 + x5_4))))) else (if (wrap64 (bt a0 x3_1)) = 244 then (if (bt a0 (ji56)) > 143 then (some false) else (bindleref01_Text.l0 k3 a0 (wrap64 (x3_1 + x5_4)))) else (bindleref01_Text.l0 k3 a0 (wrap64 (x3_1 + x5_4))))) else (bindleref01_Text.l0 k3 a0 (wrap64 (x3_1 + x5_4))))) else (none)) else (none)) = some r := by first | (rw [hji56] at H; exact H) | (simp only [hji56] at H ⊢; exact H)
        have hji56w : (IntKind.i64.wrap (x3_1 + 1)) = ji56 := (i64_w _).trans hji56
        by_cases c57 : 0 ≤ (ji56)
        rotate_left
        ·rw [if_neg c57] at H
         exact absurd H (by simp)
        rw [if_pos c57] at H
        have c57b0 : decide (0 ≤ (ji56)) = true := decide_eq_true c57
        clear c57
        by_cases c58 : (ji56) < (a0.size : Int)
        rotate_left
        ·rw [if_neg c58] at H
         exact absurd H (by simp)
        rw [if_pos c58] at H
        have c58b0 : decide ((ji56) < (a0.size : Int)) = true := decide_eq_true c58
        clear c58
        by_cases c60 : (bt a0 (ji56)) > 159
        ·rw [if_pos c60] at H
         have c60b0 : decide (159 < (bt a0 (ji56))) = true := decide_eq_true c60
         clear c60
         obtain rfl := Option.some.inj H
         have p59 : 0 ≤ ((ji56) : Int) := wd_
         have q59 : (ji56) < (a0.size : Int) := wd_
         have hx59 := bt_at a0 (ji56)
         replace p59 := eq_true p59
         replace q59 := eq_true q59
         go_wp2
         go_ret
         exact ⟨by first | rfl | (simp; done) | (simp only [← hji56] <;> (first | rfl | simp)) | (simp [*]; done), by repeat (first | exact Drawn0.refl _ | apply Drawn0.step)⟩
        rw [if_neg c60] at H
        have c60b0 : decide (159 < (bt a0 (ji56))) = false := decide_eq_false c60
        clear c60
        by_cases c61 : x5_4 = 4
        rotate_left
        ·rw [if_neg c61] at H
         have c61b0 : (x5_4 == 4) = false := beq_eq_false_iff_ne.mpr c61
         have c61b1 : (x5_4 != 4) = true := bne_iff_ne.mpr c61
         have H' := A0_ H
         clear H
         have p59 : 0 ≤ ((ji56) : Int) := wd_
         have q59 : (ji56) < (a0.size : Int) := wd_
         have hx59 := bt_at a0 (ji56)
         replace p59 := eq_true p59
         replace q59 := eq_true q59
         go_wp2
         go_roundg k3
         case measure => have := HK1.out; have := HJ4.out; have := HK3.out; omega
         case rel => exact ⟨(wrap64 (x3_1 + x5_4)), wr_, H', ⟨by have := HK1.out; have := HJ4.out; have := HK3.out; omega⟩, by repeat (first | exact Drawn0.refl _ | apply Drawn0.step)⟩
        rw [if_pos c61] at H
        have c61b0 : (x5_4 == 4) = true := beq_iff_eq.mpr c61
        have c61b1 : (x5_4 != 4) = false := bne_eq_false_iff_eq.mpr c61
        clear c61
        by_cases c62 : (wrap64 (bt a0 x3_1)) = 240
        rotate_left
        ·rw [if_neg c62] at H
         have c62b0 : ((wrap64 (bt a0 x3_1)) == 240) = false := beq_eq_false_iff_ne.mpr c62
         have c62b1 : ((wrap64 (bt a0 x3_1)) != 240) = true := bne_iff_ne.mpr c62
         by_cases c68 : (wrap64 (bt a0 x3_1)) = 244
         rotate_left
         ·rw [if_neg c68] at H
          have c68b0 : ((wrap64 (bt a0 x3_1)) == 244) = false := beq_eq_false_iff_ne.mpr c68
          have c68b1 : ((wrap64 (bt a0 x3_1)) != 244) = true := bne_iff_ne.mpr c68
          have H' := A0_ H
          clear H
          have p59 : 0 ≤ ((ji56) : Int) := wd_
          have q59 : (ji56) < (a0.size : Int) := wd_
          have hx59 := bt_at a0 (ji56)
          replace p59 := eq_true p59
          replace q59 := eq_true q59
          go_wp2
          go_roundg k3
          case measure => have := HK1.out; have := HJ4.out; have := HK3.out; omega
          case rel => exact ⟨(wrap64 (x3_1 + x5_4)), wr_, H', ⟨by have := HK1.out; have := HJ4.out; have := HK3.out; omega⟩, by repeat (first | exact Drawn0.refl _ | apply Drawn0.step)⟩
         rw [if_pos c68] at H
         have c68b0 : ((wrap64 (bt a0 x3_1)) == 244) = true := beq_iff_eq.mpr c68
         have c68b1 : ((wrap64 (bt a0 x3_1)) != 244) = false := bne_eq_false_iff_eq.mpr c68
         clear c68
         by_cases c70 : (bt a0 (ji56)) > 143
         ·rw [if_pos c70] at H
          have c70b0 : decide (143 < (bt a0 (ji56))) = true := decide_eq_true c70
          clear c70
          obtain rfl := Option.some.inj H
          have p59 : 0 ≤ ((ji56) : Int) := wd_
          have q59 : (ji56) < (a0.size : Int) := wd_
          have hx59 := bt_at a0 (ji56)
          replace p59 := eq_true p59
          replace q59 := eq_true q59
          have p69 : 0 ≤ ((ji56) : Int) := wd_
          have q69 : (ji56) < (a0.size : Int) := wd_
          have hx69 := bt_at a0 (ji56)
          replace p69 := eq_true p69
          replace q69 := eq_true q69
          go_wp2
          go_ret
          exact ⟨by first | rfl | (simp; done) | (simp only [← hji56] <;> (first | rfl | simp)) | (simp [*]; done), by repeat (first | exact Drawn0.refl _ | apply Drawn0.step)⟩
         rw [if_neg c70] at H
         have c70b0 : decide (143 < (bt a0 (ji56))) = false := decide_eq_false c70
         clear c70
         have H' := A0_ H
         clear H
         have p59 : 0 ≤ ((ji56) : Int) := wd_
         have q59 : (ji56) < (a0.size : Int) := wd_
         have hx59 := bt_at a0 (ji56)
         replace p59 := eq_true p59
         replace q59 := eq_true q59
         have p69 : 0 ≤ ((ji56) : Int) := wd_
         have q69 : (ji56) < (a0.size : Int) := wd_
         have hx69 := bt_at a0 (ji56)
         replace p69 := eq_true p69
         replace q69 := eq_true q69
         go_wp2
         go_roundg k3
         case measure => have := HK1.out; have := HJ4.out; have := HK3.out; omega
         case rel => exact ⟨(wrap64 (x3_1 + x5_4)), wr_, H', ⟨by have := HK1.out; have := HJ4.out; have := HK3.out; omega⟩, by repeat (first | exact Drawn0.refl _ | apply Drawn0.step)⟩
        rw [if_pos c62] at H
        have c62b0 : ((wrap64 (bt a0 x3_1)) == 240) = true := beq_iff_eq.mpr c62
        have c62b1 : ((wrap64 (bt a0 x3_1)) != 240) = false := bne_eq_false_iff_eq.mpr c62
        clear c62
        by_cases c64 : (bt a0 (ji56)) < 144
        ·rw [if_pos c64] at H
         have c64b0 : decide ((bt a0 (ji56)) < 144) = true := decide_eq_true c64
         clear c64
         obtain rfl := Option.some.inj H
         have p59 : 0 ≤ ((ji56) : Int) := wd_
         have q59 : (ji56) < (a0.size : Int) := wd_
         have hx59 := bt_at a0 (ji56)
         replace p59 := eq_true p59
         replace q59 := eq_true q59
         have p63 : 0 ≤ ((ji56) : Int) := wd_
         have q63 : (ji56) < (a0.size : Int) := wd_
         have hx63 := bt_at a0 (ji56)
         replace p63 := eq_true p63
         replace q63 := eq_true q63
         go_wp2
         go_ret
         exact ⟨by first | rfl | (simp; done) | (simp only [← hji56] <;> (first | rfl | simp)) | (simp [*]; done), by repeat (first | exact Drawn0.refl _ | apply Drawn0.step)⟩
        rw [if_neg c64] at H
        have c64b0 : decide ((bt a0 (ji56)) < 144) = false := decide_eq_false c64
        clear c64
        by_cases c65 : (wrap64 (bt a0 x3_1)) = 244
        rotate_left
        ·rw [if_neg c65] at H
         have c65b0 : ((wrap64 (bt a0 x3_1)) == 244) = false := beq_eq_false_iff_ne.mpr c65
         have c65b1 : ((wrap64 (bt a0 x3_1)) != 244) = true := bne_iff_ne.mpr c65
         have H' := A0_ H
         clear H
         have p59 : 0 ≤ ((ji56) : Int) := wd_
         have q59 : (ji56) < (a0.size : Int) := wd_
         have hx59 := bt_at a0 (ji56)
         replace p59 := eq_true p59
         replace q59 := eq_true q59
         have p63 : 0 ≤ ((ji56) : Int) := wd_
         have q63 : (ji56) < (a0.size : Int) := wd_
         have hx63 := bt_at a0 (ji56)
         replace p63 := eq_true p63
         replace q63 := eq_true q63
         go_wp2
         go_roundg k3
         case measure => have := HK1.out; have := HJ4.out; have := HK3.out; omega
         case rel => exact ⟨(wrap64 (x3_1 + x5_4)), wr_, H', ⟨by have := HK1.out; have := HJ4.out; have := HK3.out; omega⟩, by repeat (first | exact Drawn0.refl _ | apply Drawn0.step)⟩
        rw [if_pos c65] at H
        have c65b0 : ((wrap64 (bt a0 x3_1)) == 244) = true := beq_iff_eq.mpr c65
        have c65b1 : ((wrap64 (bt a0 x3_1)) != 244) = false := bne_eq_false_iff_eq.mpr c65
        clear c65
        by_cases c67 : (bt a0 (ji56)) > 143
        ·rw [if_pos c67] at H
         have c67b0 : decide (143 < (bt a0 (ji56))) = true := decide_eq_true c67
         clear c67
         obtain rfl := Option.some.inj H
         have p59 : 0 ≤ ((ji56) : Int) := wd_
         have q59 : (ji56) < (a0.size : Int) := wd_
         have hx59 := bt_at a0 (ji56)
         replace p59 := eq_true p59
         replace q59 := eq_true q59
         have p63 : 0 ≤ ((ji56) : Int) := wd_
         have q63 : (ji56) < (a0.size : Int) := wd_
         have hx63 := bt_at a0 (ji56)
         replace p63 := eq_true p63
         replace q63 := eq_true q63
         have p66 : 0 ≤ ((ji56) : Int) := wd_
         have q66 : (ji56) < (a0.size : Int) := wd_
         have hx66 := bt_at a0 (ji56)
         replace p66 := eq_true p66
         replace q66 := eq_true q66
         go_wp2
         go_ret
         exact ⟨by first | rfl | (simp; done) | (simp only [← hji56] <;> (first | rfl | simp)) | (simp [*]; done), by repeat (first | exact Drawn0.refl _ | apply Drawn0.step)⟩
        rw [if_neg c67] at H
        have c67b0 : decide (143 < (bt a0 (ji56))) = false := decide_eq_false c67
        clear c67
        have H' := A0_ H
        clear H
        have p59 : 0 ≤ ((ji56) : Int) := wd_
        have q59 : (ji56) < (a0.size : Int) := wd_
        have hx59 := bt_at a0 (ji56)
        replace p59 := eq_true p59
        replace q59 := eq_true q59
        have p63 : 0 ≤ ((ji56) : Int) := wd_
        have q63 : (ji56) < (a0.size : Int) := wd_
        have hx63 := bt_at a0 (ji56)
        replace p63 := eq_true p63
        replace q63 := eq_true q63
        have p66 : 0 ≤ ((ji56) : Int) := wd_
        have q66 : (ji56) < (a0.size : Int) := wd_
        have hx66 := bt_at a0 (ji56)
        replace p66 := eq_true p66
        replace q66 := eq_true q66
        go_wp2
        go_roundg k3
        case measure => have := HK1.out; have := HJ4.out; have := HK3.out; omega
        case rel => exact ⟨(wrap64 (x3_1 + x5_4)), wr_, H', ⟨by have := HK1.out; have := HJ4.out; have := HK3.out; omega⟩, by repeat (first | exact Drawn0.refl _ | apply Drawn0.step)⟩
       rw [if_pos c26] at H
       have c26b0 : ((wrap64 (bt a0 x3_1)) == 224) = true := beq_iff_eq.mpr c26
       have c26b1 : ((wrap64 (bt a0 x3_1)) != 224) = false := bne_eq_false_iff_eq.mpr c26
       clear c26
       obtain ⟨ji27, hji27⟩ : ∃ j_ : Int, (wrap64 (x3_1 + 1)) = j_ := ⟨_, rfl⟩
       replace H : (if 0 ≤ (ji27) then (if (ji27) < (a0.size : Int) then (if (bt a0 (ji27)) < 160 then (some false) else (if (wrap64 (bt a0 x3_1)) = 237 then (if (bt a0 (ji27)) > 159 then (some false) else (if x5_4 = 4 then (if (wrap64 (bt a0 x3_1)) = 240 then (if (bt a0 (ji27)) < 144 then (some false) else (if (wrap64 (bt a0 x3_1)) = 244 then (if (bt a0 (ji27)) > 143 then (some false) else (bindleref01_Text.l0 k3 a0 (wrap64 (x3_1 + x5_4)))) else (bindleref01_Text.l0 k3 a0 (wrap64 (x3_1 + x5_4))))) else (if (wrap64 (bt a0 x3_1)) = 244 then (if (bt a0 (ji27)) > 143 then (some false) else (bindleref01_Text.l0 k3 a0 (wrap64 (x3_1 + x5_4)))) else (bindleref01_Text.l0 k3 a0 (wrap64 (x3_1 + x5_4))))) else (bindleref01_Text.l0 k3 a0 (wrap64 (x3_1 + x5_4))))) else (if x5_4 = 4 then (if (wrap64 (bt a0 x3_1)) = 240 then (if (bt a0 (ji27)) < 144 then (some false) else (if (wrap64 (bt a0 x3_1)) = 244 then (if (bt a0 (ji27)) > 143 then (some false) else (bindleref01_Text.l0 k3 a0 (wrap64 (x3_1 + x5_4)))) else (bindleref01_Text.l0 k3 a0 (wrap64 (x3_1 + x5_4))))) else (if (wrap64 (bt a0 x3_1)) = 244 then (if (bt a0 (ji27)) > 143 then (some false) else (bindleref01_Text.l0 k3 a0 (wrap64 (x3_1 + x5_4)))) else (bindleref01_Text.l0 k3 a0 (wrap64 (x3_1 + x5_4))))) else (bindleref01_Text.l0 k3 a0 (wrap64 (x3_1 + x5_4)))))) else (none)) else (none)) = some r := by first | (rw [hji27] at H; exact H) | (simp only [hji27] at H ⊢; exact H)
       have hji27w : (IntKind.i64.wrap (x3_1 + 1)) = ji27 := (i64_w _).trans hji27
       by_cases c28 : 0 ≤ (ji27)
       rotate_left
       ·rw [if_neg c28] at H
        exact absurd H (by simp)
       rw [if_pos c28] at H
       have c28b0 : decide (0 ≤ (ji27)) = true := decide_eq_true c28
       clear c28
       by_cases c29 : (ji27) < (a0.size : Int)
       rotate_left
       ·rw [if_neg c29] at H
        exact absurd H (by simp)
       rw [if_pos c29] at H
       have c29b0 : decide ((ji27) < (a0.size : Int)) = true := decide_eq_true c29
       clear c29
       by_cases c31 : (bt a0 (ji27)) < 160
       ·rw [if_pos c31] at H
        have c31b0 : decide ((bt a0 (ji27)) < 160) = true := decide_eq_true c31
        clear c31
        obtain rfl := Option.some.inj H
        have p30 : 0 ≤ ((ji27) : Int) := wd_
        have q30 : (ji27) < (a0.size : Int) := wd_
        have hx30 := bt_at a0 (ji27)
        replace p30 := eq_true p30
        replace q30 := eq_true q30
        go_wp2
        go_ret
        exact ⟨by first | rfl | (simp; done) | (simp only [← hji27] <;> (first | rfl | simp)) | (simp [*]; done), by repeat (first | exact Drawn0.refl _ | apply Drawn0.step)⟩
       rw [if_neg c31] at H
       have c31b0 : decide ((bt a0 (ji27)) < 160) = false := decide_eq_false c31
       clear c31
       by_cases c32 : (wrap64 (bt a0 x3_1)) = 237
       rotate_left
       ·rw [if_neg c32] at H
        have c32b0 : ((wrap64 (bt a0 x3_1)) == 237) = false := beq_eq_false_iff_ne.mpr c32
        have c32b1 : ((wrap64 (bt a0 x3_1)) != 237) = true := bne_iff_ne.mpr c32
        by_cases c45 : x5_4 = 4
        rotate_left
        ·rw [if_neg c45] at H
         have c45b0 : (x5_4 == 4) = false := beq_eq_false_iff_ne.mpr c45
         have c45b1 : (x5_4 != 4) = true := bne_iff_ne.mpr c45
         have H' := A0_ H
         clear H
         have p30 : 0 ≤ ((ji27) : Int) := wd_
         have q30 : (ji27) < (a0.size : Int) := wd_
         have hx30 := bt_at a0 (ji27)
         replace p30 := eq_true p30
         replace q30 := eq_true q30
         go_wp2
         go_roundg k3
         case measure => have := HK1.out; have := HJ4.out; have := HK3.out; omega
         case rel => exact ⟨(wrap64 (x3_1 + x5_4)), wr_, H', ⟨by have := HK1.out; have := HJ4.out; have := HK3.out; omega⟩, by repeat (first | exact Drawn0.refl _ | apply Drawn0.step)⟩
        rw [if_pos c45] at H
        have c45b0 : (x5_4 == 4) = true := beq_iff_eq.mpr c45
        have c45b1 : (x5_4 != 4) = false := bne_eq_false_iff_eq.mpr c45
        clear c45
        by_cases c46 : (wrap64 (bt a0 x3_1)) = 240
        rotate_left
        ·rw [if_neg c46] at H
         have c46b0 : ((wrap64 (bt a0 x3_1)) == 240) = false := beq_eq_false_iff_ne.mpr c46
         have c46b1 : ((wrap64 (bt a0 x3_1)) != 240) = true := bne_iff_ne.mpr c46
         by_cases c52 : (wrap64 (bt a0 x3_1)) = 244
         rotate_left
         ·rw [if_neg c52] at H
          have c52b0 : ((wrap64 (bt a0 x3_1)) == 244) = false := beq_eq_false_iff_ne.mpr c52
          have c52b1 : ((wrap64 (bt a0 x3_1)) != 244) = true := bne_iff_ne.mpr c52
          have H' := A0_ H
          clear H
          have p30 : 0 ≤ ((ji27) : Int) := wd_
          have q30 : (ji27) < (a0.size : Int) := wd_
          have hx30 := bt_at a0 (ji27)
          replace p30 := eq_true p30
          replace q30 := eq_true q30
          go_wp2
          go_roundg k3
          case measure => have := HK1.out; have := HJ4.out; have := HK3.out; omega
          case rel => exact ⟨(wrap64 (x3_1 + x5_4)), wr_, H', ⟨by have := HK1.out; have := HJ4.out; have := HK3.out; omega⟩, by repeat (first | exact Drawn0.refl _ | apply Drawn0.step)⟩
         rw [if_pos c52] at H
         have c52b0 : ((wrap64 (bt a0 x3_1)) == 244) = true := beq_iff_eq.mpr c52
         have c52b1 : ((wrap64 (bt a0 x3_1)) != 244) = false := bne_eq_false_iff_eq.mpr c52
         clear c52
         by_cases c54 : (bt a0 (ji27)) > 143
         ·rw [if_pos c54] at H
          have c54b0 : decide (143 < (bt a0 (ji27))) = true := decide_eq_true c54
          clear c54
          obtain rfl := Option.some.inj H
          have p30 : 0 ≤ ((ji27) : Int) := wd_
          have q30 : (ji27) < (a0.size : Int) := wd_
          have hx30 := bt_at a0 (ji27)
          replace p30 := eq_true p30
          replace q30 := eq_true q30
          have p53 : 0 ≤ ((ji27) : Int) := wd_
          have q53 : (ji27) < (a0.size : Int) := wd_
          have hx53 := bt_at a0 (ji27)
          replace p53 := eq_true p53
          replace q53 := eq_true q53
          go_wp2
          go_ret
          exact ⟨by first | rfl | (simp; done) | (simp only [← hji27] <;> (first | rfl | simp)) | (simp [*]; done), by repeat (first | exact Drawn0.refl _ | apply Drawn0.step)⟩
         rw [if_neg c54] at H
         have c54b0 : decide (143 < (bt a0 (ji27))) = false := decide_eq_false c54
         clear c54
         have H' := A0_ H
         clear H
         have p30 : 0 ≤ ((ji27) : Int) := wd_
         have q30 : (ji27) < (a0.size : Int) := wd_
         have hx30 := bt_at a0 (ji27)
         replace p30 := eq_true p30
         replace q30 := eq_true q30
         have p53 : 0 ≤ ((ji27) : Int) := wd_
         have q53 : (ji27) < (a0.size : Int) := wd_
         have hx53 := bt_at a0 (ji27)
         replace p53 := eq_true p53
         replace q53 := eq_true q53
         go_wp2
         go_roundg k3
         case measure => have := HK1.out; have := HJ4.out; have := HK3.out; omega
         case rel => exact ⟨(wrap64 (x3_1 + x5_4)), wr_, H', ⟨by have := HK1.out; have := HJ4.out; have := HK3.out; omega⟩, by repeat (first | exact Drawn0.refl _ | apply Drawn0.step)⟩
        rw [if_pos c46] at H
        have c46b0 : ((wrap64 (bt a0 x3_1)) == 240) = true := beq_iff_eq.mpr c46
        have c46b1 : ((wrap64 (bt a0 x3_1)) != 240) = false := bne_eq_false_iff_eq.mpr c46
        clear c46
        by_cases c48 : (bt a0 (ji27)) < 144
        ·rw [if_pos c48] at H
         have c48b0 : decide ((bt a0 (ji27)) < 144) = true := decide_eq_true c48
         clear c48
         obtain rfl := Option.some.inj H
         have p30 : 0 ≤ ((ji27) : Int) := wd_
         have q30 : (ji27) < (a0.size : Int) := wd_
         have hx30 := bt_at a0 (ji27)
         replace p30 := eq_true p30
         replace q30 := eq_true q30
         have p47 : 0 ≤ ((ji27) : Int) := wd_
         have q47 : (ji27) < (a0.size : Int) := wd_
         have hx47 := bt_at a0 (ji27)
         replace p47 := eq_true p47
         replace q47 := eq_true q47
         go_wp2
         go_ret
         exact ⟨by first | rfl | (simp; done) | (simp only [← hji27] <;> (first | rfl | simp)) | (simp [*]; done), by repeat (first | exact Drawn0.refl _ | apply Drawn0.step)⟩
        rw [if_neg c48] at H
        have c48b0 : decide ((bt a0 (ji27)) < 144) = false := decide_eq_false c48
        clear c48
        by_cases c49 : (wrap64 (bt a0 x3_1)) = 244
        rotate_left
        ·rw [if_neg c49] at H
         have c49b0 : ((wrap64 (bt a0 x3_1)) == 244) = false := beq_eq_false_iff_ne.mpr c49
         have c49b1 : ((wrap64 (bt a0 x3_1)) != 244) = true := bne_iff_ne.mpr c49
         have H' := A0_ H
         clear H
         have p30 : 0 ≤ ((ji27) : Int) := wd_
         have q30 : (ji27) < (a0.size : Int) := wd_
         have hx30 := bt_at a0 (ji27)
         replace p30 := eq_true p30
         replace q30 := eq_true q30
         have p47 : 0 ≤ ((ji27) : Int) := wd_
         have q47 : (ji27) < (a0.size : Int) := wd_
         have hx47 := bt_at a0 (ji27)
         replace p47 := eq_true p47
         replace q47 := eq_true q47
         go_wp2
         go_roundg k3
         case measure => have := HK1.out; have := HJ4.out; have := HK3.out; omega
         case rel => exact ⟨(wrap64 (x3_1 + x5_4)), wr_, H', ⟨by have := HK1.out; have := HJ4.out; have := HK3.out; omega⟩, by repeat (first | exact Drawn0.refl _ | apply Drawn0.step)⟩
        rw [if_pos c49] at H
        have c49b0 : ((wrap64 (bt a0 x3_1)) == 244) = true := beq_iff_eq.mpr c49
        have c49b1 : ((wrap64 (bt a0 x3_1)) != 244) = false := bne_eq_false_iff_eq.mpr c49
        clear c49
        by_cases c51 : (bt a0 (ji27)) > 143
        ·rw [if_pos c51] at H
         have c51b0 : decide (143 < (bt a0 (ji27))) = true := decide_eq_true c51
         clear c51
         obtain rfl := Option.some.inj H
         have p30 : 0 ≤ ((ji27) : Int) := wd_
         have q30 : (ji27) < (a0.size : Int) := wd_
         have hx30 := bt_at a0 (ji27)
         replace p30 := eq_true p30
         replace q30 := eq_true q30
         have p47 : 0 ≤ ((ji27) : Int) := wd_
         have q47 : (ji27) < (a0.size : Int) := wd_
         have hx47 := bt_at a0 (ji27)
         replace p47 := eq_true p47
         replace q47 := eq_true q47
         have p50 : 0 ≤ ((ji27) : Int) := wd_
         have q50 : (ji27) < (a0.size : Int) := wd_
         have hx50 := bt_at a0 (ji27)
         replace p50 := eq_true p50
         replace q50 := eq_true q50
         go_wp2
         go_ret
         exact ⟨by first | rfl | (simp; done) | (simp only [← hji27] <;> (first | rfl | simp)) | (simp [*]; done), by repeat (first | exact Drawn0.refl _ | apply Drawn0.step)⟩
        rw [if_neg c51] at H
        have c51b0 : decide (143 < (bt a0 (ji27))) = false := decide_eq_false c51
        clear c51
        have H' := A0_ H
        clear H
        have p30 : 0 ≤ ((ji27) : Int) := wd_
        have q30 : (ji27) < (a0.size : Int) := wd_
        have hx30 := bt_at a0 (ji27)
        replace p30 := eq_true p30
        replace q30 := eq_true q30
        have p47 : 0 ≤ ((ji27) : Int) := wd_
        have q47 : (ji27) < (a0.size : Int) := wd_
        have hx47 := bt_at a0 (ji27)
        replace p47 := eq_true p47
        replace q47 := eq_true q47
        have p50 : 0 ≤ ((ji27) : Int) := wd_
        have q50 : (ji27) < (a0.size : Int) := wd_
        have hx50 := bt_at a0 (ji27)
        replace p50 := eq_true p50
        replace q50 := eq_true q50
        go_wp2
        go_roundg k3
        case measure => have := HK1.out; have := HJ4.out; have := HK3.out; omega
        case rel => exact ⟨(wrap64 (x3_1 + x5_4)), wr_, H', ⟨by have := HK1.out; have := HJ4.out; have := HK3.out; omega⟩, by repeat (first | exact Drawn0.refl _ | apply Drawn0.step)⟩
       rw [if_pos c32] at H
       have c32b0 : ((wrap64 (bt a0 x3_1)) == 237) = true := beq_iff_eq.mpr c32
       have c32b1 : ((wrap64 (bt a0 x3_1)) != 237) = false := bne_eq_false_iff_eq.mpr c32
       clear c32
       by_cases c34 : (bt a0 (ji27)) > 159
       ·rw [if_pos c34] at H
        have c34b0 : decide (159 < (bt a0 (ji27))) = true := decide_eq_true c34
        clear c34
        obtain rfl := Option.some.inj H
        have p30 : 0 ≤ ((ji27) : Int) := wd_
        have q30 : (ji27) < (a0.size : Int) := wd_
        have hx30 := bt_at a0 (ji27)
        replace p30 := eq_true p30
        replace q30 := eq_true q30
        have p33 : 0 ≤ ((ji27) : Int) := wd_
        have q33 : (ji27) < (a0.size : Int) := wd_
        have hx33 := bt_at a0 (ji27)
        replace p33 := eq_true p33
        replace q33 := eq_true q33
        go_wp2
        go_ret
        exact ⟨by first | rfl | (simp; done) | (simp only [← hji27] <;> (first | rfl | simp)) | (simp [*]; done), by repeat (first | exact Drawn0.refl _ | apply Drawn0.step)⟩
       rw [if_neg c34] at H
       have c34b0 : decide (159 < (bt a0 (ji27))) = false := decide_eq_false c34
       clear c34
       by_cases c35 : x5_4 = 4
       rotate_left
       ·rw [if_neg c35] at H
        have c35b0 : (x5_4 == 4) = false := beq_eq_false_iff_ne.mpr c35
        have c35b1 : (x5_4 != 4) = true := bne_iff_ne.mpr c35
        have H' := A0_ H
        clear H
        have p30 : 0 ≤ ((ji27) : Int) := wd_
        have q30 : (ji27) < (a0.size : Int) := wd_
        have hx30 := bt_at a0 (ji27)
        replace p30 := eq_true p30
        replace q30 := eq_true q30
        have p33 : 0 ≤ ((ji27) : Int) := wd_
        have q33 : (ji27) < (a0.size : Int) := wd_
        have hx33 := bt_at a0 (ji27)
        replace p33 := eq_true p33
        replace q33 := eq_true q33
        go_wp2
        go_roundg k3
        case measure => have := HK1.out; have := HJ4.out; have := HK3.out; omega
        case rel => exact ⟨(wrap64 (x3_1 + x5_4)), wr_, H', ⟨by have := HK1.out; have := HJ4.out; have := HK3.out; omega⟩, by repeat (first | exact Drawn0.refl _ | apply Drawn0.step)⟩
       rw [if_pos c35] at H
       have c35b0 : (x5_4 == 4) = true := beq_iff_eq.mpr c35
       have c35b1 : (x5_4 != 4) = false := bne_eq_false_iff_eq.mpr c35
       clear c35
       by_cases c36 : (wrap64 (bt a0 x3_1)) = 240
       rotate_left
       ·rw [if_neg c36] at H
        have c36b0 : ((wrap64 (bt a0 x3_1)) == 240) = false := beq_eq_false_iff_ne.mpr c36
        have c36b1 : ((wrap64 (bt a0 x3_1)) != 240) = true := bne_iff_ne.mpr c36
        by_cases c42 : (wrap64 (bt a0 x3_1)) = 244
        rotate_left
        ·rw [if_neg c42] at H
         have c42b0 : ((wrap64 (bt a0 x3_1)) == 244) = false := beq_eq_false_iff_ne.mpr c42
         have c42b1 : ((wrap64 (bt a0 x3_1)) != 244) = true := bne_iff_ne.mpr c42
         have H' := A0_ H
         clear H
         have p30 : 0 ≤ ((ji27) : Int) := wd_
         have q30 : (ji27) < (a0.size : Int) := wd_
         have hx30 := bt_at a0 (ji27)
         replace p30 := eq_true p30
         replace q30 := eq_true q30
         have p33 : 0 ≤ ((ji27) : Int) := wd_
         have q33 : (ji27) < (a0.size : Int) := wd_
         have hx33 := bt_at a0 (ji27)
         replace p33 := eq_true p33
         replace q33 := eq_true q33
         go_wp2
         go_roundg k3
         case measure => have := HK1.out; have := HJ4.out; have := HK3.out; omega
         case rel => exact ⟨(wrap64 (x3_1 + x5_4)), wr_, H', ⟨by have := HK1.out; have := HJ4.out; have := HK3.out; omega⟩, by repeat (first | exact Drawn0.refl _ | apply Drawn0.step)⟩
        rw [if_pos c42] at H
        have c42b0 : ((wrap64 (bt a0 x3_1)) == 244) = true := beq_iff_eq.mpr c42
        have c42b1 : ((wrap64 (bt a0 x3_1)) != 244) = false := bne_eq_false_iff_eq.mpr c42
        clear c42
        by_cases c44 : (bt a0 (ji27)) > 143
        ·rw [if_pos c44] at H
         have c44b0 : decide (143 < (bt a0 (ji27))) = true := decide_eq_true c44
         clear c44
         obtain rfl := Option.some.inj H
         have p30 : 0 ≤ ((ji27) : Int) := wd_
         have q30 : (ji27) < (a0.size : Int) := wd_
         have hx30 := bt_at a0 (ji27)
         replace p30 := eq_true p30
         replace q30 := eq_true q30
         have p33 : 0 ≤ ((ji27) : Int) := wd_
         have q33 : (ji27) < (a0.size : Int) := wd_
         have hx33 := bt_at a0 (ji27)
         replace p33 := eq_true p33
         replace q33 := eq_true q33
         have p43 : 0 ≤ ((ji27) : Int) := wd_
         have q43 : (ji27) < (a0.size : Int) := wd_
         have hx43 := bt_at a0 (ji27)
         replace p43 := eq_true p43
         replace q43 := eq_true q43
         go_wp2
         go_ret
         exact ⟨by first | rfl | (simp; done) | (simp only [← hji27] <;> (first | rfl | simp)) | (simp [*]; done), by repeat (first | exact Drawn0.refl _ | apply Drawn0.step)⟩
        rw [if_neg c44] at H
        have c44b0 : decide (143 < (bt a0 (ji27))) = false := decide_eq_false c44
        clear c44
        have H' := A0_ H
        clear H
        have p30 : 0 ≤ ((ji27) : Int) := wd_
        have q30 : (ji27) < (a0.size : Int) := wd_
        have hx30 := bt_at a0 (ji27)
        replace p30 := eq_true p30
        replace q30 := eq_true q30
        have p33 : 0 ≤ ((ji27) : Int) := wd_
        have q33 : (ji27) < (a0.size : Int) := wd_
        have hx33 := bt_at a0 (ji27)
        replace p33 := eq_true p33
        replace q33 := eq_true q33
        have p43 : 0 ≤ ((ji27) : Int) := wd_
        have q43 : (ji27) < (a0.size : Int) := wd_
        have hx43 := bt_at a0 (ji27)
        replace p43 := eq_true p43
        replace q43 := eq_true q43
        go_wp2
        go_roundg k3
        case measure => have := HK1.out; have := HJ4.out; have := HK3.out; omega
        case rel => exact ⟨(wrap64 (x3_1 + x5_4)), wr_, H', ⟨by have := HK1.out; have := HJ4.out; have := HK3.out; omega⟩, by repeat (first | exact Drawn0.refl _ | apply Drawn0.step)⟩
       rw [if_pos c36] at H
       have c36b0 : ((wrap64 (bt a0 x3_1)) == 240) = true := beq_iff_eq.mpr c36
       have c36b1 : ((wrap64 (bt a0 x3_1)) != 240) = false := bne_eq_false_iff_eq.mpr c36
       clear c36
       by_cases c38 : (bt a0 (ji27)) < 144
       ·rw [if_pos c38] at H
        have c38b0 : decide ((bt a0 (ji27)) < 144) = true := decide_eq_true c38
        clear c38
        obtain rfl := Option.some.inj H
        have p30 : 0 ≤ ((ji27) : Int) := wd_
        have q30 : (ji27) < (a0.size : Int) := wd_
        have hx30 := bt_at a0 (ji27)
        replace p30 := eq_true p30
        replace q30 := eq_true q30
        have p33 : 0 ≤ ((ji27) : Int) := wd_
        have q33 : (ji27) < (a0.size : Int) := wd_
        have hx33 := bt_at a0 (ji27)
        replace p33 := eq_true p33
        replace q33 := eq_true q33
        have p37 : 0 ≤ ((ji27) : Int) := wd_
        have q37 : (ji27) < (a0.size : Int) := wd_
        have hx37 := bt_at a0 (ji27)
        replace p37 := eq_true p37
        replace q37 := eq_true q37
        go_wp2
        go_ret
        exact ⟨by first | rfl | (simp; done) | (simp only [← hji27] <;> (first | rfl | simp)) | (simp [*]; done), by repeat (first | exact Drawn0.refl _ | apply Drawn0.step)⟩
       rw [if_neg c38] at H
       have c38b0 : decide ((bt a0 (ji27)) < 144) = false := decide_eq_false c38
       clear c38
       by_cases c39 : (wrap64 (bt a0 x3_1)) = 244
       rotate_left
       ·rw [if_neg c39] at H
        have c39b0 : ((wrap64 (bt a0 x3_1)) == 244) = false := beq_eq_false_iff_ne.mpr c39
        have c39b1 : ((wrap64 (bt a0 x3_1)) != 244) = true := bne_iff_ne.mpr c39
        have H' := A0_ H
        clear H
        have p30 : 0 ≤ ((ji27) : Int) := wd_
        have q30 : (ji27) < (a0.size : Int) := wd_
        have hx30 := bt_at a0 (ji27)
        replace p30 := eq_true p30
        replace q30 := eq_true q30
        have p33 : 0 ≤ ((ji27) : Int) := wd_
        have q33 : (ji27) < (a0.size : Int) := wd_
        have hx33 := bt_at a0 (ji27)
        replace p33 := eq_true p33
        replace q33 := eq_true q33
        have p37 : 0 ≤ ((ji27) : Int) := wd_
        have q37 : (ji27) < (a0.size : Int) := wd_
        have hx37 := bt_at a0 (ji27)
        replace p37 := eq_true p37
        replace q37 := eq_true q37
        go_wp2
        go_roundg k3
        case measure => have := HK1.out; have := HJ4.out; have := HK3.out; omega
        case rel => exact ⟨(wrap64 (x3_1 + x5_4)), wr_, H', ⟨by have := HK1.out; have := HJ4.out; have := HK3.out; omega⟩, by repeat (first | exact Drawn0.refl _ | apply Drawn0.step)⟩
       rw [if_pos c39] at H
       have c39b0 : ((wrap64 (bt a0 x3_1)) == 244) = true := beq_iff_eq.mpr c39
       have c39b1 : ((wrap64 (bt a0 x3_1)) != 244) = false := bne_eq_false_iff_eq.mpr c39
       clear c39
       by_cases c41 : (bt a0 (ji27)) > 143
       ·rw [if_pos c41] at H
        have c41b0 : decide (143 < (bt a0 (ji27))) = true := decide_eq_true c41
        clear c41
        obtain rfl := Option.some.inj H
        have p30 : 0 ≤ ((ji27) : Int) := wd_
        have q30 : (ji27) < (a0.size : Int) := wd_
        have hx30 := bt_at a0 (ji27)
        replace p30 := eq_true p30
        replace q30 := eq_true q30
        have p33 : 0 ≤ ((ji27) : Int) := wd_
        have q33 : (ji27) < (a0.size : Int) := wd_
        have hx33 := bt_at a0 (ji27)
        replace p33 := eq_true p33
        replace q33 := eq_true q33
        have p37 : 0 ≤ ((ji27) : Int) := wd_
        have q37 : (ji27) < (a0.size : Int) := wd_
        have hx37 := bt_at a0 (ji27)
        replace p37 := eq_true p37
        replace q37 := eq_true q37
        have p40 : 0 ≤ ((ji27) : Int) := wd_
        have q40 : (ji27) < (a0.size : Int) := wd_
        have hx40 := bt_at a0 (ji27)
        replace p40 := eq_true p40
        replace q40 := eq_true q40
        go_wp2
        go_ret
        exact ⟨by first | rfl | (simp; done) | (simp only [← hji27] <;> (first | rfl | simp)) | (simp [*]; done), by repeat (first | exact Drawn0.refl _ | apply Drawn0.step)⟩
       rw [if_neg c41] at H
       have c41b0 : decide (143 < (bt a0 (ji27))) = false := decide_eq_false c41
       clear c41
       have H' := A0_ H
       clear H
       have p30 : 0 ≤ ((ji27) : Int) := wd_
       have q30 : (ji27) < (a0.size : Int) := wd_
       have hx30 := bt_at a0 (ji27)
       replace p30 := eq_true p30
       replace q30 := eq_true q30
       have p33 : 0 ≤ ((ji27) : Int) := wd_
       have q33 : (ji27) < (a0.size : Int) := wd_
       have hx33 := bt_at a0 (ji27)
       replace p33 := eq_true p33
       replace q33 := eq_true q33
       have p37 : 0 ≤ ((ji27) : Int) := wd_
       have q37 : (ji27) < (a0.size : Int) := wd_
       have hx37 := bt_at a0 (ji27)
       replace p37 := eq_true p37
       replace q37 := eq_true q37
       have p40 : 0 ≤ ((ji27) : Int) := wd_
       have q40 : (ji27) < (a0.size : Int) := wd_
       have hx40 := bt_at a0 (ji27)
       replace p40 := eq_true p40
       replace q40 := eq_true q40
       go_wp2
       go_roundg k3
       case measure => have := HK1.out; have := HJ4.out; have := HK3.out; omega
       case rel => exact ⟨(wrap64 (x3_1 + x5_4)), wr_, H', ⟨by have := HK1.out; have := HJ4.out; have := HK3.out; omega⟩, by repeat (first | exact Drawn0.refl _ | apply Drawn0.step)⟩
end Go.Proofs.YtbngbefchobfnaaGreatDoor.Print

namespace Go.Proofs.YtbngbefchobfnaaGreatDoor
open Go.RowKit Go.Proofs.YtbngbefchobfnaaGreatDoor.Print Go.Proofs.YtbngbefchobfnaaGreatDoorW.PrintWords
theorem bt_getD (s : ByteArray) (i : Nat) : bt s (i : Int) = ((s.data.toList.getD i 0).toNat : Int) := by
 unfold bt
 rw [Lib.getD_get!']
 split
 ·rename_i h
  simp only [Int.toNat_natCast] at h ⊢
  congr 2
  exact (getElem!_pos s.data i h).symm
 ·rename_i h
  simp only [Int.toNat_natCast] at h
  have : s.get! i = 0 := by
   show s.data[i]! = 0
   rw [getElem!_neg s.data i h]; rfl
  rw [this]; rfl
theorem goodF_fuel : ∀ (n m : Nat) (l : List UInt8), l.length ≤ n → l.length ≤ m → goodF n l = goodF m l := by
 intro n
 induction n with
 | zero =>
  intro m l h _
  have : l = [] := List.length_eq_zero_iff.1 (by omega)
  subst this
  cases m <;> simp [goodF]
 | succ n ih =>
  intro m l h h2
  cases m with
  | zero =>
   have : l = [] := List.length_eq_zero_iff.1 (by omega)
   subst this
   simp [goodF]
  | succ m =>
   simp only [goodF]
   split
   ·rfl
   ·split
    ·rfl
    ·exact ih _ _ (by rw [List.length_drop]; omega) (by rw [List.length_drop]; omega)
section
variable {s : ByteArray} {x3 x4 x5 x6 : Int} {r : Bool}
theorem T_l1_more (h : x6 < x5) (h0 : 0 ≤ wrap64 (x3 + x6)) (h1 : wrap64 (x3 + x6) < (s.size : Int)) (c1 : ¬ bt s (wrap64 (x3 + x6)) < 128) (c2 : ¬ bt s (wrap64 (x3 + x6)) > 191)
  (k : Ev (fun k => bindleref01_Text.l1 k s x3 x4 x5 (wrap64 (x6 + 1))) r) : Ev (fun k => bindleref01_Text.l1 k s x3 x4 x5 x6) r :=
 Ev.step (fun k => by rw [bindleref01_Text.l1, if_pos h, if_pos h0, if_pos h1, if_neg c1, if_neg c2]) k
theorem T_l1_low (h : x6 < x5) (h0 : 0 ≤ wrap64 (x3 + x6)) (h1 : wrap64 (x3 + x6) < (s.size : Int)) (c1 : bt s (wrap64 (x3 + x6)) < 128) : Ev (fun k => bindleref01_Text.l1 k s x3 x4 x5 x6) false :=
 Ev.step (f := fun _ => some false) (fun k => by rw [bindleref01_Text.l1, if_pos h, if_pos h0, if_pos h1, if_pos c1]) (Ev.now _)
theorem T_l1_high (h : x6 < x5) (h0 : 0 ≤ wrap64 (x3 + x6)) (h1 : wrap64 (x3 + x6) < (s.size : Int)) (c1 : ¬ bt s (wrap64 (x3 + x6)) < 128) (c2 : bt s (wrap64 (x3 + x6)) > 191) : Ev (fun k => bindleref01_Text.l1 k s x3 x4 x5 x6) false :=
 Ev.step (f := fun _ => some false) (fun k => by rw [bindleref01_Text.l1, if_pos h, if_pos h0, if_pos h1, if_neg c1, if_pos c2]) (Ev.now _)
theorem T_l1_end (h : ¬ x6 < x5) (n3 : ¬ x5 = 3) (n4 : ¬ x5 = 4) (k : Ev (fun k => bindleref01_Text.l0 k s (wrap64 (x3 + x5))) r) : Ev (fun k => bindleref01_Text.l1 k s x3 x4 x5 x6) r :=
 Ev.step (fun k => by rw [bindleref01_Text.l1, if_neg h, if_neg n3, if_neg n4]) k
theorem T_l1_3a (h : ¬ x6 < 3) (e : x4 = 224) (h0 : 0 ≤ wrap64 (x3 + 1)) (h1 : wrap64 (x3 + 1) < (s.size : Int)) (c : bt s (wrap64 (x3 + 1)) < 160) : Ev (fun k => bindleref01_Text.l1 k s x3 x4 3 x6) false :=
 Ev.step (f := fun _ => some false) (fun k => by rw [bindleref01_Text.l1, if_neg h, if_pos rfl, if_pos e, if_pos h0, if_pos h1, if_pos c]) (Ev.now _)
theorem T_l1_3b (h : ¬ x6 < 3) (e : x4 = 224) (h0 : 0 ≤ wrap64 (x3 + 1)) (h1 : wrap64 (x3 + 1) < (s.size : Int)) (c : ¬ bt s (wrap64 (x3 + 1)) < 160) (k : Ev (fun k => bindleref01_Text.l0 k s (wrap64 (x3 + 3))) r) : Ev (fun k => bindleref01_Text.l1 k s x3 x4 3 x6) r :=
 Ev.step (fun k => by rw [bindleref01_Text.l1, if_neg h, if_pos rfl, if_pos e, if_pos h0, if_pos h1, if_neg c, if_neg (show ¬ x4 = 237 by omega), if_neg (by decide)]) k
theorem T_l1_3c (h : ¬ x6 < 3) (e : x4 = 237) (h0 : 0 ≤ wrap64 (x3 + 1)) (h1 : wrap64 (x3 + 1) < (s.size : Int)) (c : bt s (wrap64 (x3 + 1)) > 159) : Ev (fun k => bindleref01_Text.l1 k s x3 x4 3 x6) false :=
 Ev.step (f := fun _ => some false) (fun k => by rw [bindleref01_Text.l1, if_neg h, if_pos rfl, if_neg (show ¬ x4 = 224 by omega), if_pos e, if_pos h0, if_pos h1, if_pos c]) (Ev.now _)
theorem T_l1_3d (h : ¬ x6 < 3) (e : x4 = 237) (h0 : 0 ≤ wrap64 (x3 + 1)) (h1 : wrap64 (x3 + 1) < (s.size : Int)) (c : ¬ bt s (wrap64 (x3 + 1)) > 159) (k : Ev (fun k => bindleref01_Text.l0 k s (wrap64 (x3 + 3))) r) : Ev (fun k => bindleref01_Text.l1 k s x3 x4 3 x6) r :=
 Ev.step (fun k => by rw [bindleref01_Text.l1, if_neg h, if_pos rfl, if_neg (show ¬ x4 = 224 by omega), if_pos e, if_pos h0, if_pos h1, if_neg c, if_neg (by decide)]) k
theorem T_l1_3e (h : ¬ x6 < 3) (e : ¬ x4 = 224) (e2 : ¬ x4 = 237) (k : Ev (fun k => bindleref01_Text.l0 k s (wrap64 (x3 + 3))) r) : Ev (fun k => bindleref01_Text.l1 k s x3 x4 3 x6) r :=
 Ev.step (fun k => by rw [bindleref01_Text.l1, if_neg h, if_pos rfl, if_neg e, if_neg e2, if_neg (by decide)]) k
theorem T_l1_4a (h : ¬ x6 < 4) (e : x4 = 240) (h0 : 0 ≤ wrap64 (x3 + 1)) (h1 : wrap64 (x3 + 1) < (s.size : Int)) (c : bt s (wrap64 (x3 + 1)) < 144) : Ev (fun k => bindleref01_Text.l1 k s x3 x4 4 x6) false :=
 Ev.step (f := fun _ => some false) (fun k => by rw [bindleref01_Text.l1, if_neg h, if_neg (by decide), if_pos rfl, if_pos e, if_pos h0, if_pos h1, if_pos c]) (Ev.now _)
theorem T_l1_4b (h : ¬ x6 < 4) (e : x4 = 240) (h0 : 0 ≤ wrap64 (x3 + 1)) (h1 : wrap64 (x3 + 1) < (s.size : Int)) (c : ¬ bt s (wrap64 (x3 + 1)) < 144) (k : Ev (fun k => bindleref01_Text.l0 k s (wrap64 (x3 + 4))) r) : Ev (fun k => bindleref01_Text.l1 k s x3 x4 4 x6) r :=
 Ev.step (fun k => by rw [bindleref01_Text.l1, if_neg h, if_neg (by decide), if_pos rfl, if_pos e, if_pos h0, if_pos h1, if_neg c, if_neg (show ¬ x4 = 244 by omega)]) k
theorem T_l1_4c (h : ¬ x6 < 4) (e : x4 = 244) (h0 : 0 ≤ wrap64 (x3 + 1)) (h1 : wrap64 (x3 + 1) < (s.size : Int)) (c : bt s (wrap64 (x3 + 1)) > 143) : Ev (fun k => bindleref01_Text.l1 k s x3 x4 4 x6) false :=
 Ev.step (f := fun _ => some false) (fun k => by rw [bindleref01_Text.l1, if_neg h, if_neg (by decide), if_pos rfl, if_neg (show ¬ x4 = 240 by omega), if_pos e, if_pos h0, if_pos h1, if_pos c]) (Ev.now _)
theorem T_l1_4d (h : ¬ x6 < 4) (e : x4 = 244) (h0 : 0 ≤ wrap64 (x3 + 1)) (h1 : wrap64 (x3 + 1) < (s.size : Int)) (c : ¬ bt s (wrap64 (x3 + 1)) > 143) (k : Ev (fun k => bindleref01_Text.l0 k s (wrap64 (x3 + 4))) r) : Ev (fun k => bindleref01_Text.l1 k s x3 x4 4 x6) r :=
 Ev.step (fun k => by rw [bindleref01_Text.l1, if_neg h, if_neg (by decide), if_pos rfl, if_neg (show ¬ x4 = 240 by omega), if_pos e, if_pos h0, if_pos h1, if_neg c]) k
theorem T_l1_4e (h : ¬ x6 < 4) (e : ¬ x4 = 240) (e2 : ¬ x4 = 244) (k : Ev (fun k => bindleref01_Text.l0 k s (wrap64 (x3 + 4))) r) : Ev (fun k => bindleref01_Text.l1 k s x3 x4 4 x6) r :=
 Ev.step (fun k => by rw [bindleref01_Text.l1, if_neg h, if_neg (by decide), if_pos rfl, if_neg e, if_neg e2]) k
theorem T_j3_short (h : wrap64 ((s.size : Int) - x3) < x5) : Ev (fun k => bindleref01_Text.j3 k s x3 x4 x5) false :=
 Ev.step (f := fun _ => some false) (fun k => by rw [bindleref01_Text.j3, if_pos h]) (Ev.now _)
theorem T_j3 (h : ¬ wrap64 ((s.size : Int) - x3) < x5) (k : Ev (fun k => bindleref01_Text.l1 k s x3 x4 x5 1) r) : Ev (fun k => bindleref01_Text.j3 k s x3 x4 x5) r :=
 Ev.step (fun k => by rw [bindleref01_Text.j3, if_neg h]) k
theorem T_head {i : Int} (hi : 0 ≤ i) (hl : i < (s.size : Int)) {b : Nat} (hb : wrap64 (bt s i) = (b : Int)) (hz : b ≠ 0) (hlt : b < 245) (h194 : b < 128 ∨ 194 ≤ b)
  (k : Ev (fun k => bindleref01_Text.j3 k s i (b : Int) (if b < 128 then 1 else if b < 224 then 2 else if b < 240 then 3 else 4)) r) : Ev (fun k => bindleref01_Text.l0 k s i) r := by
 by_cases c1 : b < 128
 ·rw [if_pos c1] at k
  exact Ev.step (fun k => by rw [bindleref01_Text.l0, if_pos hl, if_pos hi, hb, if_neg (by omega), if_pos (by omega)]) k
 rw [if_neg c1] at k
 refine Ev.step (f := fun k => bindleref01_Text.j1 k s i b (decide ((b : Int) < 224))) (fun k => by rw [bindleref01_Text.l0, if_pos hl, if_pos hi, hb, if_neg (by omega), if_neg (by omega), if_pos (by omega)]) ?_
 by_cases c2 : b < 224
 ·rw [if_pos c2] at k
  exact Ev.step (fun k => by rw [bindleref01_Text.j1, if_pos (decide_eq_true (by omega))]) k
 rw [if_neg c2] at k
 refine Ev.step (f := fun k => bindleref01_Text.j2 k s i b (decide ((b : Int) < 240))) (fun k => by rw [bindleref01_Text.j1, if_neg (by rw [decide_eq_false (by omega)]; decide), if_pos (by omega)]) ?_
 by_cases c3 : b < 240
 ·rw [if_pos c3] at k
  exact Ev.step (fun k => by rw [bindleref01_Text.j2, if_pos (decide_eq_true (by omega))]) k
 ·rw [if_neg c3] at k
  exact Ev.step (fun k => by rw [bindleref01_Text.j2, if_neg (by rw [decide_eq_false (by omega)]; decide), if_pos (by omega), if_pos (by omega)]) k
theorem T_headbad {i : Int} (hi : 0 ≤ i) (hl : i < (s.size : Int)) {b : Nat} (hb : wrap64 (bt s i) = (b : Int)) (h : b = 0 ∨ (128 ≤ b ∧ b < 194) ∨ 245 ≤ b) : Ev (fun k => bindleref01_Text.l0 k s i) false := by
 by_cases c0 : b = 0
 ·exact Ev.step (f := fun _ => some false) (fun k => by rw [bindleref01_Text.l0, if_pos hl, if_pos hi, hb, if_pos (by omega)]) (Ev.now _)
 by_cases c1 : b < 194
 ·refine Ev.step (f := fun k => bindleref01_Text.j1 k s i b false) (fun k => by rw [bindleref01_Text.l0, if_pos hl, if_pos hi, hb, if_neg (by omega), if_neg (by omega), if_neg (by omega)]) ?_
  refine Ev.step (f := fun k => bindleref01_Text.j2 k s i b false) (fun k => by rw [bindleref01_Text.j1, if_neg (by decide), if_neg (by omega)]) ?_
  exact Ev.step (f := fun _ => some false) (fun k => by rw [bindleref01_Text.j2, if_neg (by decide), if_neg (by omega)]) (Ev.now _)
 ·refine Ev.step (f := fun k => bindleref01_Text.j1 k s i b (decide ((b : Int) < 224))) (fun k => by rw [bindleref01_Text.l0, if_pos hl, if_pos hi, hb, if_neg (by omega), if_neg (by omega), if_pos (by omega)]) ?_
  refine Ev.step (f := fun k => bindleref01_Text.j2 k s i b (decide ((b : Int) < 240))) (fun k => by rw [bindleref01_Text.j1, if_neg (by rw [decide_eq_false (by omega)]; decide), if_pos (by omega)]) ?_
  exact Ev.step (f := fun _ => some false) (fun k => by rw [bindleref01_Text.j2, if_neg (by rw [decide_eq_false (by omega)]; decide), if_pos (by omega), if_neg (by omega)]) (Ev.now _)
end
theorem w64_1 (i : Nat) (h : i < 8999999999999999999) : wrap64 ((i : Int) + 1) = ((i + 1 : Nat) : Int) := by unfold wrap64; omega
theorem w64_2 (i : Nat) (h : i < 8999999999999999999) : wrap64 ((i : Int) + 2) = ((i + 2 : Nat) : Int) := by unfold wrap64; omega
theorem w64_3 (i : Nat) (h : i < 8999999999999999999) : wrap64 ((i : Int) + 3) = ((i + 3 : Nat) : Int) := by unfold wrap64; omega
theorem w64_4 (i : Nat) (h : i < 8999999999999999999) : wrap64 ((i : Int) + 4) = ((i + 4 : Nat) : Int) := by unfold wrap64; omega
theorem w64_sub (a b n : Nat) (h : b + n = a) (h2 : a < 8999999999999999999) : wrap64 ((a : Int) - (b : Int)) = (n : Int) := by unfold wrap64; omega
theorem w64_byte (b : Nat) (h : b < 256) : wrap64 (b : Int) = (b : Int) := by unfold wrap64; omega
set_option maxHeartbeats 1000000 in
theorem Text_loop (s : ByteArray) (hs : s.size ≤ 8000000000000000000) : ∀ (n i : Nat), i + n = s.size → Ev (fun k => bindleref01_Text.l0 k s (i : Int)) (goodF n (s.data.toList.drop i)) := by
 intro n
 induction n using Nat.strongRecOn with
 | _ n ih =>
 intro i hn
 have hlen : (s.data.toList.drop i).length = n := by rw [List.length_drop]; simp; omega
 cases n with
 | zero =>
  have hz : s.data.toList.drop i = [] := List.length_eq_zero_iff.1 hlen
  rw [hz]
  exact Ev.step (f := fun _ => some true) (fun k => by rw [bindleref01_Text.l0, if_neg (by omega)]) (Ev.now _)
 | succ n =>
  have hne : s.data.toList.drop i ≠ [] := fun e => by rw [e] at hlen; simp at hlen
  have hg : goodF (n + 1) (s.data.toList.drop i) = if step (s.data.toList.drop i) = 0 then false else goodF n (s.data.toList.drop (i + step (s.data.toList.drop i))) := by
   simp only [goodF, if_neg hne, List.drop_drop]
  have hst : step (s.data.toList.drop i) = stepN (n + 1) (s.data.toList.getD i 0).toNat (s.data.toList.getD (i + 1) 0).toNat (s.data.toList.getD (i + 2) 0).toNat (s.data.toList.getD (i + 3) 0).toNat := by
   unfold step
   rw [hlen, Lib.getD_dropU, Lib.getD_dropU, Lib.getD_dropU, Lib.getD_dropU]
   rfl
  have next : ∀ (w : Nat), 1 ≤ w → w ≤ n + 1 → Ev (fun k => bindleref01_Text.l0 k s ((i + w : Nat) : Int)) (goodF n (s.data.toList.drop (i + w))) := by
   intro w h1 h2
   have := ih (n + 1 - w) (by omega) (i + w) (by omega)
   rwa [goodF_fuel (n + 1 - w) n _ (by rw [List.length_drop]; simp; omega) (by rw [List.length_drop]; simp; omega)] at this
  obtain ⟨fin, hfin⟩ : ∃ fin : Nat → Bool, fin = fun w => if w = 0 then false else goodF n (s.data.toList.drop (i + w)) := ⟨_, rfl⟩
  have F0 : fin 0 = false := by rw [hfin]; rfl
  have nextF : ∀ (w : Nat), 1 ≤ w → w ≤ n + 1 → Ev (fun k => bindleref01_Text.l0 k s ((i + w : Nat) : Int)) (fin w) := by
   intro w h1 h2
   rw [hfin]
   simp only
   rw [if_neg (by omega)]
   exact next w h1 h2
  have hgf : goodF (n + 1) (s.data.toList.drop i) = fin (step (s.data.toList.drop i)) := by rw [hfin, hg]
  rw [hgf, hst]
  clear hgf hfin next
  have e0 := bt_getD s i
  have e1 := bt_getD s (i + 1)
  have e2 := bt_getD s (i + 2)
  have e3 := bt_getD s (i + 3)
  have r0 := byte_lt (s.data.toList.getD i 0)
  have r1 := byte_lt (s.data.toList.getD (i + 1) 0)
  have r2 := byte_lt (s.data.toList.getD (i + 2) 0)
  have r3 := byte_lt (s.data.toList.getD (i + 3) 0)
  generalize (s.data.toList.getD i 0).toNat = b0 at *
  generalize (s.data.toList.getD (i + 1) 0).toNat = b1 at *
  generalize (s.data.toList.getD (i + 2) 0).toNat = b2 at *
  generalize (s.data.toList.getD (i + 3) 0).toNat = b3 at *
  clear hg hst hne hlen ih
  have hw0 := Lib.hid (show wrap64 (bt s (i : Int)) = (b0 : Int) by rw [e0]; exact w64_byte _ r0)
  have hsz := Lib.hid (w64_sub s.size i (n + 1) hn (by omega))
  have ha1 := Lib.hid (w64_1 i (by omega))
  have ha2 := Lib.hid (w64_2 i (by omega))
  have ha3 := Lib.hid (w64_3 i (by omega))
  have ha4 := Lib.hid (w64_4 i (by omega))
  have w2 := Lib.hid (show wrap64 (1 + 1 : Int) = 2 by unfold wrap64; omega)
  have w3 := Lib.hid (show wrap64 (2 + 1 : Int) = 3 by unfold wrap64; omega)
  have w4 := Lib.hid (show wrap64 (3 + 1 : Int) = 4 by unfold wrap64; omega)
  have hlt : (i : Int) < (s.size : Int) := by omega
  have hge : (0 : Int) ≤ (i : Int) := by omega
  unfold stepN
  by_cases hbad : b0 = 0 ∨ (128 ≤ b0 ∧ b0 < 194) ∨ 245 ≤ b0
  ·have := T_headbad hge hlt hw0.out hbad
   have hz : (if b0 = 0 then 0 else if b0 < 128 then 1 else if b0 < 194 then 0 else if b0 < 224 then (if 2 ≤ n + 1 ∧ 128 ≤ b1 ∧ b1 ≤ 191 then 2 else 0)
     else if b0 < 240 then (if 3 ≤ n + 1 ∧ 128 ≤ b1 ∧ b1 ≤ 191 ∧ 128 ≤ b2 ∧ b2 ≤ 191 ∧ ¬ (b0 = 224 ∧ b1 < 160) ∧ ¬ (b0 = 237 ∧ 159 < b1) then 3 else 0)
     else if b0 < 245 then (if 4 ≤ n + 1 ∧ 128 ≤ b1 ∧ b1 ≤ 191 ∧ 128 ≤ b2 ∧ b2 ≤ 191 ∧ 128 ≤ b3 ∧ b3 ≤ 191 ∧ ¬ (b0 = 240 ∧ b1 < 144) ∧ ¬ (b0 = 244 ∧ 143 < b1) then 4 else 0)
     else 0) = 0 := by
    repeat' split
    all_goals omega
   rw [hz, F0]
   exact this
  have hnz : ¬ b0 = 0 := fun e => hbad (.inl e)
  refine T_head hge hlt hw0.out hnz (by omega) (by omega) ?_
  rw [if_neg hnz]
  by_cases c1 : b0 < 128
  ·rw [if_pos c1, if_pos c1]
   refine T_j3 (by rw [hsz.out]; omega) (T_l1_end (by omega) (by omega) (by omega) ?_)
   rw [ha1.out]
   exact nextF 1 (by omega) (by omega)
  rw [if_neg c1, if_neg c1, if_neg (show ¬ b0 < 194 by omega)]
  by_cases c2 : b0 < 224
  ·rw [if_pos c2, if_pos c2]
   by_cases c4 : 2 ≤ n + 1
   ·refine T_j3 (by rw [hsz.out]; omega) ?_
    by_cases c5 : 128 ≤ b1
    ·by_cases c6 : b1 ≤ 191
     ·refine T_l1_more (by omega) (by rw [ha1.out]; omega) (by rw [ha1.out]; omega) (by rw [ha1.out, e1]; omega) (by rw [ha1.out, e1]; omega) ?_
      rw [w2.out]
      refine T_l1_end (by omega) (by omega) (by omega) ?_
      rw [if_pos ⟨c4, c5, c6⟩, ha2.out]
      exact nextF 2 (by omega) (by omega)
     ·rw [if_neg (fun h => c6 h.2.2), F0]
      exact T_l1_high (by omega) (by rw [ha1.out]; omega) (by rw [ha1.out]; omega) (by rw [ha1.out, e1]; omega) (by rw [ha1.out, e1]; omega)
    ·rw [if_neg (fun h => c5 h.2.1), F0]
     exact T_l1_low (by omega) (by rw [ha1.out]; omega) (by rw [ha1.out]; omega) (by rw [ha1.out, e1]; omega)
   ·rw [if_neg (fun h => c4 h.1), F0]
    exact T_j3_short (by rw [hsz.out]; omega)
  rw [if_neg c2, if_neg c2]
  by_cases c3 : b0 < 240
  ·rw [if_pos c3, if_pos c3]
   by_cases c4 : 3 ≤ n + 1
   ·refine T_j3 (by rw [hsz.out]; omega) ?_
    by_cases c5 : 128 ≤ b1
    ·by_cases c6 : b1 ≤ 191
     ·refine T_l1_more (by omega) (by rw [ha1.out]; omega) (by rw [ha1.out]; omega) (by rw [ha1.out, e1]; omega) (by rw [ha1.out, e1]; omega) ?_
      rw [w2.out]
      by_cases c7 : 128 ≤ b2
      ·by_cases c8 : b2 ≤ 191
       ·refine T_l1_more (by omega) (by rw [ha2.out]; omega) (by rw [ha2.out]; omega) (by rw [ha2.out, e2]; omega) (by rw [ha2.out, e2]; omega) ?_
        rw [w3.out]
        have N := nextF 3 (by omega) (by omega)
        by_cases d1 : b0 = 224
        ·by_cases d2 : b1 < 160
         ·rw [if_neg (fun h => h.2.2.2.2.2.1 ⟨d1, d2⟩), F0]
          exact T_l1_3a (by omega) (by omega) (by rw [ha1.out]; omega) (by rw [ha1.out]; omega) (by rw [ha1.out, e1]; omega)
         ·rw [if_pos ⟨c4, c5, c6, c7, c8, fun h => d2 h.2, fun h => by omega⟩]
          exact T_l1_3b (by omega) (by omega) (by rw [ha1.out]; omega) (by rw [ha1.out]; omega) (by rw [ha1.out, e1]; omega) (by rw [ha3.out]; exact N)
        ·by_cases d3 : b0 = 237
         ·by_cases d4 : 159 < b1
          ·rw [if_neg (fun h => h.2.2.2.2.2.2 ⟨d3, d4⟩), F0]
           exact T_l1_3c (by omega) (by omega) (by rw [ha1.out]; omega) (by rw [ha1.out]; omega) (by rw [ha1.out, e1]; omega)
          ·rw [if_pos ⟨c4, c5, c6, c7, c8, fun h => d1 h.1, fun h => d4 h.2⟩]
           exact T_l1_3d (by omega) (by omega) (by rw [ha1.out]; omega) (by rw [ha1.out]; omega) (by rw [ha1.out, e1]; omega) (by rw [ha3.out]; exact N)
         ·rw [if_pos ⟨c4, c5, c6, c7, c8, fun h => d1 h.1, fun h => d3 h.1⟩]
          exact T_l1_3e (by omega) (by omega) (by omega) (by rw [ha3.out]; exact N)
       ·rw [if_neg (fun h => c8 h.2.2.2.2.1), F0]
        exact T_l1_high (by omega) (by rw [ha2.out]; omega) (by rw [ha2.out]; omega) (by rw [ha2.out, e2]; omega) (by rw [ha2.out, e2]; omega)
      ·rw [if_neg (fun h => c7 h.2.2.2.1), F0]
       exact T_l1_low (by omega) (by rw [ha2.out]; omega) (by rw [ha2.out]; omega) (by rw [ha2.out, e2]; omega)
     ·rw [if_neg (fun h => c6 h.2.2.1), F0]
      exact T_l1_high (by omega) (by rw [ha1.out]; omega) (by rw [ha1.out]; omega) (by rw [ha1.out, e1]; omega) (by rw [ha1.out, e1]; omega)
    ·rw [if_neg (fun h => c5 h.2.1), F0]
     exact T_l1_low (by omega) (by rw [ha1.out]; omega) (by rw [ha1.out]; omega) (by rw [ha1.out, e1]; omega)
   ·rw [if_neg (fun h => c4 h.1), F0]
    exact T_j3_short (by rw [hsz.out]; omega)
  rw [if_neg c3, if_neg c3, if_pos (show b0 < 245 by omega)]
  by_cases c4 : 4 ≤ n + 1
  ·refine T_j3 (by rw [hsz.out]; omega) ?_
   by_cases c5 : 128 ≤ b1
   ·by_cases c6 : b1 ≤ 191
    ·refine T_l1_more (by omega) (by rw [ha1.out]; omega) (by rw [ha1.out]; omega) (by rw [ha1.out, e1]; omega) (by rw [ha1.out, e1]; omega) ?_
     rw [w2.out]
     by_cases c7 : 128 ≤ b2
     ·by_cases c8 : b2 ≤ 191
      ·refine T_l1_more (by omega) (by rw [ha2.out]; omega) (by rw [ha2.out]; omega) (by rw [ha2.out, e2]; omega) (by rw [ha2.out, e2]; omega) ?_
       rw [w3.out]
       by_cases c9 : 128 ≤ b3
       ·by_cases c10 : b3 ≤ 191
        ·refine T_l1_more (by omega) (by rw [ha3.out]; omega) (by rw [ha3.out]; omega) (by rw [ha3.out, e3]; omega) (by rw [ha3.out, e3]; omega) ?_
         rw [w4.out]
         have N := nextF 4 (by omega) (by omega)
         by_cases d1 : b0 = 240
         ·by_cases d2 : b1 < 144
          ·rw [if_neg (fun h => h.2.2.2.2.2.2.2.1 ⟨d1, d2⟩), F0]
           exact T_l1_4a (by omega) (by omega) (by rw [ha1.out]; omega) (by rw [ha1.out]; omega) (by rw [ha1.out, e1]; omega)
          ·rw [if_pos ⟨c4, c5, c6, c7, c8, c9, c10, fun h => d2 h.2, fun h => by omega⟩]
           exact T_l1_4b (by omega) (by omega) (by rw [ha1.out]; omega) (by rw [ha1.out]; omega) (by rw [ha1.out, e1]; omega) (by rw [ha4.out]; exact N)
         ·by_cases d3 : b0 = 244
          ·by_cases d4 : 143 < b1
           ·rw [if_neg (fun h => h.2.2.2.2.2.2.2.2 ⟨d3, d4⟩), F0]
            exact T_l1_4c (by omega) (by omega) (by rw [ha1.out]; omega) (by rw [ha1.out]; omega) (by rw [ha1.out, e1]; omega)
           ·rw [if_pos ⟨c4, c5, c6, c7, c8, c9, c10, fun h => d1 h.1, fun h => d4 h.2⟩]
            exact T_l1_4d (by omega) (by omega) (by rw [ha1.out]; omega) (by rw [ha1.out]; omega) (by rw [ha1.out, e1]; omega) (by rw [ha4.out]; exact N)
          ·rw [if_pos ⟨c4, c5, c6, c7, c8, c9, c10, fun h => d1 h.1, fun h => d3 h.1⟩]
           exact T_l1_4e (by omega) (by omega) (by omega) (by rw [ha4.out]; exact N)
        ·rw [if_neg (fun h => c10 h.2.2.2.2.2.2.1), F0]
         exact T_l1_high (by omega) (by rw [ha3.out]; omega) (by rw [ha3.out]; omega) (by rw [ha3.out, e3]; omega) (by rw [ha3.out, e3]; omega)
       ·rw [if_neg (fun h => c9 h.2.2.2.2.2.1), F0]
        exact T_l1_low (by omega) (by rw [ha3.out]; omega) (by rw [ha3.out]; omega) (by rw [ha3.out, e3]; omega)
      ·rw [if_neg (fun h => c8 h.2.2.2.2.1), F0]
       exact T_l1_high (by omega) (by rw [ha2.out]; omega) (by rw [ha2.out]; omega) (by rw [ha2.out, e2]; omega) (by rw [ha2.out, e2]; omega)
     ·rw [if_neg (fun h => c7 h.2.2.2.1), F0]
      exact T_l1_low (by omega) (by rw [ha2.out]; omega) (by rw [ha2.out]; omega) (by rw [ha2.out, e2]; omega)
    ·rw [if_neg (fun h => c6 h.2.2.1), F0]
     exact T_l1_high (by omega) (by rw [ha1.out]; omega) (by rw [ha1.out]; omega) (by rw [ha1.out, e1]; omega) (by rw [ha1.out, e1]; omega)
   ·rw [if_neg (fun h => c5 h.2.1), F0]
    exact T_l1_low (by omega) (by rw [ha1.out]; omega) (by rw [ha1.out]; omega) (by rw [ha1.out, e1]; omega)
  ·rw [if_neg (fun h => c4 h.1), F0]
   exact T_j3_short (by rw [hsz.out]; omega)
theorem Text_eq (s : ByteArray) (hs : s.size ≤ 8000000000000000000) : Ev (fun k => bindleref01_Text.f k s) (rightB s) := by
 have h := Text_loop s hs s.size 0 (by omega)
 rw [rightB_good]
 have e : s.data.toList.length = s.size := by simp
 rw [e]
 simpa [bindleref01_Text.f] using h
end Go.Proofs.YtbngbefchobfnaaGreatDoor

namespace Go.Proofs.YtbngbefchobfnaaGreatDoor
def goodL (l : List UInt8) : Bool := goodF l.length l
section
variable {c : UInt8} (hc : 0 < c.toNat) (hc2 : c.toNat < 128)
include hc hc2
theorem step_app (p q : List UInt8) (hp : p ≠ []) : step (p ++ c :: q) = step p := by
 match p, hp with
 | [a], _ =>
  simp only [step, List.cons_append, List.nil_append, List.getD_cons_zero, List.getD_cons_succ, List.getD_nil, List.length_cons, List.length_nil, UInt8.toNat_ofNat]
  unfold stepN
  repeat' split
  all_goals omega
 | [a, b], _ =>
  simp only [step, List.cons_append, List.nil_append, List.getD_cons_zero, List.getD_cons_succ, List.getD_nil, List.length_cons, List.length_nil, UInt8.toNat_ofNat]
  unfold stepN
  repeat' split
  all_goals omega
 | [a, b, d], _ =>
  simp only [step, List.cons_append, List.nil_append, List.getD_cons_zero, List.getD_cons_succ, List.getD_nil, List.length_cons, List.length_nil, UInt8.toNat_ofNat]
  unfold stepN
  repeat' split
  all_goals omega
 | a :: b :: d :: e :: t, _ =>
  simp only [step, List.cons_append, List.getD_cons_zero, List.getD_cons_succ, List.length_cons, List.length_append]
  unfold stepN
  repeat' split
  all_goals omega
theorem step_one (q : List UInt8) : step (c :: q) = 1 := by
 simp only [step, List.getD_cons_zero]
 unfold stepN
 rw [if_neg (by omega), if_pos hc2]
theorem goodF_app (n : Nat) : ∀ p q : List UInt8, p.length ≤ n → goodL (p ++ c :: q) = (goodL p && goodL q) := by
 induction n with
 | zero =>
  intro p q h
  have : p = [] := List.length_eq_zero_iff.1 (by omega)
  subst this
  show goodF (q.length + 1) (c :: q) = (true && goodL q)
  rw [goodF, if_neg (by simp), step_one hc hc2, if_neg (by decide)]
  rfl
 | succ n ih =>
  intro p q h
  by_cases hp : p = []
  ·subst hp; exact ih [] q (by simp)
  ·have e1 : goodL p = if step p = 0 then false else goodL (p.drop (step p)) := by
    unfold goodL
    cases hl : p.length with
    | zero => exact absurd (List.length_eq_zero_iff.1 hl) hp
    | succ m =>
     rw [goodF, if_neg hp]
     split
     ·rfl
     ·exact goodF_fuel _ _ _ (by rw [List.length_drop]; omega) (by rw [List.length_drop]; omega)
   have e2 : goodL (p ++ c :: q) = if step p = 0 then false else goodL (p.drop (step p) ++ c :: q) := by
    have hk := step_le p
    unfold goodL
    cases hl : (p ++ c :: q).length with
    | zero => simp at hl
    | succ m =>
     rw [goodF, if_neg (by simp), step_app hc hc2 _ _ hp]
     split
     ·rfl
     ·rw [List.drop_append_of_le_length hk]
      refine goodF_fuel _ _ _ ?_ (Nat.le_refl _)
      simp only [List.length_append, List.length_drop, List.length_cons] at hl ⊢
      omega
   rw [e1, e2]
   split
   ·rfl
   ·exact ih _ _ (by rw [List.length_drop]; omega)
theorem goodL_app (p q : List UInt8) : goodL (p ++ c :: q) = (goodL p && goodL q) := goodF_app hc hc2 _ p q (Nat.le_refl _)
end
end Go.Proofs.YtbngbefchobfnaaGreatDoor

namespace Go.Proofs.YtbngbefchobfnaaGreatDoor
def keepL (p : List UInt8) : Bool := !(p == []) && !(p == [46])
def kept (l : List UInt8) : List (List UInt8) := (splitB l).filter keepL
def joinL (ps : List (List UInt8)) : List UInt8 := Lib.join ps [47]
def cleanL (l : List UInt8) : List UInt8 × Int :=
 if goodL l = false then ([], 9) else if l.head? = some 47 then ([], 6)
 else if (splitB l).any (· == [46, 46]) = true then ([], 6)
 else if joinL (kept l) = [] ∨ 200 < (joinL (kept l)).length then ([], 6) else (joinL (kept l), 0)
theorem partsOf_ofL (ps : List (List UInt8)) : partsOf (ps.map ofL) = (ps.filter keepL).map ofL := by
 unfold partsOf
 rw [List.filter_map]
 congr 1
 apply List.filter_congr
 intro p _
 simp only [Function.comp_apply, keepP, keepL, Lib.toList_data, data_ofL]
theorem any_ofL (ps : List (List UInt8)) : (ps.map ofL).any isUp = ps.any (· == [46, 46]) := by
 rw [List.any_map]
 congr 1
 funext p
 simp only [Function.comp_apply, isUp, Lib.toList_data, data_ofL]
theorem outOf_ofL (s : ByteArray) : outOf s = ofL (joinL (kept s.data.toList)) := by
 unfold outOf splitS kept joinL
 rw [partsOf_ofL, List.map_map]
 have e : (fun x : ByteArray => x.data.toList) ∘ ofL = id := by funext x; simp [data_ofL]
 rw [e, List.map_id]
 rfl
theorem prefix_head (l : List UInt8) : Lib.hasPrefix l [47] = decide (l.head? = some 47) := by
 cases l with
 | nil => rfl
 | cons a t =>
  simp only [Lib.hasPrefix, List.isPrefixOf, List.head?_cons, Option.some.injEq]
  by_cases h : a = 47
  ·subst h; simp
  ·have : (47 == a) = false := by simpa using fun e => h e.symm
   simp [this, h]
theorem size_ofL (l : List UInt8) : (ofL l).size = l.length := by simp [ofL, ByteArray.size]
theorem cleanF_L (s : ByteArray) : cleanF s = (ofL (cleanL s.data.toList).1, (cleanL s.data.toList).2) := by
 have e0 : (⟨#[]⟩ : ByteArray) = ofL [] := rfl
 have eg : rightB s = goodL s.data.toList := rightB_good s
 have eu : (splitS s).any isUp = (splitB s.data.toList).any (· == [46, 46]) := any_ofL _
 unfold cleanF cleanL
 rw [eg, prefix_head, eu, outOf_ofL, Lib.toList_data, data_ofL, size_ofL]
 split
 ·exact Prod.ext e0 rfl
 ·by_cases h1 : s.data.toList.head? = some 47
  ·rw [if_pos (by simpa using h1), if_pos h1]; exact Prod.ext e0 rfl
  ·rw [if_neg (by simpa using h1), if_neg h1]
   split
   ·exact Prod.ext e0 rfl
   ·by_cases h2 : joinL (kept s.data.toList) = [] ∨ 200 < (joinL (kept s.data.toList)).length
    ·rw [if_pos h2, if_pos (by simpa using h2)]; exact Prod.ext e0 rfl
    ·rw [if_neg h2, if_neg (by simpa using h2)]
def addP (out p : List UInt8) : List UInt8 := if keepL p = true then (if out = [] then p else out ++ 47 :: p) else out
def finC (out : List UInt8) : List UInt8 × Int := if out = [] ∨ 200 < out.length then ([], 6) else (out, 0)
def foldC (out : List UInt8) (ps : List (List UInt8)) : List UInt8 × Int := if ps.any (· == [46, 46]) = true then ([], 6) else finC (ps.foldl addP out)
theorem foldC_nil (out : List UInt8) : foldC out [] = finC out := rfl
theorem foldC_up (out p : List UInt8) (ps : List (List UInt8)) (h : p = [46, 46]) : foldC out (p :: ps) = ([], 6) := by subst h; rfl
theorem foldC_cons (out p : List UInt8) (ps : List (List UInt8)) (h : p ≠ [46, 46]) : foldC out (p :: ps) = foldC (addP out p) ps := by
 have : (p == [46, 46]) = false := by simpa using h
 simp [foldC, this]
theorem foldl_add (ps : List (List UInt8)) : ∀ out : List UInt8, out ≠ [] → ps.foldl addP out = out ++ Lib.joinTail [47] (ps.filter keepL) := by
 induction ps with
 | nil => intro out _; simp [Lib.joinTail]
 | cons p ps ih =>
  intro out h
  rw [List.foldl_cons, List.filter_cons]
  by_cases hk : keepL p = true
  ·have e : addP out p = out ++ 47 :: p := by simp [addP, hk, h]
   rw [e, ih _ (by simp), if_pos hk]
   simp [Lib.joinTail]
  ·have e : addP out p = out := by simp [addP, hk]
   rw [e, ih _ h, if_neg hk]
theorem foldl_join (ps : List (List UInt8)) : ps.foldl addP [] = joinL (ps.filter keepL) := by
 induction ps with
 | nil => rfl
 | cons p ps ih =>
  rw [List.foldl_cons, List.filter_cons]
  by_cases hk : keepL p = true
  ·have e : addP [] p = p := by simp [addP, hk]
   have hp : p ≠ [] := by rintro rfl; simp [keepL] at hk
   rw [e, foldl_add _ _ hp, if_pos hk]
   unfold joinL
   rw [Lib.join_cons]
  ·have e : addP [] p = [] := by simp [addP, hk]
   rw [e, ih, if_neg hk]
theorem cleanL_fold (l : List UInt8) : cleanL l = if goodL l = false then ([], 9) else if l.head? = some 47 then ([], 6) else foldC [] (splitB l) := by
 unfold cleanL foldC finC kept
 rw [foldl_join]
theorem splitB_no (p : List UInt8) (h : ∀ c ∈ p, c ≠ 47) : splitB p = [p] := by
 induction p with
 | nil => rfl
 | cons a p ih =>
  have ha : a ≠ 47 := h a (by simp)
  simp only [splitB, if_neg ha, ih (fun c hc => h c (by simp [hc]))]
theorem splitB_app (p q : List UInt8) (h : ∀ c ∈ p, c ≠ 47) : splitB (p ++ 47 :: q) = p :: splitB q := by
 induction p with
 | nil => simp [splitB]
 | cons a p ih =>
  have ha : a ≠ 47 := h a (by simp)
  simp only [List.cons_append, splitB, if_neg ha, ih (fun c hc => h c (by simp [hc]))]
end Go.Proofs.YtbngbefchobfnaaGreatDoor

namespace Go.Proofs.YtbngbefchobfnaaGreatDoor.Print
open Go.RowKit Go.Proofs.YtbngbefchobfnaaGreatDoorW.PrintWords Go.Proofs.YtbngbefchobfnaaGreatDoorW.PrintLast Go.Proofs.YtbngbefchobfnaaGreatDoorW.PrintMore
attribute [local go_sem] max2_int min2_int max_two min_two max_three min_three max_four min_four   -- for this text's walks alone
set_option linter.unusedVariables false
set_option linter.unusedSimpArgs false
mutual
def bindleref01_Clean.j0 : Nat → ByteArray → Bool → Option (ByteArray × Int)
 | 0, _, _ => none
 | k + 1, x0, x17 => if x17 = true then (some ((⟨#[]⟩ : ByteArray), 6)) else (bindleref01_Clean.l0 k x0 (⟨#[]⟩ : ByteArray) 0 0)
def bindleref01_Clean.l0 : Nat → ByteArray → ByteArray → Int → Int → Option (ByteArray × Int)
 | 0, _, _, _, _ => none
 | k + 1, x0, x4, x5, x6 => if x6 ≤ (x0.size : Int) then (if x6 < (x0.size : Int) then (if 0 ≤ x6 then (bindleref01_Clean.j2 k x0 x4 x5 x6 ((bt x0 x6) != 47)) else (none)) else (bindleref01_Clean.j2 k x0 x4 x5 x6 false)) else (if x4.toList = ([] : List UInt8) then (some ((⟨#[]⟩ : ByteArray), 6)) else (if (x4.size : Int) > 200 then (some ((⟨#[]⟩ : ByteArray), 6)) else (some (x4, 0))))
def bindleref01_Clean.j2 : Nat → ByteArray → ByteArray → Int → Int → Bool → Option (ByteArray × Int)
 | 0, _, _, _, _, _ => none
 | k + 1, x0, x4, x5, x6, x33 => if x33 = true then (bindleref01_Clean.l0 k x0 x4 x5 (wrap64 (x6 + 1))) else (if 0 ≤ x5 then (if x5 ≤ x6 then (if x6 ≤ (x0.size : Int) then (if (x0.extract (x5 : Int).toNat (x6 : Int).toNat).toList = ([46, 46] : List UInt8) then (some ((⟨#[]⟩ : ByteArray), 6)) else (if (x0.extract (x5 : Int).toNat (x6 : Int).toNat).toList = ([] : List UInt8) then (bindleref01_Clean.j3 k x0 x4 (wrap64 (x6 + 1)) x6 (x0.extract (x5 : Int).toNat (x6 : Int).toNat) true) else (bindleref01_Clean.j3 k x0 x4 (wrap64 (x6 + 1)) x6 (x0.extract (x5 : Int).toNat (x6 : Int).toNat) ((x0.extract (x5 : Int).toNat (x6 : Int).toNat).toList == ([46] : List UInt8))))) else (none)) else (none)) else (none))
def bindleref01_Clean.j3 : Nat → ByteArray → ByteArray → Int → Int → ByteArray → Bool → Option (ByteArray × Int)
 | 0, _, _, _, _, _, _ => none
 | k + 1, x0, x4, x5, x6, x7, x47 => if x47 = true then (bindleref01_Clean.l0 k x0 x4 x5 (wrap64 (x6 + 1))) else (if x4.toList = ([] : List UInt8) then (if x4.size + x7.size ≤ 9223372036854775807 then (bindleref01_Clean.l0 k x0 (x4 ++ x7) x5 (wrap64 (x6 + 1))) else (none)) else (if x4.size + 1 ≤ 9223372036854775807 then (if (x4 ++ (⟨#[47]⟩ : ByteArray)).size + x7.size ≤ 9223372036854775807 then (bindleref01_Clean.l0 k x0 ((x4 ++ (⟨#[47]⟩ : ByteArray)) ++ x7) x5 (wrap64 (x6 + 1))) else (none)) else (none)))
end
def bindleref01_Clean.f (k : Nat) (a0 : ByteArray) : Option (ByteArray × Int) := (bindleref01_Text.f k a0).bind fun t554 => (if t554 = true then (if a0.toList = ([] : List UInt8) then (bindleref01_Clean.j0 k a0 true) else (if 0 < (a0.size : Int) then (bindleref01_Clean.j0 k a0 ((bt a0 0) == 47)) else (none))) else (some ((⟨#[]⟩ : ByteArray), 9)))
set_option maxHeartbeats 8000000 in
set_option maxRecDepth 100000 in
theorem bindleref01_Clean.calls (k : Nat) (a0 : ByteArray) (r1 : ByteArray) (r2 : Int) (w : World) (h : bindleref01_Clean.f k a0 = some (r1, r2)) :
  Calls Tryz.prog 60 #[.string a0] w fun e w' => e = .returned (.tuple #[.string r1, .int .i64 r2]) ∧ Drawn0 w w' := by
 have H : ((bindleref01_Text.f k a0).bind fun t554 => (if t554 = true then (if a0.toList = ([] : List UInt8) then (bindleref01_Clean.j0 k a0 true) else (if 0 < (a0.size : Int) then (bindleref01_Clean.j0 k a0 ((bt a0 0) == 47)) else (none))) else (some ((⟨#[]⟩ : ByteArray), 9)))) = some (r1, r2) := h
 clear h
 replace H := Option.bind_eq_some_iff.mp H
 obtain ⟨t554, A20, H⟩ := H
 replace H : (if t554 = true then (if a0.toList = ([] : List UInt8) then (bindleref01_Clean.j0 k a0 true) else (if 0 < (a0.size : Int) then (bindleref01_Clean.j0 k a0 ((bt a0 0) == 47)) else (none))) else (some ((⟨#[]⟩ : ByteArray), 9))) = some (r1, r2) := H
 have A2 := A0_ A20
 clear A20
 by_cases c3 : t554 = true
 rotate_left
 ·replace c3 := Bool.eq_false_iff.mpr c3
  subst c3
  have H1 : (some ((⟨#[]⟩ : ByteArray), 9)) = some (r1, r2) := by rw [if_neg (show ¬ (false = true) by decide)] at H; exact H
  clear H
  have H := H1
  clear H1
  simp only [Option.some.injEq, Prod.mk.injEq] at H
  obtain ⟨rfl, rfl⟩ := H
  go_enter Tryz.func60, Tryz.ntmps60
  go_wp2_with (first | ((with_reducible refine gate_callee (f := 61) rfl ?_); refine goesL_ (some 9) rfl rfl Tryz.func61 (by kernel_rfl) rfl #[.string a0] rfl wm_ ?_; (with_reducible refine (bindleref01_Text.calls k a0 false _ A2.out).mono ?_); rintro e w' ⟨rfl, ⟨nd, rfl⟩⟩; refine ⟨_, rfl, ?_⟩))
  go_ret2
  exact ⟨by first | rfl | (simp; done) | (simp [*]; done), by repeat (first | exact Drawn0.refl _ | apply Drawn0.step)⟩
 subst c3
 have H1 : (if a0.toList = ([] : List UInt8) then (bindleref01_Clean.j0 k a0 true) else (if 0 < (a0.size : Int) then (bindleref01_Clean.j0 k a0 ((bt a0 0) == 47)) else (none))) = some (r1, r2) := by rw [if_pos rfl] at H; exact H
 clear H
 have H := H1
 clear H1
 have HC4 := A0_ H
 clear H
 go_enter Tryz.func60, Tryz.ntmps60
 go_upto_region 3 with (first | ((with_reducible refine gate_callee (f := 61) rfl ?_); refine goesL_ (some 9) rfl rfl Tryz.func61 (by kernel_rfl) rfl #[.string a0] rfl wm_ ?_; (with_reducible refine (bindleref01_Text.calls k a0 true _ A2.out).mono ?_); rintro e w' ⟨rfl, ⟨nd, rfl⟩⟩; refine ⟨_, rfl, ?_⟩))
 (try simp only [Act.put, List.setIfInBounds_toArray, List.set_cons_zero, List.set_cons_succ])
 go_cut [17] (fun v17 wc => ∃ (kq : Nat) (x17_3 : Bool), v17 = .bool x17_3 ∧ Aside0 (bindleref01_Clean.j0 kq a0 x17_3 = some (r1, r2)) ∧ Aside0 (kq ≤ k) ∧ Drawn0 w wc)
 case first =>
  have H := HC4.out
  clear HC4
  by_cases c5 : a0.toList = ([] : List UInt8)
  ·rw [if_pos c5] at H
   have c5b0 : (a0.toList == ([] : List UInt8)) = true := beq_iff_eq.mpr c5
   have c5b1 : (a0.toList != ([] : List UInt8)) = false := bne_eq_false_iff_eq.mpr c5
   clear c5
   (first | rw [c5b0] | (simp only [i64_w, i32_w]; rw [c5b0]) | skip)
   have H' := A0_ H
   clear H
   go_wp2
   go_meet
   case rel => exact ⟨_, (true), wr_, H', ⟨by first | omega | exact Nat.le_refl _⟩, by repeat (first | exact Drawn0.refl _ | apply Drawn0.step)⟩
  rw [if_neg c5] at H
  have c5b0 : (a0.toList == ([] : List UInt8)) = false := beq_eq_false_iff_ne.mpr c5
  have c5b1 : (a0.toList != ([] : List UInt8)) = true := bne_iff_ne.mpr c5
  (first | rw [c5b0] | (simp only [i64_w, i32_w]; rw [c5b0]) | skip)
  by_cases c6 : 0 < (a0.size : Int)
  rotate_left
  ·rw [if_neg c6] at H
   exact absurd H (by simp)
  rw [if_pos c6] at H
  have c6b0 : decide (0 < (a0.size : Int)) = true := decide_eq_true c6
  have c6b1 : decide (0 < a0.size) = true := decide_eq_true (by omega)
  clear c6
  have H' := A0_ H
  clear H
  have p7 : 0 ≤ (0 : Int) := (by omega)
  have q7 : 0 < a0.size := (by have : (0 : Int) < (a0.size : Int) := wd_; omega)
  have hx7 : ∀ h : 0 < a0.size, ((a0[0]'h).toNat : Int) = bt a0 0 := bt_at a0 0
  clear p7
  have qi7 : (0 < (a0.size : Int)) = True := eq_true (wd_)
  replace q7 := eq_true q7
  go_wp2
  go_meet
  case rel => exact ⟨_, (((bt a0 0) == 47)), wr_, H', ⟨by first | omega | exact Nat.le_refl _⟩, by repeat (first | exact Drawn0.refl _ | apply Drawn0.step)⟩
 case rest =>
  clear HC4
  try clear p2
  try clear c3
  try clear c5
  try clear c5b0
  try clear c5b1
  try clear c6
  try clear c6b0
  try clear c6b1
  try clear p7
  try clear q7
  try clear hx7
  try clear qi7
  try clear p7
  try clear q7
  obtain ⟨kq, x17_3, rfl, HA, HJ3, ⟨mc3, rfl⟩⟩ := hcut
  cases kq with
  | zero => exact absurd HA.out (by simp [bindleref01_Clean.j0])
  | succ kj3 =>
   have H := HA.out
   clear HA
   simp only [bindleref01_Clean.j0] at H
   by_cases c8 : x17_3 = true
   ·subst c8
    have H1 : (some ((⟨#[]⟩ : ByteArray), 6)) = some (r1, r2) := by rw [if_pos rfl] at H; exact H
    clear H
    have H := H1
    clear H1
    simp only [Option.some.injEq, Prod.mk.injEq] at H
    obtain ⟨rfl, rfl⟩ := H
    go_wp2
    go_ret2
    exact ⟨by first | rfl | (simp; done) | (simp [*]; done), by repeat (first | exact Drawn0.refl _ | apply Drawn0.step)⟩
   replace c8 := Bool.eq_false_iff.mpr c8
   subst c8
   have H1 : (bindleref01_Clean.l0 kj3 a0 (⟨#[]⟩ : ByteArray) 0 0) = some (r1, r2) := by rw [if_neg (show ¬ (false = true) by decide)] at H; exact H
   clear H
   have H := H1
   clear H1
   have H' := A0_ H
   clear H
   go_wp2
   go_loopg [4, 5, 6] kj3 (fun kq v4 v5 v6 w' => ∃ (x4_2 : ByteArray) (x5_2 : Int) (x6_2 : Int), v4 = .string x4_2 ∧ v5 = .int .i64 x5_2 ∧ v6 = .int .i64 x6_2 ∧ Aside0 (bindleref01_Clean.l0 kq a0 x4_2 x5_2 x6_2 = some (r1, r2)) ∧ Aside0 (kq ≤ kj3) ∧ Drawn0 w w')
   case atStart => exact ⟨((⟨#[]⟩ : ByteArray)), (0), (0), wr_, wr_, wr_, H', ⟨Nat.le_refl _⟩, by repeat (first | exact Drawn0.refl _ | apply Drawn0.step)⟩
   case round =>
    clear H'
    try clear p2
    try clear c3
    try clear c5
    try clear c5b0
    try clear c5b1
    try clear c6
    try clear c6b0
    try clear c6b1
    try clear p7
    try clear q7
    try clear hx7
    try clear qi7
    try clear c8
    try clear p2
    try clear p7
    try clear q7
    obtain ⟨x4_2, x5_2, x6_2, rfl, rfl, rfl, HA, HK2, ⟨m2, rfl⟩⟩ := hrel
    cases gk with
    | zero => exact absurd HA.out (by simp [bindleref01_Clean.l0])
    | succ k2 =>
     have H := HA.out
     clear HA
     simp only [bindleref01_Clean.l0] at H
     by_cases c9 : x6_2 ≤ (a0.size : Int)
     rotate_left
     ·rw [if_neg c9] at H
      have c9b0 : decide (x6_2 ≤ (a0.size : Int)) = false := decide_eq_false c9
      clear c9
      by_cases c26 : x4_2.toList = ([] : List UInt8)
      ·rw [if_pos c26] at H
       have c26b0 : (x4_2.toList == ([] : List UInt8)) = true := beq_iff_eq.mpr c26
       have c26b1 : (x4_2.toList != ([] : List UInt8)) = false := bne_eq_false_iff_eq.mpr c26
       clear c26
       simp only [Option.some.injEq, Prod.mk.injEq] at H
       obtain ⟨rfl, rfl⟩ := H
       go_wp2
       go_ret2
       exact ⟨by first | rfl | (simp; done) | (simp [*]; done), by repeat (first | exact Drawn0.refl _ | apply Drawn0.step)⟩
      rw [if_neg c26] at H
      have c26b0 : (x4_2.toList == ([] : List UInt8)) = false := beq_eq_false_iff_ne.mpr c26
      have c26b1 : (x4_2.toList != ([] : List UInt8)) = true := bne_iff_ne.mpr c26
      by_cases c27 : (x4_2.size : Int) > 200
      ·rw [if_pos c27] at H
       have c27b0 : decide (200 < (x4_2.size : Int)) = true := decide_eq_true c27
       have c27b1 : decide (200 < x4_2.size) = true := decide_eq_true (by omega)
       clear c27
       simp only [Option.some.injEq, Prod.mk.injEq] at H
       obtain ⟨rfl, rfl⟩ := H
       go_wp2
       go_ret2
       exact ⟨by first | rfl | (simp; done) | (simp [*]; done), by repeat (first | exact Drawn0.refl _ | apply Drawn0.step)⟩
      rw [if_neg c27] at H
      have c27b0 : decide (200 < (x4_2.size : Int)) = false := decide_eq_false c27
      have c27b1 : decide (200 < x4_2.size) = false := decide_eq_false (by omega)
      clear c27
      simp only [Option.some.injEq, Prod.mk.injEq] at H
      obtain ⟨rfl, rfl⟩ := H
      go_wp2
      go_ret2
      exact ⟨by first | rfl | (simp; done) | (simp [*]; done), by repeat (first | exact Drawn0.refl _ | apply Drawn0.step)⟩
     rw [if_pos c9] at H
     have c9b0 : decide (x6_2 ≤ (a0.size : Int)) = true := decide_eq_true c9
     clear c9
     have HC10 := A0_ H
     clear H
     go_upto_region 10 with (fail)
     go_cut [33] (fun v33 wc => ∃ (kq : Nat) (x33_9 : Bool), v33 = .bool x33_9 ∧ Aside0 (bindleref01_Clean.j2 kq a0 x4_2 x5_2 x6_2 x33_9 = some (r1, r2)) ∧ Aside0 (kq ≤ k2) ∧ Drawn0 w wc)
     case first =>
      have H := HC10.out
      clear HC10
      by_cases c11 : x6_2 < (a0.size : Int)
      rotate_left
      ·rw [if_neg c11] at H
       have c11b0 : decide (x6_2 < (a0.size : Int)) = false := decide_eq_false c11
       clear c11
       (first | rw [c11b0] | (simp only [i64_w, i32_w]; rw [c11b0]) | skip)
       have H' := A0_ H
       clear H
       go_wp2
       go_meet
       case rel => exact ⟨_, (false), wr_, H', ⟨by have := HJ3.out; have := HK2.out; first | omega | exact Nat.le_refl _⟩, by repeat (first | exact Drawn0.refl _ | apply Drawn0.step)⟩
      rw [if_pos c11] at H
      have c11b0 : decide (x6_2 < (a0.size : Int)) = true := decide_eq_true c11
      clear c11
      (first | rw [c11b0] | (simp only [i64_w, i32_w]; rw [c11b0]) | skip)
      by_cases c12 : 0 ≤ x6_2
      rotate_left
      ·rw [if_neg c12] at H
       exact absurd H (by simp)
      rw [if_pos c12] at H
      have c12b0 : decide (0 ≤ x6_2) = true := decide_eq_true c12
      clear c12
      have H' := A0_ H
      clear H
      have p13 : 0 ≤ (x6_2 : Int) := wd_
      have q13 : x6_2 < (a0.size : Int) := wd_
      have hx13 := bt_at a0 x6_2
      replace p13 := eq_true p13
      replace q13 := eq_true q13
      go_wp2
      go_meet
      case rel => exact ⟨_, (((bt a0 x6_2) != 47)), wr_, H', ⟨by have := HJ3.out; have := HK2.out; first | omega | exact Nat.le_refl _⟩, by repeat (first | exact Drawn0.refl _ | apply Drawn0.step)⟩
     case rest =>
      clear HC10
      try clear c1
      try clear p1
      try clear q1
      try clear hx1
      try clear p2
      try clear c3
      try clear c5
      try clear c5b0
      try clear c5b1
      try clear c6
      try clear c6b0
      try clear c6b1
      try clear p7
      try clear q7
      try clear hx7
      try clear qi7
      try clear c8
      try clear c9
      try clear c9b0
      try clear c11
      try clear c11b0
      try clear c12
      try clear c12b0
      try clear p13
      try clear q13
      try clear hx13
      try clear p13
      try clear p2
      try clear p7
      try clear q13
      try clear q7
      obtain ⟨kq, x33_9, rfl, HA, HJ9, ⟨mc9, rfl⟩⟩ := hcut
      cases kq with
      | zero => exact absurd HA.out (by simp [bindleref01_Clean.j2])
      | succ kj9 =>
       have H := HA.out
       clear HA
       simp only [bindleref01_Clean.j2] at H
       by_cases c14 : x33_9 = true
       ·subst c14
        have H1 : (bindleref01_Clean.l0 kj9 a0 x4_2 x5_2 (wrap64 (x6_2 + 1))) = some (r1, r2) := by rw [if_pos rfl] at H; exact H
        clear H
        have H := H1
        clear H1
        have H' := A0_ H
        clear H
        go_wp2
        go_roundg kj9
        case measure => have := HJ3.out; have := HK2.out; have := HJ9.out; omega
        case rel => exact ⟨(x4_2), (x5_2), (wrap64 (x6_2 + 1)), wr_, wr_, wr_, H', ⟨by have := HJ3.out; have := HK2.out; have := HJ9.out; omega⟩, by repeat (first | exact Drawn0.refl _ | apply Drawn0.step)⟩
       replace c14 := Bool.eq_false_iff.mpr c14
       subst c14
       have H1 : (if 0 ≤ x5_2 then (if x5_2 ≤ x6_2 then (if x6_2 ≤ (a0.size : Int) then (if (a0.extract (x5_2 : Int).toNat (x6_2 : Int).toNat).toList = ([46, 46] : List UInt8) then (some ((⟨#[]⟩ : ByteArray), 6)) else (if (a0.extract (x5_2 : Int).toNat (x6_2 : Int).toNat).toList = ([] : List UInt8) then (bindleref01_Clean.j3 kj9 a0 x4_2 (wrap64 (x6_2 + 1)) x6_2 (a0.extract (x5_2 : Int).toNat (x6_2 : Int).toNat) true) else (bindleref01_Clean.j3 kj9 a0 x4_2 (wrap64 (x6_2 + 1)) x6_2 (a0.extract (x5_2 : Int).toNat (x6_2 : Int).toNat) ((a0.extract (x5_2 : Int).toNat (x6_2 : Int).toNat).toList == ([46] : List UInt8))))) else (none)) else (none)) else (none)) = some (r1, r2) := by rw [if_neg (show ¬ (false = true) by decide)] at H; exact H
       clear H
       have H := H1
       clear H1
       by_cases c15 : 0 ≤ x5_2
       rotate_left
       ·rw [if_neg c15] at H
        exact absurd H (by simp)
       rw [if_pos c15] at H
       have c15b0 := eq_true c15
       have c15b1 : decide (0 ≤ x5_2) = true := decide_eq_true c15
       clear c15
       by_cases c16 : x5_2 ≤ x6_2
       rotate_left
       ·rw [if_neg c16] at H
        exact absurd H (by simp)
       rw [if_pos c16] at H
       have c16b0 := eq_true c16
       have c16b1 : decide (x5_2 ≤ x6_2) = true := decide_eq_true c16
       clear c16
       by_cases c17 : x6_2 ≤ (a0.size : Int)
       rotate_left
       ·rw [if_neg c17] at H
        exact absurd H (by simp)
       rw [if_pos c17] at H
       have c17b0 := eq_true c17
       have c17b1 : decide (x6_2 ≤ (a0.size : Int)) = true := decide_eq_true c17
       clear c17
       by_cases c18 : (a0.extract (x5_2 : Int).toNat (x6_2 : Int).toNat).toList = ([46, 46] : List UInt8)
       ·rw [if_pos c18] at H
        have c18b0 : ((a0.extract (x5_2 : Int).toNat (x6_2 : Int).toNat).toList == ([46, 46] : List UInt8)) = true := beq_iff_eq.mpr c18
        have c18b1 : ((a0.extract (x5_2 : Int).toNat (x6_2 : Int).toNat).toList != ([46, 46] : List UInt8)) = false := bne_eq_false_iff_eq.mpr c18
        clear c18
        simp only [Option.some.injEq, Prod.mk.injEq] at H
        obtain ⟨rfl, rfl⟩ := H
        go_wp2
        go_ret2
        exact ⟨by first | rfl | (simp; done) | (simp [*]; done), by repeat (first | exact Drawn0.refl _ | apply Drawn0.step)⟩
       rw [if_neg c18] at H
       have c18b0 : ((a0.extract (x5_2 : Int).toNat (x6_2 : Int).toNat).toList == ([46, 46] : List UInt8)) = false := beq_eq_false_iff_ne.mpr c18
       have c18b1 : ((a0.extract (x5_2 : Int).toNat (x6_2 : Int).toNat).toList != ([46, 46] : List UInt8)) = true := bne_iff_ne.mpr c18
       have HC19 := A0_ H
       clear H
       go_upto_region 15 with (fail)
       go_cut [47] (fun v47 wc => ∃ (kq : Nat) (x47_18 : Bool), v47 = .bool x47_18 ∧ Aside0 (bindleref01_Clean.j3 kq a0 x4_2 (wrap64 (x6_2 + 1)) x6_2 (a0.extract (x5_2 : Int).toNat (x6_2 : Int).toNat) x47_18 = some (r1, r2)) ∧ Aside0 (kq ≤ kj9) ∧ Drawn0 w wc)
       case first =>
        have H := HC19.out
        clear HC19
        by_cases c20 : (a0.extract (x5_2 : Int).toNat (x6_2 : Int).toNat).toList = ([] : List UInt8)
        ·rw [if_pos c20] at H
         have c20b0 : ((a0.extract (x5_2 : Int).toNat (x6_2 : Int).toNat).toList == ([] : List UInt8)) = true := beq_iff_eq.mpr c20
         have c20b1 : ((a0.extract (x5_2 : Int).toNat (x6_2 : Int).toNat).toList != ([] : List UInt8)) = false := bne_eq_false_iff_eq.mpr c20
         clear c20
         (first | rw [c20b0] | (simp only [i64_w, i32_w]; rw [c20b0]) | skip)
         have H' := A0_ H
         clear H
         go_wp2
         go_meet
         case rel => exact ⟨_, (true), wr_, H', ⟨by have := HJ3.out; have := HK2.out; have := HJ9.out; first | omega | exact Nat.le_refl _⟩, by repeat (first | exact Drawn0.refl _ | apply Drawn0.step)⟩
        rw [if_neg c20] at H
        have c20b0 : ((a0.extract (x5_2 : Int).toNat (x6_2 : Int).toNat).toList == ([] : List UInt8)) = false := beq_eq_false_iff_ne.mpr c20
        have c20b1 : ((a0.extract (x5_2 : Int).toNat (x6_2 : Int).toNat).toList != ([] : List UInt8)) = true := bne_iff_ne.mpr c20
        (first | rw [c20b0] | (simp only [i64_w, i32_w]; rw [c20b0]) | skip)
        have H' := A0_ H
        clear H
        go_wp2
        go_meet
        case rel => exact ⟨_, (((a0.extract (x5_2 : Int).toNat (x6_2 : Int).toNat).toList == ([46] : List UInt8))), wr_, H', ⟨by have := HJ3.out; have := HK2.out; have := HJ9.out; first | omega | exact Nat.le_refl _⟩, by repeat (first | exact Drawn0.refl _ | apply Drawn0.step)⟩
       case rest =>
        clear HC19
        try clear c1
        try clear p1
        try clear q1
        try clear hx1
        try clear c2
        try clear p2
        try clear c3
        try clear c5
        try clear c5b0
        try clear c5b1
        try clear c6
        try clear c6b0
        try clear c6b1
        try clear p6
        try clear p7
        try clear q7
        try clear hx7
        try clear qi7
        try clear c8
        try clear c9
        try clear c9b0
        try clear c11
        try clear c11b0
        try clear c12
        try clear c12b0
        try clear p13
        try clear q13
        try clear hx13
        try clear c14
        try clear c15
        try clear c15b0
        try clear c15b1
        try clear c16
        try clear c16b0
        try clear c16b1
        try clear c17
        try clear c17b0
        try clear c17b1
        try clear c18
        try clear c18b0
        try clear c18b1
        try clear c20
        try clear c20b0
        try clear c20b1
        try clear p1
        try clear p13
        try clear p2
        try clear p7
        try clear q1
        try clear q13
        try clear q7
        obtain ⟨kq, x47_18, rfl, HA, HJ18, ⟨mc18, rfl⟩⟩ := hcut
        cases kq with
        | zero => exact absurd HA.out (by simp [bindleref01_Clean.j3])
        | succ kj18 =>
         have H := HA.out
         clear HA
         simp only [bindleref01_Clean.j3] at H
         by_cases c21 : x47_18 = true
         ·subst c21
          have H1 : (bindleref01_Clean.l0 kj18 a0 x4_2 (wrap64 (x6_2 + 1)) (wrap64 (x6_2 + 1))) = some (r1, r2) := by rw [if_pos rfl] at H; exact H
          clear H
          have H := H1
          clear H1
          have H' := A0_ H
          clear H
          go_wp2
          go_roundg kj18
          case measure => have := HJ3.out; have := HK2.out; have := HJ9.out; have := HJ18.out; omega
          case rel => exact ⟨(x4_2), ((wrap64 (x6_2 + 1))), (wrap64 (x6_2 + 1)), wr_, wr_, wr_, H', ⟨by have := HJ3.out; have := HK2.out; have := HJ9.out; have := HJ18.out; omega⟩, by repeat (first | exact Drawn0.refl _ | apply Drawn0.step)⟩
         replace c21 := Bool.eq_false_iff.mpr c21
         subst c21
         have H1 : (if x4_2.toList = ([] : List UInt8) then (if x4_2.size + (a0.extract (x5_2 : Int).toNat (x6_2 : Int).toNat).size ≤ 9223372036854775807 then (bindleref01_Clean.l0 kj18 a0 (x4_2 ++ (a0.extract (x5_2 : Int).toNat (x6_2 : Int).toNat)) (wrap64 (x6_2 + 1)) (wrap64 (x6_2 + 1))) else (none)) else (if x4_2.size + 1 ≤ 9223372036854775807 then (if (x4_2 ++ (⟨#[47]⟩ : ByteArray)).size + (a0.extract (x5_2 : Int).toNat (x6_2 : Int).toNat).size ≤ 9223372036854775807 then (bindleref01_Clean.l0 kj18 a0 ((x4_2 ++ (⟨#[47]⟩ : ByteArray)) ++ (a0.extract (x5_2 : Int).toNat (x6_2 : Int).toNat)) (wrap64 (x6_2 + 1)) (wrap64 (x6_2 + 1))) else (none)) else (none))) = some (r1, r2) := by rw [if_neg (show ¬ (false = true) by decide)] at H; exact H
         clear H
         have H := H1
         clear H1
         by_cases c22 : x4_2.toList = ([] : List UInt8)
         ·rw [if_pos c22] at H
          have c22b0 : (x4_2.toList == ([] : List UInt8)) = true := beq_iff_eq.mpr c22
          have c22b1 : (x4_2.toList != ([] : List UInt8)) = false := bne_eq_false_iff_eq.mpr c22
          clear c22
          by_cases c23 : x4_2.size + (a0.extract (x5_2 : Int).toNat (x6_2 : Int).toNat).size ≤ 9223372036854775807
          rotate_left
          ·rw [if_neg c23] at H
           exact absurd H (by simp)
          rw [if_pos c23] at H
          have c23b0 := eq_true c23
          try (have c23b8 := c23b0; simp only [ByteArray.size_extract] at c23b8)
          have c23b1 : decide (x4_2.size + (a0.extract (x5_2 : Int).toNat (x6_2 : Int).toNat).size ≤ 9223372036854775807) = true := decide_eq_true c23
          try (have c23b7 := c23b1; simp only [ByteArray.size_extract] at c23b7)
          try have c23b2 : (9223372036854775807 < x4_2.size + (a0.extract (x5_2 : Int).toNat (x6_2 : Int).toNat).size) = False := eq_false (Nat.not_lt.2 c23)
          try (have c23b6 := c23b2; simp only [ByteArray.size_extract] at c23b6)
          have H' := A0_ H
          clear H
          go_wp2
          go_roundg kj18
          case measure => have := HJ3.out; have := HK2.out; have := HJ9.out; have := HJ18.out; omega
          case rel => exact ⟨(x4_2 ++ (a0.extract (x5_2 : Int).toNat (x6_2 : Int).toNat)), ((wrap64 (x6_2 + 1))), (wrap64 (x6_2 + 1)), wr_, wr_, wr_, H', ⟨by have := HJ3.out; have := HK2.out; have := HJ9.out; have := HJ18.out; omega⟩, by repeat (first | exact Drawn0.refl _ | apply Drawn0.step)⟩
         rw [if_neg c22] at H
         have c22b0 : (x4_2.toList == ([] : List UInt8)) = false := beq_eq_false_iff_ne.mpr c22
         have c22b1 : (x4_2.toList != ([] : List UInt8)) = true := bne_iff_ne.mpr c22
         by_cases c24 : x4_2.size + 1 ≤ 9223372036854775807
         rotate_left
         ·rw [if_neg c24] at H
          exact absurd H (by simp)
         rw [if_pos c24] at H
         have c24b0 := eq_true c24
         have c24b1 : decide (x4_2.size + 1 ≤ 9223372036854775807) = true := decide_eq_true c24
         try have c24b2 : (9223372036854775807 < x4_2.size + 1) = False := eq_false (Nat.not_lt.2 c24)
         by_cases c25 : (x4_2 ++ (⟨#[47]⟩ : ByteArray)).size + (a0.extract (x5_2 : Int).toNat (x6_2 : Int).toNat).size ≤ 9223372036854775807
         rotate_left
         ·rw [if_neg c25] at H
          exact absurd H (by simp)
         rw [if_pos c25] at H
         have c25b0 := eq_true c25
         try (have c25b8 := c25b0; simp only [ByteArray.size_extract] at c25b8)
         have c25b1 : decide ((x4_2 ++ (⟨#[47]⟩ : ByteArray)).size + (a0.extract (x5_2 : Int).toNat (x6_2 : Int).toNat).size ≤ 9223372036854775807) = true := decide_eq_true c25
         try (have c25b7 := c25b1; simp only [ByteArray.size_extract] at c25b7)
         try (have c25b1s := c25b1; simp only [ByteArray.size_append, Int.natCast_add, show (((⟨#[47]⟩ : ByteArray).size : Nat) : Int) = 1 from rfl] at c25b1s)
         try have c25b2 : (9223372036854775807 < (x4_2 ++ (⟨#[47]⟩ : ByteArray)).size + (a0.extract (x5_2 : Int).toNat (x6_2 : Int).toNat).size) = False := eq_false (Nat.not_lt.2 c25)
         try (have c25b6 := c25b2; simp only [ByteArray.size_extract] at c25b6)
         try (have c25b2s := c25b2; simp only [ByteArray.size_append, Int.natCast_add, show (((⟨#[47]⟩ : ByteArray).size : Nat) : Int) = 1 from rfl] at c25b2s)
         have H' := A0_ H
         clear H
         go_wp2
         go_roundg kj18
         case measure => have := HJ3.out; have := HK2.out; have := HJ9.out; have := HJ18.out; omega
         case rel => exact ⟨((x4_2 ++ (⟨#[47]⟩ : ByteArray)) ++ (a0.extract (x5_2 : Int).toNat (x6_2 : Int).toNat)), ((wrap64 (x6_2 + 1))), (wrap64 (x6_2 + 1)), wr_, wr_, wr_, H', ⟨by have := HJ3.out; have := HK2.out; have := HJ9.out; have := HJ18.out; omega⟩, by repeat (first | exact Drawn0.refl _ | apply Drawn0.step)⟩
end Go.Proofs.YtbngbefchobfnaaGreatDoor.Print

namespace Go.Proofs.YtbngbefchobfnaaGreatDoor
open Go.RowKit Go.Proofs.YtbngbefchobfnaaGreatDoor.Print Go.Proofs.YtbngbefchobfnaaGreatDoorW.PrintWords
theorem ofL_app (a b : List UInt8) : ofL a ++ ofL b = ofL (a ++ b) := by
 have : (ofL a ++ ofL b).data.toList = a ++ b := by rw [ByteArray.data_append]; simp [ofL]
 rw [← ofL_data (ofL a ++ ofL b), this]
theorem toL_ofL (a : List UInt8) : (ofL a).toList = a := by rw [Lib.toList_data, data_ofL]
theorem ext_ofL (s : ByteArray) (a b : Nat) : s.extract a b = ofL ((s.data.toList.take b).drop a) := by rw [← ofL_data (s.extract a b), ext_data]
theorem w64_succ (i : Nat) (h : i < 8999999999999999999) : wrap64 ((i : Int) + 1) = ((i + 1 : Nat) : Int) := w64_1 i h
section
variable {s : ByteArray} {out : List UInt8} {a i : Nat} {r : ByteArray × Int}
theorem C_l0_end (h : ¬ (i : Int) ≤ (s.size : Int)) : Ev (fun k => bindleref01_Clean.l0 k s (ofL out) (a : Int) (i : Int)) (ofL (finC out).1, (finC out).2) := by
 unfold finC
 by_cases h1 : out = []
 ·rw [if_pos (.inl h1)]
  exact Ev.step (f := fun _ => some (⟨#[]⟩, 6)) (fun k => by rw [bindleref01_Clean.l0, if_neg h, toL_ofL, if_pos h1]) (Ev.now _)
 ·by_cases h2 : 200 < out.length
  ·rw [if_pos (.inr h2)]
   exact Ev.step (f := fun _ => some (⟨#[]⟩, 6)) (fun k => by rw [bindleref01_Clean.l0, if_neg h, toL_ofL, if_neg h1, size_ofL, if_pos (by omega)]) (Ev.now _)
  ·rw [if_neg (by simp [h1]; omega)]
   exact Ev.step (f := fun _ => some (ofL out, 0)) (fun k => by rw [bindleref01_Clean.l0, if_neg h, toL_ofL, if_neg h1, size_ofL, if_neg (by omega)]) (Ev.now _)
theorem C_l0_in (h : (i : Int) < (s.size : Int)) (k : Ev (fun k => bindleref01_Clean.j2 k s (ofL out) (a : Int) (i : Int) (bt s (i : Int) != 47)) r) : Ev (fun k => bindleref01_Clean.l0 k s (ofL out) (a : Int) (i : Int)) r :=
 Ev.step (fun k => by rw [bindleref01_Clean.l0, if_pos (by omega), if_pos h, if_pos (by omega)]) k
theorem C_l0_at (h : (i : Int) = (s.size : Int)) (k : Ev (fun k => bindleref01_Clean.j2 k s (ofL out) (a : Int) (i : Int) false) r) : Ev (fun k => bindleref01_Clean.l0 k s (ofL out) (a : Int) (i : Int)) r :=
 Ev.step (fun k => by rw [bindleref01_Clean.l0, if_pos (by omega), if_neg (by omega)]) k
theorem C_j2_on (hi : i < 8999999999999999999) (k : Ev (fun k => bindleref01_Clean.l0 k s (ofL out) (a : Int) ((i + 1 : Nat) : Int)) r) : Ev (fun k => bindleref01_Clean.j2 k s (ofL out) (a : Int) (i : Int) true) r :=
 Ev.step (fun k => by rw [bindleref01_Clean.j2, if_pos rfl, w64_succ i hi]) k
theorem C_piece (ha : a ≤ i) (hl : i ≤ s.size) (hi : i < 8999999999999999) (ho : out.length ≤ a) (hp : ∀ p, p = (s.data.toList.take i).drop a → p ≠ [46, 46] → Ev (fun k => bindleref01_Clean.l0 k s (ofL (addP out p)) ((i + 1 : Nat) : Int) ((i + 1 : Nat) : Int)) r)
  (hu : (s.data.toList.take i).drop a = [46, 46] → r = (⟨#[]⟩, 6)) : Ev (fun k => bindleref01_Clean.j2 k s (ofL out) (a : Int) (i : Int) false) r := by
 have hx : s.extract a i = ofL ((s.data.toList.take i).drop a) := ext_ofL s a i
 have hpl : ((s.data.toList.take i).drop a).length = i - a := by rw [List.length_drop, List.length_take]; simp; omega
 generalize (s.data.toList.take i).drop a = p at hx hp hu hpl
 have hp' := hp p rfl
 clear hp
 have W := w64_succ i (by omega)
 by_cases c1 : p = [46, 46]
 ·rw [hu c1]
  exact Ev.step (f := fun _ => some (⟨#[]⟩, 6)) (fun k => by rw [bindleref01_Clean.j2, if_neg (by decide), if_pos (Int.natCast_nonneg _), if_pos (Int.ofNat_le.2 ha), if_pos (Int.ofNat_le.2 hl), Int.toNat_natCast, Int.toNat_natCast, hx, toL_ofL, if_pos c1]) (Ev.now _)
 have Q := hp' c1
 by_cases c2 : p = []
 ·refine Ev.step (f := fun k => bindleref01_Clean.j3 k s (ofL out) ((i + 1 : Nat) : Int) (i : Int) (ofL p) true) (fun k => by
   rw [bindleref01_Clean.j2, if_neg (by decide), if_pos (Int.natCast_nonneg _), if_pos (Int.ofNat_le.2 ha), if_pos (Int.ofNat_le.2 hl), Int.toNat_natCast, Int.toNat_natCast, hx, toL_ofL, if_neg c1, if_pos c2, W]) ?_
  have e : addP out p = out := by subst c2; rfl
  rw [e] at Q
  exact Ev.step (fun k => by rw [bindleref01_Clean.j3, if_pos rfl, W]) Q
 refine Ev.step (f := fun k => bindleref01_Clean.j3 k s (ofL out) ((i + 1 : Nat) : Int) (i : Int) (ofL p) (p == [46])) (fun k => by
   rw [bindleref01_Clean.j2, if_neg (by decide), if_pos (Int.natCast_nonneg _), if_pos (Int.ofNat_le.2 ha), if_pos (Int.ofNat_le.2 hl), Int.toNat_natCast, Int.toNat_natCast, hx, toL_ofL, if_neg c1, if_neg c2, W]) ?_
 by_cases c3 : p = [46]
 ·have e : addP out p = out := by subst c3; rfl
  rw [e] at Q
  exact Ev.step (fun k => by rw [bindleref01_Clean.j3, if_pos (by simpa using c3), W]) Q
 have hk : keepL p = true := by simp [keepL, c2, c3]
 have sp := size_ofL p
 have so := size_ofL out
 by_cases c4 : out = []
 ·have e : addP out p = out ++ p := by simp [addP, hk, c4]
  rw [e] at Q
  exact Ev.step (fun k => by rw [bindleref01_Clean.j3, if_neg (by simpa using c3), toL_ofL, if_pos c4, if_pos (by omega), ofL_app, W]) Q
 ·have e : addP out p = (out ++ [47]) ++ p := by simp [addP, hk, c4]
  rw [e] at Q
  have h47 : (⟨#[47]⟩ : ByteArray) = ofL [47] := rfl
  have s1 := size_ofL (out ++ [47])
  rw [List.length_append] at s1
  simp only [List.length_singleton] at s1
  exact Ev.step (fun k => by rw [bindleref01_Clean.j3, if_neg (by simpa using c3), toL_ofL, if_neg c4, if_pos (by omega), h47, ofL_app, if_pos (by omega), ofL_app, W]) Q
end
theorem addP_len (out p : List UInt8) (a i : Nat) (h : out.length ≤ a) (hp : p.length = i - a) (ha : a ≤ i) : (addP out p).length ≤ i + 1 := by
 unfold addP
 split
 ·split
  ·omega
  ·simp; omega
 ·omega
theorem Clean_loop (s : ByteArray) (hs : s.size ≤ 8000000000000000) : ∀ (n i a : Nat) (out : List UInt8), i + n = s.size → a ≤ i → out.length ≤ a → (∀ c ∈ (s.data.toList.take i).drop a, c ≠ 47) →
  Ev (fun k => bindleref01_Clean.l0 k s (ofL out) (a : Int) (i : Int)) (ofL (foldC out (splitB (s.data.toList.drop a))).1, (foldC out (splitB (s.data.toList.drop a))).2) := by
 intro n
 have hl : s.data.toList.length = s.size := by simp
 induction n with
 | zero =>
  intro i a out hn ha ho hno
  have hdrop : (s.data.toList.take i).drop a = s.data.toList.drop a := by rw [List.take_of_length_le (by omega)]
  rw [hdrop] at hno
  rw [splitB_no _ hno]
  refine C_l0_at (by omega) (C_piece ha (by omega) (by omega) ho ?_ ?_)
  ·intro p hp hne
   rw [hdrop] at hp
   rw [← hp, foldC_cons _ _ _ hne, foldC_nil]
   exact C_l0_end (by omega)
  ·intro e
   rw [hdrop] at e
   rw [foldC_up _ _ _ e]
   rfl
 | succ n ih =>
  intro i a out hn ha ho hno
  have hbt := bt_getD s i
  have hget : s.data.toList.getD i 0 = s.data.toList[i]'(by omega) := by rw [List.getD_eq_getElem?_getD, List.getElem?_eq_getElem (by omega)]; rfl
  refine C_l0_in (by omega) ?_
  by_cases c : s.data.toList[i]'(by omega) = 47
  ·have hf : (bt s (i : Int) != 47) = false := by rw [hbt, hget, c]; rfl
   rw [hf]
   have hsp : s.data.toList.drop a = (s.data.toList.take i).drop a ++ 47 :: s.data.toList.drop (i + 1) := by
    rw [← c, ← List.drop_eq_getElem_cons (by omega)]
    conv => lhs; rw [← List.take_append_drop i s.data.toList]
    rw [List.drop_append_of_le_length (by rw [List.length_take]; omega)]
   have hpl : ((s.data.toList.take i).drop a).length = i - a := by rw [List.length_drop, List.length_take]; omega
   rw [hsp, splitB_app _ _ hno]
   refine C_piece ha (by omega) (by omega) ho ?_ ?_
   ·intro p hp hne
    rw [← hp, foldC_cons _ _ _ hne]
    refine ih (i + 1) (i + 1) _ (by omega) (Nat.le_refl _) (addP_len _ _ a i ho (by rw [hp]; exact hpl) ha) ?_
    intro x hx
    rw [List.drop_eq_nil_of_le (by rw [List.length_take]; omega)] at hx
    simp at hx
   ·intro e
    rw [foldC_up _ _ _ e]
    rfl
  ·have hf : (bt s (i : Int) != 47) = true := by
    rw [hbt, hget]
    simp only [bne_iff_ne, ne_eq]
    intro e
    exact c (UInt8.toNat_inj.1 (show (s.data.toList[i]'(by omega)).toNat = 47 by omega))
   rw [hf]
   refine C_j2_on (by omega) (ih (i + 1) a out (by omega) (by omega) ho ?_)
   intro x hx
   rw [List.take_succ_eq_append_getElem (by omega), List.drop_append_of_le_length (by rw [List.length_take]; omega)] at hx
   rcases List.mem_append.1 hx with hx | hx
   ·exact hno x hx
   ·rw [List.mem_singleton.1 hx]; exact c
theorem RefClean_eq (s : ByteArray) (hs : s.size ≤ 8000000000000000) : Ev (fun k => bindleref01_Clean.f k s) (cleanF s) := by
 have hT := Text_eq s (by omega)
 have hL := Clean_loop s hs s.size 0 0 [] (by omega) (by omega) (by simp) (by simp)
 rw [cleanF_L, cleanL_fold]
 have eg : rightB s = goodL s.data.toList := rightB_good s
 rw [← eg]
 refine Ev.congr (f := fun k => (bindleref01_Text.f k s).bind fun t109 => (if t109 = true then (if s.toList = ([] : List UInt8) then (bindleref01_Clean.j0 k s true) else (if 0 < (s.size : Int) then (bindleref01_Clean.j0 k s ((bt s 0) == 47)) else (none))) else (some ((⟨#[]⟩ : ByteArray), 9)))) (fun k => rfl) ?_
 refine Ev.bind hT ?_
 cases rightB s with
 | false => exact Ev.congr (fun k => rfl) (Ev.now _)
 | true =>
  simp only [if_true]
  rw [if_neg (by simp)]
  by_cases h0 : s.data.toList = []
  ·have e : s.toList = [] := by rw [Lib.toList_data]; exact h0
   refine Ev.congr (f := fun k => bindleref01_Clean.j0 k s true) (fun k => by rw [if_pos e]) ?_
   rw [h0]
   exact Ev.step (f := fun _ => some (⟨#[]⟩, 6)) (fun k => by rw [bindleref01_Clean.j0, if_pos rfl]) (Ev.now _)
  ·have e : ¬ s.toList = [] := by rw [Lib.toList_data]; exact h0
   have hpos : 0 < s.size := by have := List.length_pos_iff.2 h0; simpa using this
   refine Ev.congr (f := fun k => bindleref01_Clean.j0 k s ((bt s 0) == 47)) (fun k => by rw [if_neg e, if_pos (by omega)]) ?_
   have hb := bt_getD s 0
   cases hd : s.data.toList with
   | nil => exact absurd hd h0
   | cons c t =>
    rw [hd] at hb hL
    have hb' : bt s 0 = (c.toNat : Int) := by simpa using hb
    by_cases hc : c = 47
    ·subst hc
     have : (bt s 0 == 47) = true := by rw [hb']; rfl
     rw [this, if_pos (by rfl)]
     exact Ev.step (f := fun _ => some (⟨#[]⟩, 6)) (fun k => by rw [bindleref01_Clean.j0, if_pos rfl]) (Ev.now _)
    ·have : (bt s 0 == 47) = false := by
      rw [hb']
      simp only [beq_eq_false_iff_ne, ne_eq]
      intro e
      exact hc (by simpa using (UInt8.toNat_inj (b := 47)).1 (by simpa using (show c.toNat = 47 by omega)))
     rw [this, if_neg (by simpa using hc)]
     refine Ev.step (fun k => by rw [bindleref01_Clean.j0, if_neg (by decide)]) ?_
     simp only [List.drop_zero] at hL
     exact hL
end Go.Proofs.YtbngbefchobfnaaGreatDoor

namespace Go.Proofs.YtbngbefchobfnaaGreatDoor.Print
open Go.RowKit Go.Proofs.YtbngbefchobfnaaGreatDoorW.PrintWords Go.Proofs.YtbngbefchobfnaaGreatDoorW.PrintLast Go.Proofs.YtbngbefchobfnaaGreatDoorW.PrintMore
attribute [local go_sem] max2_int min2_int max_two min_two max_three min_three max_four min_four   -- for this text's walks alone
set_option linter.unusedVariables false
set_option linter.unusedSimpArgs false
def member_clean.f (a0 : ByteArray) : Option (Bool) := (path_Clean.f a0).bind fun bt523 => (if bt523.2 = 0 then (some (bt523.1.toList == a0.toList)) else (some false))
set_option maxHeartbeats 8000000 in
set_option maxRecDepth 100000 in
theorem member_clean.calls (a0 : ByteArray) (r : Bool) (w : World) (hT : Aside0 (Tabs w)) (h : member_clean.f a0 = some r) :
  Calls Tryz.prog 62 #[.string a0] w fun e w' => e = .returned (.bool r) ∧ Below w.heap.size w w' := by
 have HB := A0_ (Below.refl w.heap.size w)
 have H : ((path_Clean.f a0).bind fun bt523 => (if bt523.2 = 0 then (some (bt523.1.toList == a0.toList)) else (some false))) = some r := h
 clear h
 replace H := Option.bind_eq_some_iff.mp H
 obtain ⟨⟨t523, t524⟩, A20, H⟩ := H
 replace H : (if t524 = 0 then (some (t523.toList == a0.toList)) else (some false)) = some r := H
 have A2 := A0_ A20
 clear A20
 by_cases c3 : t524 = 0
 rotate_left
 ·rw [if_neg c3] at H
  have c3b0 : (t524 == 0) = false := beq_eq_false_iff_ne.mpr c3
  have c3b1 : (t524 != 0) = true := bne_iff_ne.mpr c3
  obtain rfl := Option.some.inj H
  go_enter Tryz.func62, Tryz.ntmps62
  go_wp2_with (first | ((with_reducible refine gate_callee (f := 72) rfl ?_); refine goesL_ (some 7) rfl rfl Tryz.func72 (by kernel_rfl) rfl #[.string a0] rfl wm_ ?_; (with_reducible refine (path_Clean.calls a0 t523 t524 _ ?side1 A2.out).mono ?_); (case side1 => exact A0_ (Tabs.below hT.out (wb_ HB.out))); rintro e w5 ⟨rfl, hb⟩; refine ⟨_, rfl, ?_⟩; have n0_ := A0_ (below_step (wb_ HB.out) hb); clear HB; have HB := n0_; clear n0_; (try clear hb); (try clear hb2); (try clear hk); (try clear hi)))
  go_ret
  exact ⟨we_, wb_ HB.out⟩
 rw [if_pos c3] at H
 have c3b0 : (t524 == 0) = true := beq_iff_eq.mpr c3
 have c3b1 : (t524 != 0) = false := bne_eq_false_iff_eq.mpr c3
 clear c3
 obtain rfl := Option.some.inj H
 go_enter Tryz.func62, Tryz.ntmps62
 go_wp2_with (first | ((with_reducible refine gate_callee (f := 72) rfl ?_); refine goesL_ (some 7) rfl rfl Tryz.func72 (by kernel_rfl) rfl #[.string a0] rfl wm_ ?_; (with_reducible refine (path_Clean.calls a0 t523 t524 _ ?side1 A2.out).mono ?_); (case side1 => exact A0_ (Tabs.below hT.out (wb_ HB.out))); rintro e w4 ⟨rfl, hb⟩; refine ⟨_, rfl, ?_⟩; have n0_ := A0_ (below_step (wb_ HB.out) hb); clear HB; have HB := n0_; clear n0_; (try clear hb); (try clear hb2); (try clear hk); (try clear hi)))
 go_ret
 exact ⟨we_, wb_ HB.out⟩
end Go.Proofs.YtbngbefchobfnaaGreatDoor.Print

namespace Go.Proofs.YtbngbefchobfnaaGreatDoor.Print
open Go.RowKit Go.Proofs.YtbngbefchobfnaaGreatDoorW.PrintWords Go.Proofs.YtbngbefchobfnaaGreatDoorW.PrintLast Go.Proofs.YtbngbefchobfnaaGreatDoorW.PrintMore
attribute [local go_sem] max2_int min2_int max_two min_two max_three min_three max_four min_four   -- for this text's walks alone
set_option linter.unusedVariables false
set_option linter.unusedSimpArgs false
def num_In.f (a0 : Int) (a1 : Int) (a2 : Int) : Option (Bool) := if a0 ≥ a1 then (some (decide (a0 ≤ a2))) else (some false)
set_option maxHeartbeats 8000000 in
set_option maxRecDepth 100000 in
theorem num_In.calls (a0 : Int) (a1 : Int) (a2 : Int) (r : Bool) (w : World) (h : num_In.f a0 a1 a2 = some r) :
  Calls Tryz.prog 73 #[.int .i64 a0, .int .i64 a1, .int .i64 a2] w fun e w' => e = .returned (.bool r) ∧ Drawn0 w w' := by
 have H : (if a0 ≥ a1 then (some (decide (a0 ≤ a2))) else (some false)) = some r := h
 clear h
 by_cases c4 : a0 ≥ a1
 ·rw [if_pos c4] at H
  have c4b0 : decide (a1 ≤ a0) = true := decide_eq_true c4
  clear c4
  obtain rfl := Option.some.inj H
  go_enter Tryz.func73, Tryz.ntmps73
  go_wp2
  go_ret
  exact ⟨by first | rfl | (simp; done) | (simp [*]; done), by repeat (first | exact Drawn0.refl _ | apply Drawn0.step)⟩
 rw [if_neg c4] at H
 have c4b0 : decide (a1 ≤ a0) = false := decide_eq_false c4
 clear c4
 obtain rfl := Option.some.inj H
 go_enter Tryz.func73, Tryz.ntmps73
 go_wp2
 go_ret
 exact ⟨by first | rfl | (simp; done) | (simp [*]; done), by repeat (first | exact Drawn0.refl _ | apply Drawn0.step)⟩
end Go.Proofs.YtbngbefchobfnaaGreatDoor.Print

namespace Go.Proofs.YtbngbefchobfnaaGreatDoor.Print
open Go.RowKit Go.Proofs.YtbngbefchobfnaaGreatDoorW.PrintWords Go.Proofs.YtbngbefchobfnaaGreatDoorW.PrintLast Go.Proofs.YtbngbefchobfnaaGreatDoorW.PrintMore
attribute [local go_sem] max2_int min2_int max_two min_two max_three min_three max_four min_four   -- for this text's walks alone
set_option linter.unusedVariables false
set_option linter.unusedSimpArgs false
def member_meta.f (a0_0 : Int) (a0_1 : Int) (a0_2 : Int) (a0_3 : Int) : Option (Bool) := (num_In.f a0_0 0 4095).bind fun t526 => (if t526 = true then ((num_In.f a0_1 0 2147483647).bind fun t527 => (if t527 = true then ((num_In.f a0_2 0 2147483647).bind fun t528 => (if t528 = true then ((num_In.f a0_3 0 1099511627776).bind fun t529 => (some t529)) else (some false))) else (some false))) else (some false))
set_option maxHeartbeats 8000000 in
set_option maxRecDepth 100000 in
theorem member_meta.calls (a0_0 : Int) (a0_1 : Int) (a0_2 : Int) (a0_3 : Int) (r : Bool) (w : World) (h : member_meta.f a0_0 a0_1 a0_2 a0_3 = some r) :
  Calls Tryz.prog 63 #[.agg #[.int .i64 a0_0, .int .i64 a0_1, .int .i64 a0_2, .int .i64 a0_3]] w fun e w' => e = .returned (.bool r) ∧ Below w.heap.size w w' := by
 have hu39 := Tryz.underlying39
 have HB := A0_ (Below.refl w.heap.size w)
 have H : ((num_In.f a0_0 0 4095).bind fun t526 => (if t526 = true then ((num_In.f a0_1 0 2147483647).bind fun t527 => (if t527 = true then ((num_In.f a0_2 0 2147483647).bind fun t528 => (if t528 = true then ((num_In.f a0_3 0 1099511627776).bind fun t529 => (some t529)) else (some false))) else (some false))) else (some false))) = some r := h
 clear h
 replace H := Option.bind_eq_some_iff.mp H
 obtain ⟨t526, A20, H⟩ := H
 replace H : (if t526 = true then ((num_In.f a0_1 0 2147483647).bind fun t527 => (if t527 = true then ((num_In.f a0_2 0 2147483647).bind fun t528 => (if t528 = true then ((num_In.f a0_3 0 1099511627776).bind fun t529 => (some t529)) else (some false))) else (some false))) else (some false)) = some r := H
 have A2 := A0_ A20
 clear A20
 by_cases c3 : t526 = true
 rotate_left
 ·replace c3 := Bool.eq_false_iff.mpr c3
  subst c3
  have H1 : (some false) = some r := by rw [if_neg (show ¬ (false = true) by decide)] at H; exact H
  clear H
  have H := H1
  clear H1
  obtain rfl := Option.some.inj H
  go_enter Tryz.func63, Tryz.ntmps63
  go_wp2_with (first | ((with_reducible refine gate_dst (N := 1) rfl ?_); refine box_event ?hg (N := 1) ?hd (cs := #[.int .i64 a0_0, .int .i64 a0_1, .int .i64 a0_2, .int .i64 a0_3]) (t := 39) ?hr ?_; (case hd => rfl); (case hg => rfl); (case hr => first | (go_simp; done) | (go_simp; rfl)); intro gb525 hg w15 hbox hb; have n0_ := A0_ (below_step (wb_ HB.out) hb); have n1_ := A0_ (hbox); have n2_ := A0_ ((by rw [hg]; exact (below_size (wb_ HB.out)) : w.heap.size ≤ gb525)); have n3_ := A0_ ((by rw [hg]; exact (below_size (wb_ HB.out)) : w.heap.size ≤ gb525)); clear HB; have HB := n0_; have BK525 := n1_; have GW525 := n2_; have GE525 := n3_; clear n0_ n1_ n2_ n3_; clear hb hbox hg; have hcz16_0 : w15.cell? ⟨gb525, 0, none⟩ = some (.int .i64 a0_0) := (bc_ BK525.out 0).trans rfl; have hcz16_1 : w15.cell? ⟨gb525, 1, none⟩ = some (.int .i64 a0_1) := (bc_ BK525.out 1).trans rfl; have hcz16_2 : w15.cell? ⟨gb525, 2, none⟩ = some (.int .i64 a0_2) := (bc_ BK525.out 2).trans rfl; have hcz16_3 : w15.cell? ⟨gb525, 3, none⟩ = some (.int .i64 a0_3) := (bc_ BK525.out 3).trans rfl; have hfz16_0 := bf_ BK525.out 0; have hfz16_1 := bf_ BK525.out 1; have hfz16_2 := bf_ BK525.out 2; have hfz16_3 := bf_ BK525.out 3) | ((with_reducible refine gate_callee (f := 73) rfl ?_); refine goesL_ (some 5) rfl rfl Tryz.func73 (by kernel_rfl) rfl #[.int .i64 a0_0, .int .i64 0, .int .i64 4095] rfl wm_ ?_; (with_reducible refine (num_In.calls a0_0 0 4095 false _ A2.out).mono ?_); rintro e w' ⟨rfl, ⟨nd, rfl⟩⟩; refine ⟨_, rfl, ?_⟩))
  go_ret
  exact ⟨we_, wb1_ HB.out GE525.out⟩
 subst c3
 have H1 : ((num_In.f a0_1 0 2147483647).bind fun t527 => (if t527 = true then ((num_In.f a0_2 0 2147483647).bind fun t528 => (if t528 = true then ((num_In.f a0_3 0 1099511627776).bind fun t529 => (some t529)) else (some false))) else (some false))) = some r := by rw [if_pos rfl] at H; exact H
 clear H
 have H := H1
 clear H1
 replace H := Option.bind_eq_some_iff.mp H
 obtain ⟨t527, A40, H⟩ := H
 replace H : (if t527 = true then ((num_In.f a0_2 0 2147483647).bind fun t528 => (if t528 = true then ((num_In.f a0_3 0 1099511627776).bind fun t529 => (some t529)) else (some false))) else (some false)) = some r := H
 have A4 := A0_ A40
 clear A40
 by_cases c5 : t527 = true
 rotate_left
 ·replace c5 := Bool.eq_false_iff.mpr c5
  subst c5
  have H1 : (some false) = some r := by rw [if_neg (show ¬ (false = true) by decide)] at H; exact H
  clear H
  have H := H1
  clear H1
  obtain rfl := Option.some.inj H
  go_enter Tryz.func63, Tryz.ntmps63
  go_wp2_with (first | ((with_reducible refine gate_dst (N := 1) rfl ?_); refine box_event ?hg (N := 1) ?hd (cs := #[.int .i64 a0_0, .int .i64 a0_1, .int .i64 a0_2, .int .i64 a0_3]) (t := 39) ?hr ?_; (case hd => rfl); (case hg => rfl); (case hr => first | (go_simp; done) | (go_simp; rfl)); intro gb525 hg w13 hbox hb; have n0_ := A0_ (below_step (wb_ HB.out) hb); have n1_ := A0_ (hbox); have n2_ := A0_ ((by rw [hg]; exact (below_size (wb_ HB.out)) : w.heap.size ≤ gb525)); have n3_ := A0_ ((by rw [hg]; exact (below_size (wb_ HB.out)) : w.heap.size ≤ gb525)); clear HB; have HB := n0_; have BK525 := n1_; have GW525 := n2_; have GE525 := n3_; clear n0_ n1_ n2_ n3_; clear hb hbox hg; have hcz14_0 : w13.cell? ⟨gb525, 0, none⟩ = some (.int .i64 a0_0) := (bc_ BK525.out 0).trans rfl; have hcz14_1 : w13.cell? ⟨gb525, 1, none⟩ = some (.int .i64 a0_1) := (bc_ BK525.out 1).trans rfl; have hcz14_2 : w13.cell? ⟨gb525, 2, none⟩ = some (.int .i64 a0_2) := (bc_ BK525.out 2).trans rfl; have hcz14_3 : w13.cell? ⟨gb525, 3, none⟩ = some (.int .i64 a0_3) := (bc_ BK525.out 3).trans rfl; have hfz14_0 := bf_ BK525.out 0; have hfz14_1 := bf_ BK525.out 1; have hfz14_2 := bf_ BK525.out 2; have hfz14_3 := bf_ BK525.out 3) | ((with_reducible refine gate_callee (f := 73) rfl ?_); refine goesL_ (some 5) rfl rfl Tryz.func73 (by kernel_rfl) rfl #[.int .i64 a0_0, .int .i64 0, .int .i64 4095] rfl wm_ ?_; (with_reducible refine (num_In.calls a0_0 0 4095 true _ A2.out).mono ?_); rintro e w' ⟨rfl, ⟨nd, rfl⟩⟩; refine ⟨_, rfl, ?_⟩) | (go_at_call 73; (with_reducible refine (num_In.calls a0_1 0 2147483647 false _ A4.out).mono ?_); rintro e w' ⟨rfl, ⟨nd, rfl⟩⟩))
  go_ret
  exact ⟨we_, wb1_ HB.out GE525.out⟩
 subst c5
 have H1 : ((num_In.f a0_2 0 2147483647).bind fun t528 => (if t528 = true then ((num_In.f a0_3 0 1099511627776).bind fun t529 => (some t529)) else (some false))) = some r := by rw [if_pos rfl] at H; exact H
 clear H
 have H := H1
 clear H1
 replace H := Option.bind_eq_some_iff.mp H
 obtain ⟨t528, A60, H⟩ := H
 replace H : (if t528 = true then ((num_In.f a0_3 0 1099511627776).bind fun t529 => (some t529)) else (some false)) = some r := H
 have A6 := A0_ A60
 clear A60
 by_cases c7 : t528 = true
 rotate_left
 ·replace c7 := Bool.eq_false_iff.mpr c7
  subst c7
  have H1 : (some false) = some r := by rw [if_neg (show ¬ (false = true) by decide)] at H; exact H
  clear H
  have H := H1
  clear H1
  obtain rfl := Option.some.inj H
  go_enter Tryz.func63, Tryz.ntmps63
  go_wp2_with (first | ((with_reducible refine gate_dst (N := 1) rfl ?_); refine box_event ?hg (N := 1) ?hd (cs := #[.int .i64 a0_0, .int .i64 a0_1, .int .i64 a0_2, .int .i64 a0_3]) (t := 39) ?hr ?_; (case hd => rfl); (case hg => rfl); (case hr => first | (go_simp; done) | (go_simp; rfl)); intro gb525 hg w11 hbox hb; have n0_ := A0_ (below_step (wb_ HB.out) hb); have n1_ := A0_ (hbox); have n2_ := A0_ ((by rw [hg]; exact (below_size (wb_ HB.out)) : w.heap.size ≤ gb525)); have n3_ := A0_ ((by rw [hg]; exact (below_size (wb_ HB.out)) : w.heap.size ≤ gb525)); clear HB; have HB := n0_; have BK525 := n1_; have GW525 := n2_; have GE525 := n3_; clear n0_ n1_ n2_ n3_; clear hb hbox hg; have hcz12_0 : w11.cell? ⟨gb525, 0, none⟩ = some (.int .i64 a0_0) := (bc_ BK525.out 0).trans rfl; have hcz12_1 : w11.cell? ⟨gb525, 1, none⟩ = some (.int .i64 a0_1) := (bc_ BK525.out 1).trans rfl; have hcz12_2 : w11.cell? ⟨gb525, 2, none⟩ = some (.int .i64 a0_2) := (bc_ BK525.out 2).trans rfl; have hcz12_3 : w11.cell? ⟨gb525, 3, none⟩ = some (.int .i64 a0_3) := (bc_ BK525.out 3).trans rfl; have hfz12_0 := bf_ BK525.out 0; have hfz12_1 := bf_ BK525.out 1; have hfz12_2 := bf_ BK525.out 2; have hfz12_3 := bf_ BK525.out 3) | ((with_reducible refine gate_callee (f := 73) rfl ?_); refine goesL_ (some 5) rfl rfl Tryz.func73 (by kernel_rfl) rfl #[.int .i64 a0_0, .int .i64 0, .int .i64 4095] rfl wm_ ?_; (with_reducible refine (num_In.calls a0_0 0 4095 true _ A2.out).mono ?_); rintro e w' ⟨rfl, ⟨nd, rfl⟩⟩; refine ⟨_, rfl, ?_⟩) | (go_at_call 73; (with_reducible refine (num_In.calls a0_1 0 2147483647 true _ A4.out).mono ?_); rintro e w' ⟨rfl, ⟨nd, rfl⟩⟩) | (go_at_call 73; (with_reducible refine (num_In.calls a0_2 0 2147483647 false _ A6.out).mono ?_); rintro e w' ⟨rfl, ⟨nd, rfl⟩⟩))
  go_ret
  exact ⟨we_, wb1_ HB.out GE525.out⟩
 subst c7
 have H1 : ((num_In.f a0_3 0 1099511627776).bind fun t529 => (some t529)) = some r := by rw [if_pos rfl] at H; exact H
 clear H
 have H := H1
 clear H1
 replace H := Option.bind_eq_some_iff.mp H
 obtain ⟨t529, A80, H⟩ := H
 replace H : (some t529) = some r := H
 have A8 := A0_ A80
 clear A80
 obtain rfl := Option.some.inj H
 go_enter Tryz.func63, Tryz.ntmps63
 go_wp2_with (first | ((with_reducible refine gate_dst (N := 1) rfl ?_); refine box_event ?hg (N := 1) ?hd (cs := #[.int .i64 a0_0, .int .i64 a0_1, .int .i64 a0_2, .int .i64 a0_3]) (t := 39) ?hr ?_; (case hd => rfl); (case hg => rfl); (case hr => first | (go_simp; done) | (go_simp; rfl)); intro gb525 hg w9 hbox hb; have n0_ := A0_ (below_step (wb_ HB.out) hb); have n1_ := A0_ (hbox); have n2_ := A0_ ((by rw [hg]; exact (below_size (wb_ HB.out)) : w.heap.size ≤ gb525)); have n3_ := A0_ ((by rw [hg]; exact (below_size (wb_ HB.out)) : w.heap.size ≤ gb525)); clear HB; have HB := n0_; have BK525 := n1_; have GW525 := n2_; have GE525 := n3_; clear n0_ n1_ n2_ n3_; clear hb hbox hg; have hcz10_0 : w9.cell? ⟨gb525, 0, none⟩ = some (.int .i64 a0_0) := (bc_ BK525.out 0).trans rfl; have hcz10_1 : w9.cell? ⟨gb525, 1, none⟩ = some (.int .i64 a0_1) := (bc_ BK525.out 1).trans rfl; have hcz10_2 : w9.cell? ⟨gb525, 2, none⟩ = some (.int .i64 a0_2) := (bc_ BK525.out 2).trans rfl; have hcz10_3 : w9.cell? ⟨gb525, 3, none⟩ = some (.int .i64 a0_3) := (bc_ BK525.out 3).trans rfl; have hfz10_0 := bf_ BK525.out 0; have hfz10_1 := bf_ BK525.out 1; have hfz10_2 := bf_ BK525.out 2; have hfz10_3 := bf_ BK525.out 3) | ((with_reducible refine gate_callee (f := 73) rfl ?_); refine goesL_ (some 5) rfl rfl Tryz.func73 (by kernel_rfl) rfl #[.int .i64 a0_0, .int .i64 0, .int .i64 4095] rfl wm_ ?_; (with_reducible refine (num_In.calls a0_0 0 4095 true _ A2.out).mono ?_); rintro e w' ⟨rfl, ⟨nd, rfl⟩⟩; refine ⟨_, rfl, ?_⟩) | (go_at_call 73; (with_reducible refine (num_In.calls a0_1 0 2147483647 true _ A4.out).mono ?_); rintro e w' ⟨rfl, ⟨nd, rfl⟩⟩) | (go_at_call 73; (with_reducible refine (num_In.calls a0_2 0 2147483647 true _ A6.out).mono ?_); rintro e w' ⟨rfl, ⟨nd, rfl⟩⟩) | (go_at_call 73; (with_reducible refine (num_In.calls a0_3 0 1099511627776 t529 _ A8.out).mono ?_); rintro e w' ⟨rfl, ⟨nd, rfl⟩⟩))
 go_ret
 exact ⟨we_, wb1_ HB.out GE525.out⟩
end Go.Proofs.YtbngbefchobfnaaGreatDoor.Print

namespace Go.Proofs.YtbngbefchobfnaaGreatDoor.Print
open Go.RowKit Go.Proofs.YtbngbefchobfnaaGreatDoorW.PrintWords Go.Proofs.YtbngbefchobfnaaGreatDoorW.PrintLast Go.Proofs.YtbngbefchobfnaaGreatDoorW.PrintMore
attribute [local go_sem] max2_int min2_int max_two min_two max_three min_three max_four min_four   -- for this text's walks alone
set_option linter.unusedVariables false
set_option linter.unusedSimpArgs false
def path_Target.f (a0 : ByteArray) : Option (Int) := (path_right.f a0).bind fun t530 => (if t530 = true then (if a0.toList = ([] : List UInt8) then (some 6) else (if (a0.size : Int) > 200 then (some 6) else (some 0))) else (some 9))
set_option maxHeartbeats 8000000 in
set_option maxRecDepth 100000 in
theorem path_Target.calls (a0 : ByteArray) (r : Int) (w : World) (hT : Aside0 (Tabs w)) (h : path_Target.f a0 = some r) :
  Calls Tryz.prog 64 #[.string a0] w fun e w' => e = .returned (.int .i64 r) ∧ Below w.heap.size w w' := by
 have HB := A0_ (Below.refl w.heap.size w)
 have H : ((path_right.f a0).bind fun t530 => (if t530 = true then (if a0.toList = ([] : List UInt8) then (some 6) else (if (a0.size : Int) > 200 then (some 6) else (some 0))) else (some 9))) = some r := h
 clear h
 replace H := Option.bind_eq_some_iff.mp H
 obtain ⟨t530, A20, H⟩ := H
 replace H : (if t530 = true then (if a0.toList = ([] : List UInt8) then (some 6) else (if (a0.size : Int) > 200 then (some 6) else (some 0))) else (some 9)) = some r := H
 have A2 := A0_ A20
 clear A20
 by_cases c3 : t530 = true
 rotate_left
 ·replace c3 := Bool.eq_false_iff.mpr c3
  subst c3
  have H1 : (some 9) = some r := by rw [if_neg (show ¬ (false = true) by decide)] at H; exact H
  clear H
  have H := H1
  clear H1
  obtain rfl := Option.some.inj H
  go_enter Tryz.func64, Tryz.ntmps64
  go_wp2_with (first | ((with_reducible refine gate_callee (f := 74) rfl ?_); refine goesL_ (some 5) rfl rfl Tryz.func74 (by kernel_rfl) rfl #[.string a0] rfl wm_ ?_; (with_reducible refine (path_right.calls a0 false _ ?side1 A2.out).mono ?_); (case side1 => exact A0_ (Tabs.below hT.out (wb_ HB.out))); rintro e w9 ⟨rfl, hb⟩; refine ⟨_, rfl, ?_⟩; have n0_ := A0_ (below_step (wb_ HB.out) hb); clear HB; have HB := n0_; clear n0_; (try clear hb); (try clear hb2); (try clear hk); (try clear hi)))
  go_ret
  exact ⟨we_, wb_ HB.out⟩
 subst c3
 have H1 : (if a0.toList = ([] : List UInt8) then (some 6) else (if (a0.size : Int) > 200 then (some 6) else (some 0))) = some r := by rw [if_pos rfl] at H; exact H
 clear H
 have H := H1
 clear H1
 by_cases c4 : a0.toList = ([] : List UInt8)
 ·rw [if_pos c4] at H
  have c4b0 : (a0.toList == ([] : List UInt8)) = true := beq_iff_eq.mpr c4
  have c4b1 : (a0.toList != ([] : List UInt8)) = false := bne_eq_false_iff_eq.mpr c4
  clear c4
  obtain rfl := Option.some.inj H
  go_enter Tryz.func64, Tryz.ntmps64
  go_wp2_with (first | ((with_reducible refine gate_callee (f := 74) rfl ?_); refine goesL_ (some 5) rfl rfl Tryz.func74 (by kernel_rfl) rfl #[.string a0] rfl wm_ ?_; (with_reducible refine (path_right.calls a0 true _ ?side1 A2.out).mono ?_); (case side1 => exact A0_ (Tabs.below hT.out (wb_ HB.out))); rintro e w5 ⟨rfl, hb⟩; refine ⟨_, rfl, ?_⟩; have n0_ := A0_ (below_step (wb_ HB.out) hb); clear HB; have HB := n0_; clear n0_; (try clear hb); (try clear hb2); (try clear hk); (try clear hi)))
  go_ret
  exact ⟨we_, wb_ HB.out⟩
 rw [if_neg c4] at H
 have c4b0 : (a0.toList == ([] : List UInt8)) = false := beq_eq_false_iff_ne.mpr c4
 have c4b1 : (a0.toList != ([] : List UInt8)) = true := bne_iff_ne.mpr c4
 by_cases c6 : (a0.size : Int) > 200
 ·rw [if_pos c6] at H
  have c6b0 : decide (200 < (a0.size : Int)) = true := decide_eq_true c6
  have c6b1 : decide (200 < a0.size) = true := decide_eq_true (by omega)
  clear c6
  obtain rfl := Option.some.inj H
  go_enter Tryz.func64, Tryz.ntmps64
  go_wp2_with (first | ((with_reducible refine gate_callee (f := 74) rfl ?_); refine goesL_ (some 5) rfl rfl Tryz.func74 (by kernel_rfl) rfl #[.string a0] rfl wm_ ?_; (with_reducible refine (path_right.calls a0 true _ ?side1 A2.out).mono ?_); (case side1 => exact A0_ (Tabs.below hT.out (wb_ HB.out))); rintro e w7 ⟨rfl, hb⟩; refine ⟨_, rfl, ?_⟩; have n0_ := A0_ (below_step (wb_ HB.out) hb); clear HB; have HB := n0_; clear n0_; (try clear hb); (try clear hb2); (try clear hk); (try clear hi)))
  go_ret
  exact ⟨we_, wb_ HB.out⟩
 rw [if_neg c6] at H
 have c6b0 : decide (200 < (a0.size : Int)) = false := decide_eq_false c6
 have c6b1 : decide (200 < a0.size) = false := decide_eq_false (by omega)
 clear c6
 obtain rfl := Option.some.inj H
 go_enter Tryz.func64, Tryz.ntmps64
 go_wp2_with (first | ((with_reducible refine gate_callee (f := 74) rfl ?_); refine goesL_ (some 5) rfl rfl Tryz.func74 (by kernel_rfl) rfl #[.string a0] rfl wm_ ?_; (with_reducible refine (path_right.calls a0 true _ ?side1 A2.out).mono ?_); (case side1 => exact A0_ (Tabs.below hT.out (wb_ HB.out))); rintro e w8 ⟨rfl, hb⟩; refine ⟨_, rfl, ?_⟩; have n0_ := A0_ (below_step (wb_ HB.out) hb); clear HB; have HB := n0_; clear n0_; (try clear hb); (try clear hb2); (try clear hk); (try clear hi)))
 go_ret
 exact ⟨we_, wb_ HB.out⟩
end Go.Proofs.YtbngbefchobfnaaGreatDoor.Print

namespace Go.Proofs.YtbngbefchobfnaaGreatDoor.Print
open Go.RowKit Go.Proofs.YtbngbefchobfnaaGreatDoorW.PrintWords Go.Proofs.YtbngbefchobfnaaGreatDoorW.PrintLast Go.Proofs.YtbngbefchobfnaaGreatDoorW.PrintMore
attribute [local go_sem] max2_int min2_int max_two min_two max_three min_three max_four min_four   -- for this text's walks alone
set_option linter.unusedVariables false
set_option linter.unusedSimpArgs false
mutual
def member_Good.j0 : Nat → Bool → ByteArray → ByteArray → Int → Int → Int → Int → Int → List Int → Option (Bool)
 | 0, _, _, _, _, _, _, _, _, _ => none
 | k + 1, x29, x532000, x532001, x532002, x532003, x532004, x532005, x532006, x532007 => if x29 = true then (some false) else (if x532002 = 48 then (member_Good.j1 k x532002 (x532002 == 48) x532000 x532001 x532002 x532003 x532004 x532005 x532006 x532007) else (member_Good.j1 k x532002 (x532002 == 53) x532000 x532001 x532002 x532003 x532004 x532005 x532006 x532007))
def member_Good.j1 : Nat → Int → Bool → ByteArray → ByteArray → Int → Int → Int → Int → Int → List Int → Option (Bool)
 | 0, _, _, _, _, _, _, _, _, _, _ => none
 | k + 1, x31, x32, x532000, x532001, x532002, x532003, x532004, x532005, x532006, x532007 => if x32 = true then (some (x532001.toList == ([] : List UInt8))) else (if x31 = 49 then ((member_clean.f x532001).bind fun t534 => (some t534)) else (if x31 = 50 then ((path_Target.f x532001).bind fun t535 => (some (t535 == 0))) else (some false)))
end
def member_Good.f (k : Nat) (a0_0 : ByteArray) (a0_1 : ByteArray) (a0_2 : Int) (a0_3 : Int) (a0_4 : Int) (a0_5 : Int) (a0_6 : Int) (l0_7 : List Int) : Option (Bool) := (member_clean.f a0_0).bind fun t532 => (if t532 = true then ((member_meta.f a0_3 a0_4 a0_5 a0_6).bind fun t533 => (if t533 = true then (if (l0_7.length : Int) > 1048576 then (member_Good.j0 k true a0_0 a0_1 a0_2 a0_3 a0_4 a0_5 a0_6 l0_7) else (if a0_2 = 48 then (member_Good.j0 k false a0_0 a0_1 a0_2 a0_3 a0_4 a0_5 a0_6 l0_7) else (member_Good.j0 k (decide ((l0_7.length : Int) > 0)) a0_0 a0_1 a0_2 a0_3 a0_4 a0_5 a0_6 l0_7))) else (member_Good.j0 k true a0_0 a0_1 a0_2 a0_3 a0_4 a0_5 a0_6 l0_7))) else (member_Good.j0 k true a0_0 a0_1 a0_2 a0_3 a0_4 a0_5 a0_6 l0_7))
set_option maxHeartbeats 8000000 in
set_option maxRecDepth 100000 in
theorem member_Good.calls (k : Nat) (a0_0 : ByteArray) (a0_1 : ByteArray) (a0_2 : Int) (a0_3 : Int) (a0_4 : Int) (a0_5 : Int) (a0_6 : Int) (A0_7 : Option Addr) (c0_7 : Nat) (l0_7 : List Int) (r : Bool) (w : World) (hT : Aside0 (Tabs w)) (hr0_7 : Kd.C (Kd.int .u8) w A0_7 l0_7.length l0_7) (hc0_7 : l0_7.length ≤ c0_7) (h : member_Good.f k a0_0 a0_1 a0_2 a0_3 a0_4 a0_5 a0_6 l0_7 = some r) :
  Calls Tryz.prog 50 #[.agg #[.string a0_0, .string a0_1, .int .u8 a0_2, .int .i64 a0_3, .int .i64 a0_4, .int .i64 a0_5, .int .i64 a0_6, .slice A0_7 l0_7.length c0_7]] w fun e w' => e = .returned (.bool r) ∧ Below w.heap.size w w' := by
 have hu72 := Tryz.underlying72
 have hu39 := Tryz.underlying39
 have HR0_7 := A0_ hr0_7
 have HC0_7 := A0_ hc0_7
 clear hr0_7 hc0_7
 have HB := A0_ (Below.refl w.heap.size w)
 have H : ((member_clean.f a0_0).bind fun t532 => (if t532 = true then ((member_meta.f a0_3 a0_4 a0_5 a0_6).bind fun t533 => (if t533 = true then (if (l0_7.length : Int) > 1048576 then (member_Good.j0 k true a0_0 a0_1 a0_2 a0_3 a0_4 a0_5 a0_6 l0_7) else (if a0_2 = 48 then (member_Good.j0 k false a0_0 a0_1 a0_2 a0_3 a0_4 a0_5 a0_6 l0_7) else (member_Good.j0 k (decide ((l0_7.length : Int) > 0)) a0_0 a0_1 a0_2 a0_3 a0_4 a0_5 a0_6 l0_7))) else (member_Good.j0 k true a0_0 a0_1 a0_2 a0_3 a0_4 a0_5 a0_6 l0_7))) else (member_Good.j0 k true a0_0 a0_1 a0_2 a0_3 a0_4 a0_5 a0_6 l0_7))) = some r := h
 clear h
 have HC2 := A0_ H
 clear H
 go_enter Tryz.func50, Tryz.ntmps50
 go_upto_region 1 with (first | ((with_reducible refine gate_dst (N := 1) rfl ?_); (try (refine gate_guard (by rfl) ?_; dsimp only)); refine box_event ?hg (N := 1) ?hd (cs := #[.string a0_0, .string a0_1, .int .u8 a0_2, .int .i64 a0_3, .int .i64 a0_4, .int .i64 a0_5, .int .i64 a0_6, .slice A0_7 l0_7.length c0_7]) (t := 72) ?hr ?_; (case hd => rfl); (case hg => rfl); (case hr => first | (go_simp; done) | (go_simp; rfl)); intro gb531 hg w3 hbox hb; have n0_ := A0_ (below_step (wb_ HB.out) hb); have n1_ := A0_ (hbox); have n2_ := A0_ ((by rw [hg]; exact (below_size (wb_ HB.out)) : w.heap.size ≤ gb531)); have n3_ := A0_ ((by rw [hg]; exact (below_size (wb_ HB.out)) : w.heap.size ≤ gb531)); clear HB; have HB := n0_; have BK531 := n1_; have GW531 := n2_; have GE531 := n3_; clear n0_ n1_ n2_ n3_; clear hb hbox hg))
 (try simp only [Act.put, List.setIfInBounds_toArray, List.set_cons_zero, List.set_cons_succ])
 go_cut [29] (fun v29 wc => ∃ (kq : Nat) (x29_1 : Bool), v29 = .bool x29_1 ∧ Aside0 (member_Good.j0 kq x29_1 a0_0 a0_1 a0_2 a0_3 a0_4 a0_5 a0_6 l0_7 = some r) ∧ Aside0 (kq ≤ k) ∧ Aside0 (wc.heap[gb531]? = some (.cells #[.string a0_0, .string a0_1, .int .u8 a0_2, .int .i64 a0_3, .int .i64 a0_4, .int .i64 a0_5, .int .i64 a0_6, (.slice A0_7 l0_7.length c0_7)] 72 (0, 0))) ∧ Aside0 (Below w.heap.size w wc))
 case first =>
  have H := HC2.out
  clear HC2
  replace H := Option.bind_eq_some_iff.mp H
  obtain ⟨t532, A40, H⟩ := H
  replace H : (if t532 = true then ((member_meta.f a0_3 a0_4 a0_5 a0_6).bind fun t533 => (if t533 = true then (if (l0_7.length : Int) > 1048576 then (member_Good.j0 k true a0_0 a0_1 a0_2 a0_3 a0_4 a0_5 a0_6 l0_7) else (if a0_2 = 48 then (member_Good.j0 k false a0_0 a0_1 a0_2 a0_3 a0_4 a0_5 a0_6 l0_7) else (member_Good.j0 k (decide ((l0_7.length : Int) > 0)) a0_0 a0_1 a0_2 a0_3 a0_4 a0_5 a0_6 l0_7))) else (member_Good.j0 k true a0_0 a0_1 a0_2 a0_3 a0_4 a0_5 a0_6 l0_7))) else (member_Good.j0 k true a0_0 a0_1 a0_2 a0_3 a0_4 a0_5 a0_6 l0_7)) = some r := H
  have A4 := A0_ A40
  clear A40
  by_cases c5 : t532 = true
  rotate_left
  ·replace c5 := Bool.eq_false_iff.mpr c5
   subst c5
   have H1 : (member_Good.j0 k true a0_0 a0_1 a0_2 a0_3 a0_4 a0_5 a0_6 l0_7) = some r := by rw [if_neg (show ¬ (false = true) by decide)] at H; exact H
   clear H
   have H := H1
   clear H1
   have H' := A0_ H
   clear H
   have hcz29_0 : w3.cell? ⟨gb531, 0, none⟩ = some (.string a0_0) := (bc_ BK531.out 0).trans rfl
   have hcz29_1 : w3.cell? ⟨gb531, 1, none⟩ = some (.string a0_1) := (bc_ BK531.out 1).trans rfl
   have hcz29_2 : w3.cell? ⟨gb531, 2, none⟩ = some (.int .u8 a0_2) := (bc_ BK531.out 2).trans rfl
   have hcz29_3 : w3.cell? ⟨gb531, 3, none⟩ = some (.int .i64 a0_3) := (bc_ BK531.out 3).trans rfl
   have hcz29_4 : w3.cell? ⟨gb531, 4, none⟩ = some (.int .i64 a0_4) := (bc_ BK531.out 4).trans rfl
   have hcz29_5 : w3.cell? ⟨gb531, 5, none⟩ = some (.int .i64 a0_5) := (bc_ BK531.out 5).trans rfl
   have hcz29_6 : w3.cell? ⟨gb531, 6, none⟩ = some (.int .i64 a0_6) := (bc_ BK531.out 6).trans rfl
   have hcz29_7 : w3.cell? ⟨gb531, 7, none⟩ = some (.slice A0_7 l0_7.length c0_7) := (bc_ BK531.out 7).trans rfl
   have hfz29_0 := bf_ BK531.out 0
   have hfz29_1 := bf_ BK531.out 1
   have hfz29_2 := bf_ BK531.out 2
   have hfz29_3 := bf_ BK531.out 3
   have hfz29_4 := bf_ BK531.out 4
   have hfz29_5 := bf_ BK531.out 5
   have hfz29_6 := bf_ BK531.out 6
   have hfz29_7 := bf_ BK531.out 7
   go_wp2_with (first | ((with_reducible refine gate_callee (f := 62) rfl ?_); refine goesL_ (some 5) rfl rfl Tryz.func62 (by kernel_rfl) rfl #[.string a0_0] rfl wm_ ?_; (with_reducible refine (member_clean.calls a0_0 false _ ?side1 A4.out).mono ?_); (case side1 => exact A0_ (Tabs.below hT.out (wb1_ HB.out GE531.out))); rintro e w30 ⟨rfl, hb⟩; refine ⟨_, rfl, ?_⟩; have n0_ := A0_ (blk_below (g := gb531) (o := .cells #[.string a0_0, .string a0_1, .int .u8 a0_2, .int .i64 a0_3, .int .i64 a0_4, .int .i64 a0_5, .int .i64 a0_6, .slice A0_7 l0_7.length c0_7] 72 (0, 0)) (wB_ BK531.out) hb); have n1_ := A0_ (below_step (wb1_ HB.out GE531.out) hb); clear BK531; clear HB; have BK531 := n0_; have HB := n1_; clear n0_ n1_; (try clear hb); (try clear hb2); (try clear hk); (try clear hi)))
   go_meet
   case rel => exact ⟨_, (true), wr_, H', ⟨by first | omega | exact Nat.le_refl _⟩, ⟨wB_ BK531.out⟩, ⟨wb1_ HB.out GE531.out⟩⟩
  subst c5
  have H1 : ((member_meta.f a0_3 a0_4 a0_5 a0_6).bind fun t533 => (if t533 = true then (if (l0_7.length : Int) > 1048576 then (member_Good.j0 k true a0_0 a0_1 a0_2 a0_3 a0_4 a0_5 a0_6 l0_7) else (if a0_2 = 48 then (member_Good.j0 k false a0_0 a0_1 a0_2 a0_3 a0_4 a0_5 a0_6 l0_7) else (member_Good.j0 k (decide ((l0_7.length : Int) > 0)) a0_0 a0_1 a0_2 a0_3 a0_4 a0_5 a0_6 l0_7))) else (member_Good.j0 k true a0_0 a0_1 a0_2 a0_3 a0_4 a0_5 a0_6 l0_7))) = some r := by rw [if_pos rfl] at H; exact H
  clear H
  have H := H1
  clear H1
  replace H := Option.bind_eq_some_iff.mp H
  obtain ⟨t533, A60, H⟩ := H
  replace H : (if t533 = true then (if (l0_7.length : Int) > 1048576 then (member_Good.j0 k true a0_0 a0_1 a0_2 a0_3 a0_4 a0_5 a0_6 l0_7) else (if a0_2 = 48 then (member_Good.j0 k false a0_0 a0_1 a0_2 a0_3 a0_4 a0_5 a0_6 l0_7) else (member_Good.j0 k (decide ((l0_7.length : Int) > 0)) a0_0 a0_1 a0_2 a0_3 a0_4 a0_5 a0_6 l0_7))) else (member_Good.j0 k true a0_0 a0_1 a0_2 a0_3 a0_4 a0_5 a0_6 l0_7)) = some r := H
  have A6 := A0_ A60
  clear A60
  by_cases c7 : t533 = true
  rotate_left
  ·replace c7 := Bool.eq_false_iff.mpr c7
   subst c7
   have H1 : (member_Good.j0 k true a0_0 a0_1 a0_2 a0_3 a0_4 a0_5 a0_6 l0_7) = some r := by rw [if_neg (show ¬ (false = true) by decide)] at H; exact H
   clear H
   have H := H1
   clear H1
   have H' := A0_ H
   clear H
   have hcz25_0 : w3.cell? ⟨gb531, 0, none⟩ = some (.string a0_0) := (bc_ BK531.out 0).trans rfl
   have hcz25_1 : w3.cell? ⟨gb531, 1, none⟩ = some (.string a0_1) := (bc_ BK531.out 1).trans rfl
   have hcz25_2 : w3.cell? ⟨gb531, 2, none⟩ = some (.int .u8 a0_2) := (bc_ BK531.out 2).trans rfl
   have hcz25_3 : w3.cell? ⟨gb531, 3, none⟩ = some (.int .i64 a0_3) := (bc_ BK531.out 3).trans rfl
   have hcz25_4 : w3.cell? ⟨gb531, 4, none⟩ = some (.int .i64 a0_4) := (bc_ BK531.out 4).trans rfl
   have hcz25_5 : w3.cell? ⟨gb531, 5, none⟩ = some (.int .i64 a0_5) := (bc_ BK531.out 5).trans rfl
   have hcz25_6 : w3.cell? ⟨gb531, 6, none⟩ = some (.int .i64 a0_6) := (bc_ BK531.out 6).trans rfl
   have hcz25_7 : w3.cell? ⟨gb531, 7, none⟩ = some (.slice A0_7 l0_7.length c0_7) := (bc_ BK531.out 7).trans rfl
   have hfz25_0 := bf_ BK531.out 0
   have hfz25_1 := bf_ BK531.out 1
   have hfz25_2 := bf_ BK531.out 2
   have hfz25_3 := bf_ BK531.out 3
   have hfz25_4 := bf_ BK531.out 4
   have hfz25_5 := bf_ BK531.out 5
   have hfz25_6 := bf_ BK531.out 6
   have hfz25_7 := bf_ BK531.out 7
   go_wp2_with (first | ((with_reducible refine gate_callee (f := 62) rfl ?_); refine goesL_ (some 5) rfl rfl Tryz.func62 (by kernel_rfl) rfl #[.string a0_0] rfl wm_ ?_; (with_reducible refine (member_clean.calls a0_0 true _ ?side1 A4.out).mono ?_); (case side1 => exact A0_ (Tabs.below hT.out (wb1_ HB.out GE531.out))); rintro e w26 ⟨rfl, hb⟩; refine ⟨_, rfl, ?_⟩; have n0_ := A0_ (blk_below (g := gb531) (o := .cells #[.string a0_0, .string a0_1, .int .u8 a0_2, .int .i64 a0_3, .int .i64 a0_4, .int .i64 a0_5, .int .i64 a0_6, .slice A0_7 l0_7.length c0_7] 72 (0, 0)) (wB_ BK531.out) hb); have n1_ := A0_ (below_step (wb1_ HB.out GE531.out) hb); clear BK531; clear HB; have BK531 := n0_; have HB := n1_; clear n0_ n1_; (try clear hb); (try clear hb2); (try clear hk); (try clear hi); have hcz27_0 : w26.cell? ⟨gb531, 0, none⟩ = some (.string a0_0) := (bc_ BK531.out 0).trans rfl; have hcz27_1 : w26.cell? ⟨gb531, 1, none⟩ = some (.string a0_1) := (bc_ BK531.out 1).trans rfl; have hcz27_2 : w26.cell? ⟨gb531, 2, none⟩ = some (.int .u8 a0_2) := (bc_ BK531.out 2).trans rfl; have hcz27_3 : w26.cell? ⟨gb531, 3, none⟩ = some (.int .i64 a0_3) := (bc_ BK531.out 3).trans rfl; have hcz27_4 : w26.cell? ⟨gb531, 4, none⟩ = some (.int .i64 a0_4) := (bc_ BK531.out 4).trans rfl; have hcz27_5 : w26.cell? ⟨gb531, 5, none⟩ = some (.int .i64 a0_5) := (bc_ BK531.out 5).trans rfl; have hcz27_6 : w26.cell? ⟨gb531, 6, none⟩ = some (.int .i64 a0_6) := (bc_ BK531.out 6).trans rfl; have hcz27_7 : w26.cell? ⟨gb531, 7, none⟩ = some (.slice A0_7 l0_7.length c0_7) := (bc_ BK531.out 7).trans rfl; have hfz27_0 := bf_ BK531.out 0; have hfz27_1 := bf_ BK531.out 1; have hfz27_2 := bf_ BK531.out 2; have hfz27_3 := bf_ BK531.out 3; have hfz27_4 := bf_ BK531.out 4; have hfz27_5 := bf_ BK531.out 5; have hfz27_6 := bf_ BK531.out 6; have hfz27_7 := bf_ BK531.out 7) | (go_at_call 63; (with_reducible refine (member_meta.calls a0_3 a0_4 a0_5 a0_6 false _ A6.out).mono ?_); rintro e w28 ⟨rfl, hb⟩; have n0_ := A0_ (blk_below (g := gb531) (o := .cells #[.string a0_0, .string a0_1, .int .u8 a0_2, .int .i64 a0_3, .int .i64 a0_4, .int .i64 a0_5, .int .i64 a0_6, .slice A0_7 l0_7.length c0_7] 72 (0, 0)) (wB_ BK531.out) hb); have n1_ := A0_ (below_step (wb1_ HB.out GE531.out) hb); clear BK531; clear HB; have BK531 := n0_; have HB := n1_; clear n0_ n1_; (try clear hb); (try clear hb2); (try clear hk); (try clear hi)))
   go_meet
   case rel => exact ⟨_, (true), wr_, H', ⟨by first | omega | exact Nat.le_refl _⟩, ⟨wB_ BK531.out⟩, ⟨wb1_ HB.out GE531.out⟩⟩
  subst c7
  have H1 : (if (l0_7.length : Int) > 1048576 then (member_Good.j0 k true a0_0 a0_1 a0_2 a0_3 a0_4 a0_5 a0_6 l0_7) else (if a0_2 = 48 then (member_Good.j0 k false a0_0 a0_1 a0_2 a0_3 a0_4 a0_5 a0_6 l0_7) else (member_Good.j0 k (decide ((l0_7.length : Int) > 0)) a0_0 a0_1 a0_2 a0_3 a0_4 a0_5 a0_6 l0_7))) = some r := by rw [if_pos rfl] at H; exact H
  clear H
  have H := H1
  clear H1
  by_cases c8 : (l0_7.length : Int) > 1048576
  ·rw [if_pos c8] at H
   have c8b0 : decide (1048576 < (l0_7.length : Int)) = true := decide_eq_true c8
   have c8b1 : decide (1048576 < l0_7.length) = true := decide_eq_true (by omega)
   clear c8
   (first | rw [c8b0] | (simp only [i64_w, i32_w]; rw [c8b0]) | skip)
   have H' := A0_ H
   clear H
   have hcz9_0 : w3.cell? ⟨gb531, 0, none⟩ = some (.string a0_0) := (bc_ BK531.out 0).trans rfl
   have hcz9_1 : w3.cell? ⟨gb531, 1, none⟩ = some (.string a0_1) := (bc_ BK531.out 1).trans rfl
   have hcz9_2 : w3.cell? ⟨gb531, 2, none⟩ = some (.int .u8 a0_2) := (bc_ BK531.out 2).trans rfl
   have hcz9_3 : w3.cell? ⟨gb531, 3, none⟩ = some (.int .i64 a0_3) := (bc_ BK531.out 3).trans rfl
   have hcz9_4 : w3.cell? ⟨gb531, 4, none⟩ = some (.int .i64 a0_4) := (bc_ BK531.out 4).trans rfl
   have hcz9_5 : w3.cell? ⟨gb531, 5, none⟩ = some (.int .i64 a0_5) := (bc_ BK531.out 5).trans rfl
   have hcz9_6 : w3.cell? ⟨gb531, 6, none⟩ = some (.int .i64 a0_6) := (bc_ BK531.out 6).trans rfl
   have hcz9_7 : w3.cell? ⟨gb531, 7, none⟩ = some (.slice A0_7 l0_7.length c0_7) := (bc_ BK531.out 7).trans rfl
   have hfz9_0 := bf_ BK531.out 0
   have hfz9_1 := bf_ BK531.out 1
   have hfz9_2 := bf_ BK531.out 2
   have hfz9_3 := bf_ BK531.out 3
   have hfz9_4 := bf_ BK531.out 4
   have hfz9_5 := bf_ BK531.out 5
   have hfz9_6 := bf_ BK531.out 6
   have hfz9_7 := bf_ BK531.out 7
   go_wp2_with (first | ((with_reducible refine gate_callee (f := 62) rfl ?_); refine goesL_ (some 5) rfl rfl Tryz.func62 (by kernel_rfl) rfl #[.string a0_0] rfl wm_ ?_; (with_reducible refine (member_clean.calls a0_0 true _ ?side1 A4.out).mono ?_); (case side1 => exact A0_ (Tabs.below hT.out (wb1_ HB.out GE531.out))); rintro e w10 ⟨rfl, hb⟩; refine ⟨_, rfl, ?_⟩; have n0_ := A0_ (blk_below (g := gb531) (o := .cells #[.string a0_0, .string a0_1, .int .u8 a0_2, .int .i64 a0_3, .int .i64 a0_4, .int .i64 a0_5, .int .i64 a0_6, .slice A0_7 l0_7.length c0_7] 72 (0, 0)) (wB_ BK531.out) hb); have n1_ := A0_ (below_step (wb1_ HB.out GE531.out) hb); clear BK531; clear HB; have BK531 := n0_; have HB := n1_; clear n0_ n1_; (try clear hb); (try clear hb2); (try clear hk); (try clear hi); have hcz11_0 : w10.cell? ⟨gb531, 0, none⟩ = some (.string a0_0) := (bc_ BK531.out 0).trans rfl; have hcz11_1 : w10.cell? ⟨gb531, 1, none⟩ = some (.string a0_1) := (bc_ BK531.out 1).trans rfl; have hcz11_2 : w10.cell? ⟨gb531, 2, none⟩ = some (.int .u8 a0_2) := (bc_ BK531.out 2).trans rfl; have hcz11_3 : w10.cell? ⟨gb531, 3, none⟩ = some (.int .i64 a0_3) := (bc_ BK531.out 3).trans rfl; have hcz11_4 : w10.cell? ⟨gb531, 4, none⟩ = some (.int .i64 a0_4) := (bc_ BK531.out 4).trans rfl; have hcz11_5 : w10.cell? ⟨gb531, 5, none⟩ = some (.int .i64 a0_5) := (bc_ BK531.out 5).trans rfl; have hcz11_6 : w10.cell? ⟨gb531, 6, none⟩ = some (.int .i64 a0_6) := (bc_ BK531.out 6).trans rfl; have hcz11_7 : w10.cell? ⟨gb531, 7, none⟩ = some (.slice A0_7 l0_7.length c0_7) := (bc_ BK531.out 7).trans rfl; have hfz11_0 := bf_ BK531.out 0; have hfz11_1 := bf_ BK531.out 1; have hfz11_2 := bf_ BK531.out 2; have hfz11_3 := bf_ BK531.out 3; have hfz11_4 := bf_ BK531.out 4; have hfz11_5 := bf_ BK531.out 5; have hfz11_6 := bf_ BK531.out 6; have hfz11_7 := bf_ BK531.out 7) | (go_at_call 63; (with_reducible refine (member_meta.calls a0_3 a0_4 a0_5 a0_6 true _ A6.out).mono ?_); rintro e w12 ⟨rfl, hb⟩; have n0_ := A0_ (blk_below (g := gb531) (o := .cells #[.string a0_0, .string a0_1, .int .u8 a0_2, .int .i64 a0_3, .int .i64 a0_4, .int .i64 a0_5, .int .i64 a0_6, .slice A0_7 l0_7.length c0_7] 72 (0, 0)) (wB_ BK531.out) hb); have n1_ := A0_ (below_step (wb1_ HB.out GE531.out) hb); clear BK531; clear HB; have BK531 := n0_; have HB := n1_; clear n0_ n1_; (try clear hb); (try clear hb2); (try clear hk); (try clear hi); have hcz13_0 : w12.cell? ⟨gb531, 0, none⟩ = some (.string a0_0) := (bc_ BK531.out 0).trans rfl; have hcz13_1 : w12.cell? ⟨gb531, 1, none⟩ = some (.string a0_1) := (bc_ BK531.out 1).trans rfl; have hcz13_2 : w12.cell? ⟨gb531, 2, none⟩ = some (.int .u8 a0_2) := (bc_ BK531.out 2).trans rfl; have hcz13_3 : w12.cell? ⟨gb531, 3, none⟩ = some (.int .i64 a0_3) := (bc_ BK531.out 3).trans rfl; have hcz13_4 : w12.cell? ⟨gb531, 4, none⟩ = some (.int .i64 a0_4) := (bc_ BK531.out 4).trans rfl; have hcz13_5 : w12.cell? ⟨gb531, 5, none⟩ = some (.int .i64 a0_5) := (bc_ BK531.out 5).trans rfl; have hcz13_6 : w12.cell? ⟨gb531, 6, none⟩ = some (.int .i64 a0_6) := (bc_ BK531.out 6).trans rfl; have hcz13_7 : w12.cell? ⟨gb531, 7, none⟩ = some (.slice A0_7 l0_7.length c0_7) := (bc_ BK531.out 7).trans rfl; have hfz13_0 := bf_ BK531.out 0; have hfz13_1 := bf_ BK531.out 1; have hfz13_2 := bf_ BK531.out 2; have hfz13_3 := bf_ BK531.out 3; have hfz13_4 := bf_ BK531.out 4; have hfz13_5 := bf_ BK531.out 5; have hfz13_6 := bf_ BK531.out 6; have hfz13_7 := bf_ BK531.out 7))
   go_meet
   case rel => exact ⟨_, (true), wr_, H', ⟨by first | omega | exact Nat.le_refl _⟩, ⟨wB_ BK531.out⟩, ⟨wb1_ HB.out GE531.out⟩⟩
  rw [if_neg c8] at H
  have c8b0 : decide (1048576 < (l0_7.length : Int)) = false := decide_eq_false c8
  have c8b1 : decide (1048576 < l0_7.length) = false := decide_eq_false (by omega)
  clear c8
  (first | rw [c8b0] | (simp only [i64_w, i32_w]; rw [c8b0]) | skip)
  by_cases c14 : a0_2 = 48
  ·rw [if_pos c14] at H
   have c14b0 : (a0_2 == 48) = true := beq_iff_eq.mpr c14
   have c14b1 : (a0_2 != 48) = false := bne_eq_false_iff_eq.mpr c14
   clear c14
   have H' := A0_ H
   clear H
   have hcz15_0 : w3.cell? ⟨gb531, 0, none⟩ = some (.string a0_0) := (bc_ BK531.out 0).trans rfl
   have hcz15_1 : w3.cell? ⟨gb531, 1, none⟩ = some (.string a0_1) := (bc_ BK531.out 1).trans rfl
   have hcz15_2 : w3.cell? ⟨gb531, 2, none⟩ = some (.int .u8 a0_2) := (bc_ BK531.out 2).trans rfl
   have hcz15_3 : w3.cell? ⟨gb531, 3, none⟩ = some (.int .i64 a0_3) := (bc_ BK531.out 3).trans rfl
   have hcz15_4 : w3.cell? ⟨gb531, 4, none⟩ = some (.int .i64 a0_4) := (bc_ BK531.out 4).trans rfl
   have hcz15_5 : w3.cell? ⟨gb531, 5, none⟩ = some (.int .i64 a0_5) := (bc_ BK531.out 5).trans rfl
   have hcz15_6 : w3.cell? ⟨gb531, 6, none⟩ = some (.int .i64 a0_6) := (bc_ BK531.out 6).trans rfl
   have hcz15_7 : w3.cell? ⟨gb531, 7, none⟩ = some (.slice A0_7 l0_7.length c0_7) := (bc_ BK531.out 7).trans rfl
   have hfz15_0 := bf_ BK531.out 0
   have hfz15_1 := bf_ BK531.out 1
   have hfz15_2 := bf_ BK531.out 2
   have hfz15_3 := bf_ BK531.out 3
   have hfz15_4 := bf_ BK531.out 4
   have hfz15_5 := bf_ BK531.out 5
   have hfz15_6 := bf_ BK531.out 6
   have hfz15_7 := bf_ BK531.out 7
   go_wp2_with (first | ((with_reducible refine gate_callee (f := 62) rfl ?_); refine goesL_ (some 5) rfl rfl Tryz.func62 (by kernel_rfl) rfl #[.string a0_0] rfl wm_ ?_; (with_reducible refine (member_clean.calls a0_0 true _ ?side1 A4.out).mono ?_); (case side1 => exact A0_ (Tabs.below hT.out (wb1_ HB.out GE531.out))); rintro e w16 ⟨rfl, hb⟩; refine ⟨_, rfl, ?_⟩; have n0_ := A0_ (blk_below (g := gb531) (o := .cells #[.string a0_0, .string a0_1, .int .u8 a0_2, .int .i64 a0_3, .int .i64 a0_4, .int .i64 a0_5, .int .i64 a0_6, .slice A0_7 l0_7.length c0_7] 72 (0, 0)) (wB_ BK531.out) hb); have n1_ := A0_ (below_step (wb1_ HB.out GE531.out) hb); clear BK531; clear HB; have BK531 := n0_; have HB := n1_; clear n0_ n1_; (try clear hb); (try clear hb2); (try clear hk); (try clear hi); have hcz17_0 : w16.cell? ⟨gb531, 0, none⟩ = some (.string a0_0) := (bc_ BK531.out 0).trans rfl; have hcz17_1 : w16.cell? ⟨gb531, 1, none⟩ = some (.string a0_1) := (bc_ BK531.out 1).trans rfl; have hcz17_2 : w16.cell? ⟨gb531, 2, none⟩ = some (.int .u8 a0_2) := (bc_ BK531.out 2).trans rfl; have hcz17_3 : w16.cell? ⟨gb531, 3, none⟩ = some (.int .i64 a0_3) := (bc_ BK531.out 3).trans rfl; have hcz17_4 : w16.cell? ⟨gb531, 4, none⟩ = some (.int .i64 a0_4) := (bc_ BK531.out 4).trans rfl; have hcz17_5 : w16.cell? ⟨gb531, 5, none⟩ = some (.int .i64 a0_5) := (bc_ BK531.out 5).trans rfl; have hcz17_6 : w16.cell? ⟨gb531, 6, none⟩ = some (.int .i64 a0_6) := (bc_ BK531.out 6).trans rfl; have hcz17_7 : w16.cell? ⟨gb531, 7, none⟩ = some (.slice A0_7 l0_7.length c0_7) := (bc_ BK531.out 7).trans rfl; have hfz17_0 := bf_ BK531.out 0; have hfz17_1 := bf_ BK531.out 1; have hfz17_2 := bf_ BK531.out 2; have hfz17_3 := bf_ BK531.out 3; have hfz17_4 := bf_ BK531.out 4; have hfz17_5 := bf_ BK531.out 5; have hfz17_6 := bf_ BK531.out 6; have hfz17_7 := bf_ BK531.out 7) | (go_at_call 63; (with_reducible refine (member_meta.calls a0_3 a0_4 a0_5 a0_6 true _ A6.out).mono ?_); rintro e w18 ⟨rfl, hb⟩; have n0_ := A0_ (blk_below (g := gb531) (o := .cells #[.string a0_0, .string a0_1, .int .u8 a0_2, .int .i64 a0_3, .int .i64 a0_4, .int .i64 a0_5, .int .i64 a0_6, .slice A0_7 l0_7.length c0_7] 72 (0, 0)) (wB_ BK531.out) hb); have n1_ := A0_ (below_step (wb1_ HB.out GE531.out) hb); clear BK531; clear HB; have BK531 := n0_; have HB := n1_; clear n0_ n1_; (try clear hb); (try clear hb2); (try clear hk); (try clear hi); have hcz19_0 : w18.cell? ⟨gb531, 0, none⟩ = some (.string a0_0) := (bc_ BK531.out 0).trans rfl; have hcz19_1 : w18.cell? ⟨gb531, 1, none⟩ = some (.string a0_1) := (bc_ BK531.out 1).trans rfl; have hcz19_2 : w18.cell? ⟨gb531, 2, none⟩ = some (.int .u8 a0_2) := (bc_ BK531.out 2).trans rfl; have hcz19_3 : w18.cell? ⟨gb531, 3, none⟩ = some (.int .i64 a0_3) := (bc_ BK531.out 3).trans rfl; have hcz19_4 : w18.cell? ⟨gb531, 4, none⟩ = some (.int .i64 a0_4) := (bc_ BK531.out 4).trans rfl; have hcz19_5 : w18.cell? ⟨gb531, 5, none⟩ = some (.int .i64 a0_5) := (bc_ BK531.out 5).trans rfl; have hcz19_6 : w18.cell? ⟨gb531, 6, none⟩ = some (.int .i64 a0_6) := (bc_ BK531.out 6).trans rfl; have hcz19_7 : w18.cell? ⟨gb531, 7, none⟩ = some (.slice A0_7 l0_7.length c0_7) := (bc_ BK531.out 7).trans rfl; have hfz19_0 := bf_ BK531.out 0; have hfz19_1 := bf_ BK531.out 1; have hfz19_2 := bf_ BK531.out 2; have hfz19_3 := bf_ BK531.out 3; have hfz19_4 := bf_ BK531.out 4; have hfz19_5 := bf_ BK531.out 5; have hfz19_6 := bf_ BK531.out 6; have hfz19_7 := bf_ BK531.out 7))
   go_meet
   case rel => exact ⟨_, (false), wr_, H', ⟨by first | omega | exact Nat.le_refl _⟩, ⟨wB_ BK531.out⟩, ⟨wb1_ HB.out GE531.out⟩⟩
  rw [if_neg c14] at H
  have c14b0 : (a0_2 == 48) = false := beq_eq_false_iff_ne.mpr c14
  have c14b1 : (a0_2 != 48) = true := bne_iff_ne.mpr c14
  have H' := A0_ H
  clear H
  have hcz20_0 : w3.cell? ⟨gb531, 0, none⟩ = some (.string a0_0) := (bc_ BK531.out 0).trans rfl
  have hcz20_1 : w3.cell? ⟨gb531, 1, none⟩ = some (.string a0_1) := (bc_ BK531.out 1).trans rfl
  have hcz20_2 : w3.cell? ⟨gb531, 2, none⟩ = some (.int .u8 a0_2) := (bc_ BK531.out 2).trans rfl
  have hcz20_3 : w3.cell? ⟨gb531, 3, none⟩ = some (.int .i64 a0_3) := (bc_ BK531.out 3).trans rfl
  have hcz20_4 : w3.cell? ⟨gb531, 4, none⟩ = some (.int .i64 a0_4) := (bc_ BK531.out 4).trans rfl
  have hcz20_5 : w3.cell? ⟨gb531, 5, none⟩ = some (.int .i64 a0_5) := (bc_ BK531.out 5).trans rfl
  have hcz20_6 : w3.cell? ⟨gb531, 6, none⟩ = some (.int .i64 a0_6) := (bc_ BK531.out 6).trans rfl
  have hcz20_7 : w3.cell? ⟨gb531, 7, none⟩ = some (.slice A0_7 l0_7.length c0_7) := (bc_ BK531.out 7).trans rfl
  have hfz20_0 := bf_ BK531.out 0
  have hfz20_1 := bf_ BK531.out 1
  have hfz20_2 := bf_ BK531.out 2
  have hfz20_3 := bf_ BK531.out 3
  have hfz20_4 := bf_ BK531.out 4
  have hfz20_5 := bf_ BK531.out 5
  have hfz20_6 := bf_ BK531.out 6
  have hfz20_7 := bf_ BK531.out 7
  go_wp2_with (first | ((with_reducible refine gate_callee (f := 62) rfl ?_); refine goesL_ (some 5) rfl rfl Tryz.func62 (by kernel_rfl) rfl #[.string a0_0] rfl wm_ ?_; (with_reducible refine (member_clean.calls a0_0 true _ ?side1 A4.out).mono ?_); (case side1 => exact A0_ (Tabs.below hT.out (wb1_ HB.out GE531.out))); rintro e w21 ⟨rfl, hb⟩; refine ⟨_, rfl, ?_⟩; have n0_ := A0_ (blk_below (g := gb531) (o := .cells #[.string a0_0, .string a0_1, .int .u8 a0_2, .int .i64 a0_3, .int .i64 a0_4, .int .i64 a0_5, .int .i64 a0_6, .slice A0_7 l0_7.length c0_7] 72 (0, 0)) (wB_ BK531.out) hb); have n1_ := A0_ (below_step (wb1_ HB.out GE531.out) hb); clear BK531; clear HB; have BK531 := n0_; have HB := n1_; clear n0_ n1_; (try clear hb); (try clear hb2); (try clear hk); (try clear hi); have hcz22_0 : w21.cell? ⟨gb531, 0, none⟩ = some (.string a0_0) := (bc_ BK531.out 0).trans rfl; have hcz22_1 : w21.cell? ⟨gb531, 1, none⟩ = some (.string a0_1) := (bc_ BK531.out 1).trans rfl; have hcz22_2 : w21.cell? ⟨gb531, 2, none⟩ = some (.int .u8 a0_2) := (bc_ BK531.out 2).trans rfl; have hcz22_3 : w21.cell? ⟨gb531, 3, none⟩ = some (.int .i64 a0_3) := (bc_ BK531.out 3).trans rfl; have hcz22_4 : w21.cell? ⟨gb531, 4, none⟩ = some (.int .i64 a0_4) := (bc_ BK531.out 4).trans rfl; have hcz22_5 : w21.cell? ⟨gb531, 5, none⟩ = some (.int .i64 a0_5) := (bc_ BK531.out 5).trans rfl; have hcz22_6 : w21.cell? ⟨gb531, 6, none⟩ = some (.int .i64 a0_6) := (bc_ BK531.out 6).trans rfl; have hcz22_7 : w21.cell? ⟨gb531, 7, none⟩ = some (.slice A0_7 l0_7.length c0_7) := (bc_ BK531.out 7).trans rfl; have hfz22_0 := bf_ BK531.out 0; have hfz22_1 := bf_ BK531.out 1; have hfz22_2 := bf_ BK531.out 2; have hfz22_3 := bf_ BK531.out 3; have hfz22_4 := bf_ BK531.out 4; have hfz22_5 := bf_ BK531.out 5; have hfz22_6 := bf_ BK531.out 6; have hfz22_7 := bf_ BK531.out 7) | (go_at_call 63; (with_reducible refine (member_meta.calls a0_3 a0_4 a0_5 a0_6 true _ A6.out).mono ?_); rintro e w23 ⟨rfl, hb⟩; have n0_ := A0_ (blk_below (g := gb531) (o := .cells #[.string a0_0, .string a0_1, .int .u8 a0_2, .int .i64 a0_3, .int .i64 a0_4, .int .i64 a0_5, .int .i64 a0_6, .slice A0_7 l0_7.length c0_7] 72 (0, 0)) (wB_ BK531.out) hb); have n1_ := A0_ (below_step (wb1_ HB.out GE531.out) hb); clear BK531; clear HB; have BK531 := n0_; have HB := n1_; clear n0_ n1_; (try clear hb); (try clear hb2); (try clear hk); (try clear hi); have hcz24_0 : w23.cell? ⟨gb531, 0, none⟩ = some (.string a0_0) := (bc_ BK531.out 0).trans rfl; have hcz24_1 : w23.cell? ⟨gb531, 1, none⟩ = some (.string a0_1) := (bc_ BK531.out 1).trans rfl; have hcz24_2 : w23.cell? ⟨gb531, 2, none⟩ = some (.int .u8 a0_2) := (bc_ BK531.out 2).trans rfl; have hcz24_3 : w23.cell? ⟨gb531, 3, none⟩ = some (.int .i64 a0_3) := (bc_ BK531.out 3).trans rfl; have hcz24_4 : w23.cell? ⟨gb531, 4, none⟩ = some (.int .i64 a0_4) := (bc_ BK531.out 4).trans rfl; have hcz24_5 : w23.cell? ⟨gb531, 5, none⟩ = some (.int .i64 a0_5) := (bc_ BK531.out 5).trans rfl; have hcz24_6 : w23.cell? ⟨gb531, 6, none⟩ = some (.int .i64 a0_6) := (bc_ BK531.out 6).trans rfl; have hcz24_7 : w23.cell? ⟨gb531, 7, none⟩ = some (.slice A0_7 l0_7.length c0_7) := (bc_ BK531.out 7).trans rfl; have hfz24_0 := bf_ BK531.out 0; have hfz24_1 := bf_ BK531.out 1; have hfz24_2 := bf_ BK531.out 2; have hfz24_3 := bf_ BK531.out 3; have hfz24_4 := bf_ BK531.out 4; have hfz24_5 := bf_ BK531.out 5; have hfz24_6 := bf_ BK531.out 6; have hfz24_7 := bf_ BK531.out 7))
  go_meet
  case rel => exact ⟨_, (decide ((l0_7.length : Int) > 0)), wr_, H', ⟨by first | omega | exact Nat.le_refl _⟩, ⟨wB_ BK531.out⟩, ⟨wb1_ HB.out GE531.out⟩⟩
 case rest =>
  clear HC2
  try clear c1
  try clear p2
  try clear c5
  try clear c6
  try clear c7
  try clear c8
  try clear c8b0
  try clear c8b1
  try clear c14
  try clear c14b0
  try clear c14b1
  try clear hcz11_0
  try clear hcz11_1
  try clear hcz11_2
  try clear hcz11_3
  try clear hcz11_4
  try clear hcz11_5
  try clear hcz11_6
  try clear hcz11_7
  try clear hcz13_0
  try clear hcz13_1
  try clear hcz13_2
  try clear hcz13_3
  try clear hcz13_4
  try clear hcz13_5
  try clear hcz13_6
  try clear hcz13_7
  try clear hcz15_0
  try clear hcz15_1
  try clear hcz15_2
  try clear hcz15_3
  try clear hcz15_4
  try clear hcz15_5
  try clear hcz15_6
  try clear hcz15_7
  try clear hcz17_0
  try clear hcz17_1
  try clear hcz17_2
  try clear hcz17_3
  try clear hcz17_4
  try clear hcz17_5
  try clear hcz17_6
  try clear hcz17_7
  try clear hcz19_0
  try clear hcz19_1
  try clear hcz19_2
  try clear hcz19_3
  try clear hcz19_4
  try clear hcz19_5
  try clear hcz19_6
  try clear hcz19_7
  try clear hcz20_0
  try clear hcz20_1
  try clear hcz20_2
  try clear hcz20_3
  try clear hcz20_4
  try clear hcz20_5
  try clear hcz20_6
  try clear hcz20_7
  try clear hcz22_0
  try clear hcz22_1
  try clear hcz22_2
  try clear hcz22_3
  try clear hcz22_4
  try clear hcz22_5
  try clear hcz22_6
  try clear hcz22_7
  try clear hcz24_0
  try clear hcz24_1
  try clear hcz24_2
  try clear hcz24_3
  try clear hcz24_4
  try clear hcz24_5
  try clear hcz24_6
  try clear hcz24_7
  try clear hcz25_0
  try clear hcz25_1
  try clear hcz25_2
  try clear hcz25_3
  try clear hcz25_4
  try clear hcz25_5
  try clear hcz25_6
  try clear hcz25_7
  try clear hcz27_0
  try clear hcz27_1
  try clear hcz27_2
  try clear hcz27_3
  try clear hcz27_4
  try clear hcz27_5
  try clear hcz27_6
  try clear hcz27_7
  try clear hcz29_0
  try clear hcz29_1
  try clear hcz29_2
  try clear hcz29_3
  try clear hcz29_4
  try clear hcz29_5
  try clear hcz29_6
  try clear hcz29_7
  try clear hcz9_0
  try clear hcz9_1
  try clear hcz9_2
  try clear hcz9_3
  try clear hcz9_4
  try clear hcz9_5
  try clear hcz9_6
  try clear hcz9_7
  try clear hfz11_0
  try clear hfz11_1
  try clear hfz11_2
  try clear hfz11_3
  try clear hfz11_4
  try clear hfz11_5
  try clear hfz11_6
  try clear hfz11_7
  try clear hfz13_0
  try clear hfz13_1
  try clear hfz13_2
  try clear hfz13_3
  try clear hfz13_4
  try clear hfz13_5
  try clear hfz13_6
  try clear hfz13_7
  try clear hfz15_0
  try clear hfz15_1
  try clear hfz15_2
  try clear hfz15_3
  try clear hfz15_4
  try clear hfz15_5
  try clear hfz15_6
  try clear hfz15_7
  try clear hfz17_0
  try clear hfz17_1
  try clear hfz17_2
  try clear hfz17_3
  try clear hfz17_4
  try clear hfz17_5
  try clear hfz17_6
  try clear hfz17_7
  try clear hfz19_0
  try clear hfz19_1
  try clear hfz19_2
  try clear hfz19_3
  try clear hfz19_4
  try clear hfz19_5
  try clear hfz19_6
  try clear hfz19_7
  try clear hfz20_0
  try clear hfz20_1
  try clear hfz20_2
  try clear hfz20_3
  try clear hfz20_4
  try clear hfz20_5
  try clear hfz20_6
  try clear hfz20_7
  try clear hfz22_0
  try clear hfz22_1
  try clear hfz22_2
  try clear hfz22_3
  try clear hfz22_4
  try clear hfz22_5
  try clear hfz22_6
  try clear hfz22_7
  try clear hfz24_0
  try clear hfz24_1
  try clear hfz24_2
  try clear hfz24_3
  try clear hfz24_4
  try clear hfz24_5
  try clear hfz24_6
  try clear hfz24_7
  try clear hfz25_0
  try clear hfz25_1
  try clear hfz25_2
  try clear hfz25_3
  try clear hfz25_4
  try clear hfz25_5
  try clear hfz25_6
  try clear hfz25_7
  try clear hfz27_0
  try clear hfz27_1
  try clear hfz27_2
  try clear hfz27_3
  try clear hfz27_4
  try clear hfz27_5
  try clear hfz27_6
  try clear hfz27_7
  try clear hfz29_0
  try clear hfz29_1
  try clear hfz29_2
  try clear hfz29_3
  try clear hfz29_4
  try clear hfz29_5
  try clear hfz29_6
  try clear hfz29_7
  try clear hfz9_0
  try clear hfz9_1
  try clear hfz9_2
  try clear hfz9_3
  try clear hfz9_4
  try clear hfz9_5
  try clear hfz9_6
  try clear hfz9_7
  obtain ⟨kq, x29_1, rfl, HA, HJ1, BK531, HB⟩ := hcut
  cases kq with
  | zero => exact absurd HA.out (by simp [member_Good.j0])
  | succ kj1 =>
   have H := HA.out
   clear HA
   simp only [member_Good.j0] at H
   by_cases c31 : x29_1 = true
   ·subst c31
    have H1 : (some false) = some r := by rw [if_pos rfl] at H; exact H
    clear H
    have H := H1
    clear H1
    obtain rfl := Option.some.inj H
    go_wp2
    go_ret
    exact ⟨we_, wb1_ HB.out GE531.out⟩
   replace c31 := Bool.eq_false_iff.mpr c31
   subst c31
   have H1 : (if a0_2 = 48 then (member_Good.j1 kj1 a0_2 (a0_2 == 48) a0_0 a0_1 a0_2 a0_3 a0_4 a0_5 a0_6 l0_7) else (member_Good.j1 kj1 a0_2 (a0_2 == 53) a0_0 a0_1 a0_2 a0_3 a0_4 a0_5 a0_6 l0_7)) = some r := by rw [if_neg (show ¬ (false = true) by decide)] at H; exact H
   clear H
   have H := H1
   clear H1
   have HC32 := A0_ H
   clear H
   have hcz33_0 : wc.cell? ⟨gb531, 0, none⟩ = some (.string a0_0) := (bc_ BK531.out 0).trans rfl
   have hcz33_1 : wc.cell? ⟨gb531, 1, none⟩ = some (.string a0_1) := (bc_ BK531.out 1).trans rfl
   have hcz33_2 : wc.cell? ⟨gb531, 2, none⟩ = some (.int .u8 a0_2) := (bc_ BK531.out 2).trans rfl
   have hcz33_3 : wc.cell? ⟨gb531, 3, none⟩ = some (.int .i64 a0_3) := (bc_ BK531.out 3).trans rfl
   have hcz33_4 : wc.cell? ⟨gb531, 4, none⟩ = some (.int .i64 a0_4) := (bc_ BK531.out 4).trans rfl
   have hcz33_5 : wc.cell? ⟨gb531, 5, none⟩ = some (.int .i64 a0_5) := (bc_ BK531.out 5).trans rfl
   have hcz33_6 : wc.cell? ⟨gb531, 6, none⟩ = some (.int .i64 a0_6) := (bc_ BK531.out 6).trans rfl
   have hcz33_7 : wc.cell? ⟨gb531, 7, none⟩ = some (.slice A0_7 l0_7.length c0_7) := (bc_ BK531.out 7).trans rfl
   have hfz33_0 := bf_ BK531.out 0
   have hfz33_1 := bf_ BK531.out 1
   have hfz33_2 := bf_ BK531.out 2
   have hfz33_3 := bf_ BK531.out 3
   have hfz33_4 := bf_ BK531.out 4
   have hfz33_5 := bf_ BK531.out 5
   have hfz33_6 := bf_ BK531.out 6
   have hfz33_7 := bf_ BK531.out 7
   go_upto_if 32 with (fail)
   go_cut [32] (fun v32 wc => ∃ (kq : Nat) (x32_31 : Bool), v32 = .bool x32_31 ∧ Aside0 (member_Good.j1 kq a0_2 x32_31 a0_0 a0_1 a0_2 a0_3 a0_4 a0_5 a0_6 l0_7 = some r) ∧ Aside0 (kq ≤ kj1) ∧ Aside0 (wc.heap[gb531]? = some (.cells #[.string a0_0, .string a0_1, .int .u8 a0_2, .int .i64 a0_3, .int .i64 a0_4, .int .i64 a0_5, .int .i64 a0_6, (.slice A0_7 l0_7.length c0_7)] 72 (0, 0))) ∧ Aside0 (Below w.heap.size w wc))
   case first =>
    have H := HC32.out
    clear HC32
    by_cases c34 : a0_2 = 48
    rotate_left
    ·rw [if_neg c34] at H
     have c34b0 : (a0_2 == 48) = false := beq_eq_false_iff_ne.mpr c34
     have c34b1 : (a0_2 != 48) = true := bne_iff_ne.mpr c34
     (first | rw [c34b0] | (simp only [i64_w, i32_w]; rw [c34b0]) | skip)
     have H' := A0_ H
     clear H
     go_wp2
     go_meet
     case rel => exact ⟨_, ((a0_2 == 53)), wr_, H', ⟨by have := HJ1.out; first | omega | exact Nat.le_refl _⟩, ⟨wB_ BK531.out⟩, ⟨wb1_ HB.out GE531.out⟩⟩
    rw [if_pos c34] at H
    have c34b0 : (a0_2 == 48) = true := beq_iff_eq.mpr c34
    have c34b1 : (a0_2 != 48) = false := bne_eq_false_iff_eq.mpr c34
    clear c34
    (first | rw [c34b0] | (simp only [i64_w, i32_w]; rw [c34b0]) | skip)
    have H' := A0_ H
    clear H
    go_wp2
    go_meet
    case rel => exact ⟨_, ((a0_2 == 48)), wr_, H', ⟨by have := HJ1.out; first | omega | exact Nat.le_refl _⟩, ⟨wB_ BK531.out⟩, ⟨wb1_ HB.out GE531.out⟩⟩
   case rest =>
    clear HC32
    try clear c1
    try clear p2
    try clear c3
    try clear c5
    try clear c6
    try clear c7
    try clear c8
    try clear c8b0
    try clear c8b1
    try clear c14
    try clear c14b0
    try clear c14b1
    try clear c31
    try clear c34
    try clear c34b0
    try clear c34b1
    try clear hcz11_0
    try clear hcz11_1
    try clear hcz11_2
    try clear hcz11_3
    try clear hcz11_4
    try clear hcz11_5
    try clear hcz11_6
    try clear hcz11_7
    try clear hcz13_0
    try clear hcz13_1
    try clear hcz13_2
    try clear hcz13_3
    try clear hcz13_4
    try clear hcz13_5
    try clear hcz13_6
    try clear hcz13_7
    try clear hcz15_0
    try clear hcz15_1
    try clear hcz15_2
    try clear hcz15_3
    try clear hcz15_4
    try clear hcz15_5
    try clear hcz15_6
    try clear hcz15_7
    try clear hcz17_0
    try clear hcz17_1
    try clear hcz17_2
    try clear hcz17_3
    try clear hcz17_4
    try clear hcz17_5
    try clear hcz17_6
    try clear hcz17_7
    try clear hcz19_0
    try clear hcz19_1
    try clear hcz19_2
    try clear hcz19_3
    try clear hcz19_4
    try clear hcz19_5
    try clear hcz19_6
    try clear hcz19_7
    try clear hcz20_0
    try clear hcz20_1
    try clear hcz20_2
    try clear hcz20_3
    try clear hcz20_4
    try clear hcz20_5
    try clear hcz20_6
    try clear hcz20_7
    try clear hcz22_0
    try clear hcz22_1
    try clear hcz22_2
    try clear hcz22_3
    try clear hcz22_4
    try clear hcz22_5
    try clear hcz22_6
    try clear hcz22_7
    try clear hcz24_0
    try clear hcz24_1
    try clear hcz24_2
    try clear hcz24_3
    try clear hcz24_4
    try clear hcz24_5
    try clear hcz24_6
    try clear hcz24_7
    try clear hcz25_0
    try clear hcz25_1
    try clear hcz25_2
    try clear hcz25_3
    try clear hcz25_4
    try clear hcz25_5
    try clear hcz25_6
    try clear hcz25_7
    try clear hcz27_0
    try clear hcz27_1
    try clear hcz27_2
    try clear hcz27_3
    try clear hcz27_4
    try clear hcz27_5
    try clear hcz27_6
    try clear hcz27_7
    try clear hcz29_0
    try clear hcz29_1
    try clear hcz29_2
    try clear hcz29_3
    try clear hcz29_4
    try clear hcz29_5
    try clear hcz29_6
    try clear hcz29_7
    try clear hcz33_0
    try clear hcz33_1
    try clear hcz33_2
    try clear hcz33_3
    try clear hcz33_4
    try clear hcz33_5
    try clear hcz33_6
    try clear hcz33_7
    try clear hcz9_0
    try clear hcz9_1
    try clear hcz9_2
    try clear hcz9_3
    try clear hcz9_4
    try clear hcz9_5
    try clear hcz9_6
    try clear hcz9_7
    try clear hfz11_0
    try clear hfz11_1
    try clear hfz11_2
    try clear hfz11_3
    try clear hfz11_4
    try clear hfz11_5
    try clear hfz11_6
    try clear hfz11_7
    try clear hfz13_0
    try clear hfz13_1
    try clear hfz13_2
    try clear hfz13_3
    try clear hfz13_4
    try clear hfz13_5
    try clear hfz13_6
    try clear hfz13_7
    try clear hfz15_0
    try clear hfz15_1
    try clear hfz15_2
    try clear hfz15_3
    try clear hfz15_4
    try clear hfz15_5
    try clear hfz15_6
    try clear hfz15_7
    try clear hfz17_0
    try clear hfz17_1
    try clear hfz17_2
    try clear hfz17_3
    try clear hfz17_4
    try clear hfz17_5
    try clear hfz17_6
    try clear hfz17_7
    try clear hfz19_0
    try clear hfz19_1
    try clear hfz19_2
    try clear hfz19_3
    try clear hfz19_4
    try clear hfz19_5
    try clear hfz19_6
    try clear hfz19_7
    try clear hfz20_0
    try clear hfz20_1
    try clear hfz20_2
    try clear hfz20_3
    try clear hfz20_4
    try clear hfz20_5
    try clear hfz20_6
    try clear hfz20_7
    try clear hfz22_0
    try clear hfz22_1
    try clear hfz22_2
    try clear hfz22_3
    try clear hfz22_4
    try clear hfz22_5
    try clear hfz22_6
    try clear hfz22_7
    try clear hfz24_0
    try clear hfz24_1
    try clear hfz24_2
    try clear hfz24_3
    try clear hfz24_4
    try clear hfz24_5
    try clear hfz24_6
    try clear hfz24_7
    try clear hfz25_0
    try clear hfz25_1
    try clear hfz25_2
    try clear hfz25_3
    try clear hfz25_4
    try clear hfz25_5
    try clear hfz25_6
    try clear hfz25_7
    try clear hfz27_0
    try clear hfz27_1
    try clear hfz27_2
    try clear hfz27_3
    try clear hfz27_4
    try clear hfz27_5
    try clear hfz27_6
    try clear hfz27_7
    try clear hfz29_0
    try clear hfz29_1
    try clear hfz29_2
    try clear hfz29_3
    try clear hfz29_4
    try clear hfz29_5
    try clear hfz29_6
    try clear hfz29_7
    try clear hfz33_0
    try clear hfz33_1
    try clear hfz33_2
    try clear hfz33_3
    try clear hfz33_4
    try clear hfz33_5
    try clear hfz33_6
    try clear hfz33_7
    try clear hfz9_0
    try clear hfz9_1
    try clear hfz9_2
    try clear hfz9_3
    try clear hfz9_4
    try clear hfz9_5
    try clear hfz9_6
    try clear hfz9_7
    try clear p2
    obtain ⟨kq, x32_31, rfl, HA, HJ31, BK531, HB⟩ := hcut
    cases kq with
    | zero => exact absurd HA.out (by simp [member_Good.j1])
    | succ kj31 =>
     have H := HA.out
     clear HA
     simp only [member_Good.j1] at H
     by_cases c35 : x32_31 = true
     ·subst c35
      have H1 : (some (a0_1.toList == ([] : List UInt8))) = some r := by rw [if_pos rfl] at H; exact H
      clear H
      have H := H1
      clear H1
      obtain rfl := Option.some.inj H
      have hcz36_0 : wc.cell? ⟨gb531, 0, none⟩ = some (.string a0_0) := (bc_ BK531.out 0).trans rfl
      have hcz36_1 : wc.cell? ⟨gb531, 1, none⟩ = some (.string a0_1) := (bc_ BK531.out 1).trans rfl
      have hcz36_2 : wc.cell? ⟨gb531, 2, none⟩ = some (.int .u8 a0_2) := (bc_ BK531.out 2).trans rfl
      have hcz36_3 : wc.cell? ⟨gb531, 3, none⟩ = some (.int .i64 a0_3) := (bc_ BK531.out 3).trans rfl
      have hcz36_4 : wc.cell? ⟨gb531, 4, none⟩ = some (.int .i64 a0_4) := (bc_ BK531.out 4).trans rfl
      have hcz36_5 : wc.cell? ⟨gb531, 5, none⟩ = some (.int .i64 a0_5) := (bc_ BK531.out 5).trans rfl
      have hcz36_6 : wc.cell? ⟨gb531, 6, none⟩ = some (.int .i64 a0_6) := (bc_ BK531.out 6).trans rfl
      have hcz36_7 : wc.cell? ⟨gb531, 7, none⟩ = some (.slice A0_7 l0_7.length c0_7) := (bc_ BK531.out 7).trans rfl
      have hfz36_0 := bf_ BK531.out 0
      have hfz36_1 := bf_ BK531.out 1
      have hfz36_2 := bf_ BK531.out 2
      have hfz36_3 := bf_ BK531.out 3
      have hfz36_4 := bf_ BK531.out 4
      have hfz36_5 := bf_ BK531.out 5
      have hfz36_6 := bf_ BK531.out 6
      have hfz36_7 := bf_ BK531.out 7
      go_wp2
      go_ret
      exact ⟨we_, wb1_ HB.out GE531.out⟩
     replace c35 := Bool.eq_false_iff.mpr c35
     subst c35
     have H1 : (if a0_2 = 49 then ((member_clean.f a0_1).bind fun t534 => (some t534)) else (if a0_2 = 50 then ((path_Target.f a0_1).bind fun t535 => (some (t535 == 0))) else (some false))) = some r := by rw [if_neg (show ¬ (false = true) by decide)] at H; exact H
     clear H
     have H := H1
     clear H1
     by_cases c37 : a0_2 = 49
     ·rw [if_pos c37] at H
      have c37b0 : (a0_2 == 49) = true := beq_iff_eq.mpr c37
      have c37b1 : (a0_2 != 49) = false := bne_eq_false_iff_eq.mpr c37
      clear c37
      replace H := Option.bind_eq_some_iff.mp H
      obtain ⟨t534, A380, H⟩ := H
      replace H : (some t534) = some r := H
      have A38 := A0_ A380
      clear A380
      obtain rfl := Option.some.inj H
      have hcz39_0 : wc.cell? ⟨gb531, 0, none⟩ = some (.string a0_0) := (bc_ BK531.out 0).trans rfl
      have hcz39_1 : wc.cell? ⟨gb531, 1, none⟩ = some (.string a0_1) := (bc_ BK531.out 1).trans rfl
      have hcz39_2 : wc.cell? ⟨gb531, 2, none⟩ = some (.int .u8 a0_2) := (bc_ BK531.out 2).trans rfl
      have hcz39_3 : wc.cell? ⟨gb531, 3, none⟩ = some (.int .i64 a0_3) := (bc_ BK531.out 3).trans rfl
      have hcz39_4 : wc.cell? ⟨gb531, 4, none⟩ = some (.int .i64 a0_4) := (bc_ BK531.out 4).trans rfl
      have hcz39_5 : wc.cell? ⟨gb531, 5, none⟩ = some (.int .i64 a0_5) := (bc_ BK531.out 5).trans rfl
      have hcz39_6 : wc.cell? ⟨gb531, 6, none⟩ = some (.int .i64 a0_6) := (bc_ BK531.out 6).trans rfl
      have hcz39_7 : wc.cell? ⟨gb531, 7, none⟩ = some (.slice A0_7 l0_7.length c0_7) := (bc_ BK531.out 7).trans rfl
      have hfz39_0 := bf_ BK531.out 0
      have hfz39_1 := bf_ BK531.out 1
      have hfz39_2 := bf_ BK531.out 2
      have hfz39_3 := bf_ BK531.out 3
      have hfz39_4 := bf_ BK531.out 4
      have hfz39_5 := bf_ BK531.out 5
      have hfz39_6 := bf_ BK531.out 6
      have hfz39_7 := bf_ BK531.out 7
      go_wp2_with (first | ((with_reducible refine gate_callee (f := 62) rfl ?_); refine goesL_ (some 42) rfl rfl Tryz.func62 (by kernel_rfl) rfl #[.string a0_1] rfl wm_ ?_; (with_reducible refine (member_clean.calls a0_1 t534 _ ?side1 A38.out).mono ?_); (case side1 => exact A0_ (Tabs.below hT.out (wb1_ HB.out GE531.out))); rintro e w40 ⟨rfl, hb⟩; refine ⟨_, rfl, ?_⟩; have n0_ := A0_ (blk_below (g := gb531) (o := .cells #[.string a0_0, .string a0_1, .int .u8 a0_2, .int .i64 a0_3, .int .i64 a0_4, .int .i64 a0_5, .int .i64 a0_6, .slice A0_7 l0_7.length c0_7] 72 (0, 0)) (wB_ BK531.out) hb); have n1_ := A0_ (below_step (wb1_ HB.out GE531.out) hb); clear BK531; clear HB; have BK531 := n0_; have HB := n1_; clear n0_ n1_; (try clear hb); (try clear hb2); (try clear hk); (try clear hi)))
      go_ret
      exact ⟨we_, wb1_ HB.out GE531.out⟩
     rw [if_neg c37] at H
     have c37b0 : (a0_2 == 49) = false := beq_eq_false_iff_ne.mpr c37
     have c37b1 : (a0_2 != 49) = true := bne_iff_ne.mpr c37
     by_cases c41 : a0_2 = 50
     rotate_left
     ·rw [if_neg c41] at H
      have c41b0 : (a0_2 == 50) = false := beq_eq_false_iff_ne.mpr c41
      have c41b1 : (a0_2 != 50) = true := bne_iff_ne.mpr c41
      obtain rfl := Option.some.inj H
      go_wp2
      go_ret
      exact ⟨we_, wb1_ HB.out GE531.out⟩
     rw [if_pos c41] at H
     have c41b0 : (a0_2 == 50) = true := beq_iff_eq.mpr c41
     have c41b1 : (a0_2 != 50) = false := bne_eq_false_iff_eq.mpr c41
     clear c41
     replace H := Option.bind_eq_some_iff.mp H
     obtain ⟨t535, A420, H⟩ := H
     replace H : (some (t535 == 0)) = some r := H
     have A42 := A0_ A420
     clear A420
     obtain rfl := Option.some.inj H
     have hcz43_0 : wc.cell? ⟨gb531, 0, none⟩ = some (.string a0_0) := (bc_ BK531.out 0).trans rfl
     have hcz43_1 : wc.cell? ⟨gb531, 1, none⟩ = some (.string a0_1) := (bc_ BK531.out 1).trans rfl
     have hcz43_2 : wc.cell? ⟨gb531, 2, none⟩ = some (.int .u8 a0_2) := (bc_ BK531.out 2).trans rfl
     have hcz43_3 : wc.cell? ⟨gb531, 3, none⟩ = some (.int .i64 a0_3) := (bc_ BK531.out 3).trans rfl
     have hcz43_4 : wc.cell? ⟨gb531, 4, none⟩ = some (.int .i64 a0_4) := (bc_ BK531.out 4).trans rfl
     have hcz43_5 : wc.cell? ⟨gb531, 5, none⟩ = some (.int .i64 a0_5) := (bc_ BK531.out 5).trans rfl
     have hcz43_6 : wc.cell? ⟨gb531, 6, none⟩ = some (.int .i64 a0_6) := (bc_ BK531.out 6).trans rfl
     have hcz43_7 : wc.cell? ⟨gb531, 7, none⟩ = some (.slice A0_7 l0_7.length c0_7) := (bc_ BK531.out 7).trans rfl
     have hfz43_0 := bf_ BK531.out 0
     have hfz43_1 := bf_ BK531.out 1
     have hfz43_2 := bf_ BK531.out 2
     have hfz43_3 := bf_ BK531.out 3
     have hfz43_4 := bf_ BK531.out 4
     have hfz43_5 := bf_ BK531.out 5
     have hfz43_6 := bf_ BK531.out 6
     have hfz43_7 := bf_ BK531.out 7
     go_wp2_with (first | ((with_reducible refine gate_callee (f := 64) rfl ?_); refine goesL_ (some 47) rfl rfl Tryz.func64 (by kernel_rfl) rfl #[.string a0_1] rfl wm_ ?_; (with_reducible refine (path_Target.calls a0_1 t535 _ ?side1 A42.out).mono ?_); (case side1 => exact A0_ (Tabs.below hT.out (wb1_ HB.out GE531.out))); rintro e w44 ⟨rfl, hb⟩; refine ⟨_, rfl, ?_⟩; have n0_ := A0_ (blk_below (g := gb531) (o := .cells #[.string a0_0, .string a0_1, .int .u8 a0_2, .int .i64 a0_3, .int .i64 a0_4, .int .i64 a0_5, .int .i64 a0_6, .slice A0_7 l0_7.length c0_7] 72 (0, 0)) (wB_ BK531.out) hb); have n1_ := A0_ (below_step (wb1_ HB.out GE531.out) hb); clear BK531; clear HB; have BK531 := n0_; have HB := n1_; clear n0_ n1_; (try clear hb); (try clear hb2); (try clear hk); (try clear hi)))
     go_ret
     exact ⟨we_, wb1_ HB.out GE531.out⟩
end Go.Proofs.YtbngbefchobfnaaGreatDoor.Print

namespace Go.Proofs.YtbngbefchobfnaaGreatDoor.Print
open Go.RowKit Go.Proofs.YtbngbefchobfnaaGreatDoorW.PrintWords Go.Proofs.YtbngbefchobfnaaGreatDoorW.PrintLast Go.Proofs.YtbngbefchobfnaaGreatDoorW.PrintMore
attribute [local go_sem] max2_int min2_int max_two min_two max_three min_three max_four min_four   -- for this text's walks alone
set_option linter.unusedVariables false
set_option linter.unusedSimpArgs false
def bindleref08_clean.f (k : Nat) (a0 : ByteArray) : Option (Bool) := (bindleref01_Clean.f k a0).bind fun bt555 => (if bt555.2 = 0 then (some (a0.toList == bt555.1.toList)) else (some false))
set_option maxHeartbeats 8000000 in
set_option maxRecDepth 100000 in
theorem bindleref08_clean.calls (k : Nat) (a0 : ByteArray) (r : Bool) (w : World) (h : bindleref08_clean.f k a0 = some r) :
  Calls Tryz.prog 47 #[.string a0] w fun e w' => e = .returned (.bool r) ∧ Drawn0 w w' := by
 have H : ((bindleref01_Clean.f k a0).bind fun bt555 => (if bt555.2 = 0 then (some (a0.toList == bt555.1.toList)) else (some false))) = some r := h
 clear h
 replace H := Option.bind_eq_some_iff.mp H
 obtain ⟨⟨t555, t556⟩, A20, H⟩ := H
 replace H : (if t556 = 0 then (some (a0.toList == t555.toList)) else (some false)) = some r := H
 have A2 := A0_ A20
 clear A20
 by_cases c3 : t556 = 0
 rotate_left
 ·rw [if_neg c3] at H
  have c3b0 : (t556 == 0) = false := beq_eq_false_iff_ne.mpr c3
  have c3b1 : (t556 != 0) = true := bne_iff_ne.mpr c3
  obtain rfl := Option.some.inj H
  go_enter Tryz.func47, Tryz.ntmps47
  go_wp2_with (first | ((with_reducible refine gate_callee (f := 60) rfl ?_); refine goesL_ (some 7) rfl rfl Tryz.func60 (by kernel_rfl) rfl #[.string a0] rfl wm_ ?_; (with_reducible refine (bindleref01_Clean.calls k a0 t555 t556 _ A2.out).mono ?_); rintro e w' ⟨rfl, ⟨nd, rfl⟩⟩; refine ⟨_, rfl, ?_⟩))
  go_ret
  exact ⟨by first | rfl | (simp; done) | (simp [*]; done), by repeat (first | exact Drawn0.refl _ | apply Drawn0.step)⟩
 rw [if_pos c3] at H
 have c3b0 : (t556 == 0) = true := beq_iff_eq.mpr c3
 have c3b1 : (t556 != 0) = false := bne_eq_false_iff_eq.mpr c3
 clear c3
 obtain rfl := Option.some.inj H
 go_enter Tryz.func47, Tryz.ntmps47
 go_wp2_with (first | ((with_reducible refine gate_callee (f := 60) rfl ?_); refine goesL_ (some 7) rfl rfl Tryz.func60 (by kernel_rfl) rfl #[.string a0] rfl wm_ ?_; (with_reducible refine (bindleref01_Clean.calls k a0 t555 t556 _ A2.out).mono ?_); rintro e w' ⟨rfl, ⟨nd, rfl⟩⟩; refine ⟨_, rfl, ?_⟩))
 go_ret
 exact ⟨by first | rfl | (simp; done) | (simp [*]; done), by repeat (first | exact Drawn0.refl _ | apply Drawn0.step)⟩
end Go.Proofs.YtbngbefchobfnaaGreatDoor.Print

namespace Go.Proofs.YtbngbefchobfnaaGreatDoor.Print
open Go.RowKit Go.Proofs.YtbngbefchobfnaaGreatDoorW.PrintWords Go.Proofs.YtbngbefchobfnaaGreatDoorW.PrintLast Go.Proofs.YtbngbefchobfnaaGreatDoorW.PrintMore
attribute [local go_sem] max2_int min2_int max_two min_two max_three min_three max_four min_four   -- for this text's walks alone
set_option linter.unusedVariables false
set_option linter.unusedSimpArgs false
def bindleref08_Meta.f (a0_0 : Int) (a0_1 : Int) (a0_2 : Int) (a0_3 : Int) : Option (Bool) := if a0_0 ≥ 0 then (if a0_0 ≤ 4095 then (if a0_1 ≥ 0 then (if a0_1 < 2147483648 then (if a0_2 ≥ 0 then (if a0_2 < 2147483648 then (if a0_3 ≥ 0 then (some (decide (a0_3 ≤ 1099511627776))) else (some false)) else (some false)) else (some false)) else (some false)) else (some false)) else (some false)) else (some false)
set_option maxHeartbeats 8000000 in
set_option maxRecDepth 100000 in
theorem bindleref08_Meta.calls (a0_0 : Int) (a0_1 : Int) (a0_2 : Int) (a0_3 : Int) (r : Bool) (w : World) (h : bindleref08_Meta.f a0_0 a0_1 a0_2 a0_3 = some r) :
  Calls Tryz.prog 48 #[.agg #[.int .i64 a0_0, .int .i64 a0_1, .int .i64 a0_2, .int .i64 a0_3]] w fun e w' => e = .returned (.bool r) ∧ Below w.heap.size w w' := by
 have hu39 := Tryz.underlying39
 have HB := A0_ (Below.refl w.heap.size w)
 have H : (if a0_0 ≥ 0 then (if a0_0 ≤ 4095 then (if a0_1 ≥ 0 then (if a0_1 < 2147483648 then (if a0_2 ≥ 0 then (if a0_2 < 2147483648 then (if a0_3 ≥ 0 then (some (decide (a0_3 ≤ 1099511627776))) else (some false)) else (some false)) else (some false)) else (some false)) else (some false)) else (some false)) else (some false)) = some r := h
 clear h
 by_cases c2 : a0_0 ≥ 0
 rotate_left
 ·rw [if_neg c2] at H
  have c2b0 : decide (0 ≤ a0_0) = false := decide_eq_false c2
  clear c2
  obtain rfl := Option.some.inj H
  go_enter Tryz.func48, Tryz.ntmps48
  go_wp2_with (first | ((with_reducible refine gate_dst (N := 1) rfl ?_); refine box_event ?hg (N := 1) ?hd (cs := #[.int .i64 a0_0, .int .i64 a0_1, .int .i64 a0_2, .int .i64 a0_3]) (t := 39) ?hr ?_; (case hd => rfl); (case hg => rfl); (case hr => first | (go_simp; done) | (go_simp; rfl)); intro gb557 hg w23 hbox hb; have n0_ := A0_ (below_step (wb_ HB.out) hb); have n1_ := A0_ (hbox); have n2_ := A0_ ((by rw [hg]; exact (below_size (wb_ HB.out)) : w.heap.size ≤ gb557)); have n3_ := A0_ ((by rw [hg]; exact (below_size (wb_ HB.out)) : w.heap.size ≤ gb557)); clear HB; have HB := n0_; have BK557 := n1_; have GW557 := n2_; have GE557 := n3_; clear n0_ n1_ n2_ n3_; clear hb hbox hg; have hcz24_0 : w23.cell? ⟨gb557, 0, none⟩ = some (.int .i64 a0_0) := (bc_ BK557.out 0).trans rfl; have hcz24_1 : w23.cell? ⟨gb557, 1, none⟩ = some (.int .i64 a0_1) := (bc_ BK557.out 1).trans rfl; have hcz24_2 : w23.cell? ⟨gb557, 2, none⟩ = some (.int .i64 a0_2) := (bc_ BK557.out 2).trans rfl; have hcz24_3 : w23.cell? ⟨gb557, 3, none⟩ = some (.int .i64 a0_3) := (bc_ BK557.out 3).trans rfl; have hfz24_0 := bf_ BK557.out 0; have hfz24_1 := bf_ BK557.out 1; have hfz24_2 := bf_ BK557.out 2; have hfz24_3 := bf_ BK557.out 3))
  go_ret
  exact ⟨we_, wb1_ HB.out GE557.out⟩
 rw [if_pos c2] at H
 have c2b0 : decide (0 ≤ a0_0) = true := decide_eq_true c2
 clear c2
 by_cases c3 : a0_0 ≤ 4095
 rotate_left
 ·rw [if_neg c3] at H
  have c3b0 : decide (a0_0 ≤ 4095) = false := decide_eq_false c3
  clear c3
  obtain rfl := Option.some.inj H
  go_enter Tryz.func48, Tryz.ntmps48
  go_wp2_with (first | ((with_reducible refine gate_dst (N := 1) rfl ?_); refine box_event ?hg (N := 1) ?hd (cs := #[.int .i64 a0_0, .int .i64 a0_1, .int .i64 a0_2, .int .i64 a0_3]) (t := 39) ?hr ?_; (case hd => rfl); (case hg => rfl); (case hr => first | (go_simp; done) | (go_simp; rfl)); intro gb557 hg w21 hbox hb; have n0_ := A0_ (below_step (wb_ HB.out) hb); have n1_ := A0_ (hbox); have n2_ := A0_ ((by rw [hg]; exact (below_size (wb_ HB.out)) : w.heap.size ≤ gb557)); have n3_ := A0_ ((by rw [hg]; exact (below_size (wb_ HB.out)) : w.heap.size ≤ gb557)); clear HB; have HB := n0_; have BK557 := n1_; have GW557 := n2_; have GE557 := n3_; clear n0_ n1_ n2_ n3_; clear hb hbox hg; have hcz22_0 : w21.cell? ⟨gb557, 0, none⟩ = some (.int .i64 a0_0) := (bc_ BK557.out 0).trans rfl; have hcz22_1 : w21.cell? ⟨gb557, 1, none⟩ = some (.int .i64 a0_1) := (bc_ BK557.out 1).trans rfl; have hcz22_2 : w21.cell? ⟨gb557, 2, none⟩ = some (.int .i64 a0_2) := (bc_ BK557.out 2).trans rfl; have hcz22_3 : w21.cell? ⟨gb557, 3, none⟩ = some (.int .i64 a0_3) := (bc_ BK557.out 3).trans rfl; have hfz22_0 := bf_ BK557.out 0; have hfz22_1 := bf_ BK557.out 1; have hfz22_2 := bf_ BK557.out 2; have hfz22_3 := bf_ BK557.out 3))
  go_ret
  exact ⟨we_, wb1_ HB.out GE557.out⟩
 rw [if_pos c3] at H
 have c3b0 : decide (a0_0 ≤ 4095) = true := decide_eq_true c3
 clear c3
 by_cases c4 : a0_1 ≥ 0
 rotate_left
 ·rw [if_neg c4] at H
  have c4b0 : decide (0 ≤ a0_1) = false := decide_eq_false c4
  clear c4
  obtain rfl := Option.some.inj H
  go_enter Tryz.func48, Tryz.ntmps48
  go_wp2_with (first | ((with_reducible refine gate_dst (N := 1) rfl ?_); refine box_event ?hg (N := 1) ?hd (cs := #[.int .i64 a0_0, .int .i64 a0_1, .int .i64 a0_2, .int .i64 a0_3]) (t := 39) ?hr ?_; (case hd => rfl); (case hg => rfl); (case hr => first | (go_simp; done) | (go_simp; rfl)); intro gb557 hg w19 hbox hb; have n0_ := A0_ (below_step (wb_ HB.out) hb); have n1_ := A0_ (hbox); have n2_ := A0_ ((by rw [hg]; exact (below_size (wb_ HB.out)) : w.heap.size ≤ gb557)); have n3_ := A0_ ((by rw [hg]; exact (below_size (wb_ HB.out)) : w.heap.size ≤ gb557)); clear HB; have HB := n0_; have BK557 := n1_; have GW557 := n2_; have GE557 := n3_; clear n0_ n1_ n2_ n3_; clear hb hbox hg; have hcz20_0 : w19.cell? ⟨gb557, 0, none⟩ = some (.int .i64 a0_0) := (bc_ BK557.out 0).trans rfl; have hcz20_1 : w19.cell? ⟨gb557, 1, none⟩ = some (.int .i64 a0_1) := (bc_ BK557.out 1).trans rfl; have hcz20_2 : w19.cell? ⟨gb557, 2, none⟩ = some (.int .i64 a0_2) := (bc_ BK557.out 2).trans rfl; have hcz20_3 : w19.cell? ⟨gb557, 3, none⟩ = some (.int .i64 a0_3) := (bc_ BK557.out 3).trans rfl; have hfz20_0 := bf_ BK557.out 0; have hfz20_1 := bf_ BK557.out 1; have hfz20_2 := bf_ BK557.out 2; have hfz20_3 := bf_ BK557.out 3))
  go_ret
  exact ⟨we_, wb1_ HB.out GE557.out⟩
 rw [if_pos c4] at H
 have c4b0 : decide (0 ≤ a0_1) = true := decide_eq_true c4
 clear c4
 by_cases c5 : a0_1 < 2147483648
 rotate_left
 ·rw [if_neg c5] at H
  have c5b0 : decide (a0_1 < 2147483648) = false := decide_eq_false c5
  clear c5
  obtain rfl := Option.some.inj H
  go_enter Tryz.func48, Tryz.ntmps48
  go_wp2_with (first | ((with_reducible refine gate_dst (N := 1) rfl ?_); refine box_event ?hg (N := 1) ?hd (cs := #[.int .i64 a0_0, .int .i64 a0_1, .int .i64 a0_2, .int .i64 a0_3]) (t := 39) ?hr ?_; (case hd => rfl); (case hg => rfl); (case hr => first | (go_simp; done) | (go_simp; rfl)); intro gb557 hg w17 hbox hb; have n0_ := A0_ (below_step (wb_ HB.out) hb); have n1_ := A0_ (hbox); have n2_ := A0_ ((by rw [hg]; exact (below_size (wb_ HB.out)) : w.heap.size ≤ gb557)); have n3_ := A0_ ((by rw [hg]; exact (below_size (wb_ HB.out)) : w.heap.size ≤ gb557)); clear HB; have HB := n0_; have BK557 := n1_; have GW557 := n2_; have GE557 := n3_; clear n0_ n1_ n2_ n3_; clear hb hbox hg; have hcz18_0 : w17.cell? ⟨gb557, 0, none⟩ = some (.int .i64 a0_0) := (bc_ BK557.out 0).trans rfl; have hcz18_1 : w17.cell? ⟨gb557, 1, none⟩ = some (.int .i64 a0_1) := (bc_ BK557.out 1).trans rfl; have hcz18_2 : w17.cell? ⟨gb557, 2, none⟩ = some (.int .i64 a0_2) := (bc_ BK557.out 2).trans rfl; have hcz18_3 : w17.cell? ⟨gb557, 3, none⟩ = some (.int .i64 a0_3) := (bc_ BK557.out 3).trans rfl; have hfz18_0 := bf_ BK557.out 0; have hfz18_1 := bf_ BK557.out 1; have hfz18_2 := bf_ BK557.out 2; have hfz18_3 := bf_ BK557.out 3))
  go_ret
  exact ⟨we_, wb1_ HB.out GE557.out⟩
 rw [if_pos c5] at H
 have c5b0 : decide (a0_1 < 2147483648) = true := decide_eq_true c5
 clear c5
 by_cases c6 : a0_2 ≥ 0
 rotate_left
 ·rw [if_neg c6] at H
  have c6b0 : decide (0 ≤ a0_2) = false := decide_eq_false c6
  clear c6
  obtain rfl := Option.some.inj H
  go_enter Tryz.func48, Tryz.ntmps48
  go_wp2_with (first | ((with_reducible refine gate_dst (N := 1) rfl ?_); refine box_event ?hg (N := 1) ?hd (cs := #[.int .i64 a0_0, .int .i64 a0_1, .int .i64 a0_2, .int .i64 a0_3]) (t := 39) ?hr ?_; (case hd => rfl); (case hg => rfl); (case hr => first | (go_simp; done) | (go_simp; rfl)); intro gb557 hg w15 hbox hb; have n0_ := A0_ (below_step (wb_ HB.out) hb); have n1_ := A0_ (hbox); have n2_ := A0_ ((by rw [hg]; exact (below_size (wb_ HB.out)) : w.heap.size ≤ gb557)); have n3_ := A0_ ((by rw [hg]; exact (below_size (wb_ HB.out)) : w.heap.size ≤ gb557)); clear HB; have HB := n0_; have BK557 := n1_; have GW557 := n2_; have GE557 := n3_; clear n0_ n1_ n2_ n3_; clear hb hbox hg; have hcz16_0 : w15.cell? ⟨gb557, 0, none⟩ = some (.int .i64 a0_0) := (bc_ BK557.out 0).trans rfl; have hcz16_1 : w15.cell? ⟨gb557, 1, none⟩ = some (.int .i64 a0_1) := (bc_ BK557.out 1).trans rfl; have hcz16_2 : w15.cell? ⟨gb557, 2, none⟩ = some (.int .i64 a0_2) := (bc_ BK557.out 2).trans rfl; have hcz16_3 : w15.cell? ⟨gb557, 3, none⟩ = some (.int .i64 a0_3) := (bc_ BK557.out 3).trans rfl; have hfz16_0 := bf_ BK557.out 0; have hfz16_1 := bf_ BK557.out 1; have hfz16_2 := bf_ BK557.out 2; have hfz16_3 := bf_ BK557.out 3))
  go_ret
  exact ⟨we_, wb1_ HB.out GE557.out⟩
 rw [if_pos c6] at H
 have c6b0 : decide (0 ≤ a0_2) = true := decide_eq_true c6
 clear c6
 by_cases c7 : a0_2 < 2147483648
 rotate_left
 ·rw [if_neg c7] at H
  have c7b0 : decide (a0_2 < 2147483648) = false := decide_eq_false c7
  clear c7
  obtain rfl := Option.some.inj H
  go_enter Tryz.func48, Tryz.ntmps48
  go_wp2_with (first | ((with_reducible refine gate_dst (N := 1) rfl ?_); refine box_event ?hg (N := 1) ?hd (cs := #[.int .i64 a0_0, .int .i64 a0_1, .int .i64 a0_2, .int .i64 a0_3]) (t := 39) ?hr ?_; (case hd => rfl); (case hg => rfl); (case hr => first | (go_simp; done) | (go_simp; rfl)); intro gb557 hg w13 hbox hb; have n0_ := A0_ (below_step (wb_ HB.out) hb); have n1_ := A0_ (hbox); have n2_ := A0_ ((by rw [hg]; exact (below_size (wb_ HB.out)) : w.heap.size ≤ gb557)); have n3_ := A0_ ((by rw [hg]; exact (below_size (wb_ HB.out)) : w.heap.size ≤ gb557)); clear HB; have HB := n0_; have BK557 := n1_; have GW557 := n2_; have GE557 := n3_; clear n0_ n1_ n2_ n3_; clear hb hbox hg; have hcz14_0 : w13.cell? ⟨gb557, 0, none⟩ = some (.int .i64 a0_0) := (bc_ BK557.out 0).trans rfl; have hcz14_1 : w13.cell? ⟨gb557, 1, none⟩ = some (.int .i64 a0_1) := (bc_ BK557.out 1).trans rfl; have hcz14_2 : w13.cell? ⟨gb557, 2, none⟩ = some (.int .i64 a0_2) := (bc_ BK557.out 2).trans rfl; have hcz14_3 : w13.cell? ⟨gb557, 3, none⟩ = some (.int .i64 a0_3) := (bc_ BK557.out 3).trans rfl; have hfz14_0 := bf_ BK557.out 0; have hfz14_1 := bf_ BK557.out 1; have hfz14_2 := bf_ BK557.out 2; have hfz14_3 := bf_ BK557.out 3))
  go_ret
  exact ⟨we_, wb1_ HB.out GE557.out⟩
 rw [if_pos c7] at H
 have c7b0 : decide (a0_2 < 2147483648) = true := decide_eq_true c7
 clear c7
 by_cases c8 : a0_3 ≥ 0
 ·rw [if_pos c8] at H
  have c8b0 : decide (0 ≤ a0_3) = true := decide_eq_true c8
  clear c8
  obtain rfl := Option.some.inj H
  go_enter Tryz.func48, Tryz.ntmps48
  go_wp2_with (first | ((with_reducible refine gate_dst (N := 1) rfl ?_); refine box_event ?hg (N := 1) ?hd (cs := #[.int .i64 a0_0, .int .i64 a0_1, .int .i64 a0_2, .int .i64 a0_3]) (t := 39) ?hr ?_; (case hd => rfl); (case hg => rfl); (case hr => first | (go_simp; done) | (go_simp; rfl)); intro gb557 hg w9 hbox hb; have n0_ := A0_ (below_step (wb_ HB.out) hb); have n1_ := A0_ (hbox); have n2_ := A0_ ((by rw [hg]; exact (below_size (wb_ HB.out)) : w.heap.size ≤ gb557)); have n3_ := A0_ ((by rw [hg]; exact (below_size (wb_ HB.out)) : w.heap.size ≤ gb557)); clear HB; have HB := n0_; have BK557 := n1_; have GW557 := n2_; have GE557 := n3_; clear n0_ n1_ n2_ n3_; clear hb hbox hg; have hcz10_0 : w9.cell? ⟨gb557, 0, none⟩ = some (.int .i64 a0_0) := (bc_ BK557.out 0).trans rfl; have hcz10_1 : w9.cell? ⟨gb557, 1, none⟩ = some (.int .i64 a0_1) := (bc_ BK557.out 1).trans rfl; have hcz10_2 : w9.cell? ⟨gb557, 2, none⟩ = some (.int .i64 a0_2) := (bc_ BK557.out 2).trans rfl; have hcz10_3 : w9.cell? ⟨gb557, 3, none⟩ = some (.int .i64 a0_3) := (bc_ BK557.out 3).trans rfl; have hfz10_0 := bf_ BK557.out 0; have hfz10_1 := bf_ BK557.out 1; have hfz10_2 := bf_ BK557.out 2; have hfz10_3 := bf_ BK557.out 3))
  go_ret
  exact ⟨we_, wb1_ HB.out GE557.out⟩
 rw [if_neg c8] at H
 have c8b0 : decide (0 ≤ a0_3) = false := decide_eq_false c8
 clear c8
 obtain rfl := Option.some.inj H
 go_enter Tryz.func48, Tryz.ntmps48
 go_wp2_with (first | ((with_reducible refine gate_dst (N := 1) rfl ?_); refine box_event ?hg (N := 1) ?hd (cs := #[.int .i64 a0_0, .int .i64 a0_1, .int .i64 a0_2, .int .i64 a0_3]) (t := 39) ?hr ?_; (case hd => rfl); (case hg => rfl); (case hr => first | (go_simp; done) | (go_simp; rfl)); intro gb557 hg w11 hbox hb; have n0_ := A0_ (below_step (wb_ HB.out) hb); have n1_ := A0_ (hbox); have n2_ := A0_ ((by rw [hg]; exact (below_size (wb_ HB.out)) : w.heap.size ≤ gb557)); have n3_ := A0_ ((by rw [hg]; exact (below_size (wb_ HB.out)) : w.heap.size ≤ gb557)); clear HB; have HB := n0_; have BK557 := n1_; have GW557 := n2_; have GE557 := n3_; clear n0_ n1_ n2_ n3_; clear hb hbox hg; have hcz12_0 : w11.cell? ⟨gb557, 0, none⟩ = some (.int .i64 a0_0) := (bc_ BK557.out 0).trans rfl; have hcz12_1 : w11.cell? ⟨gb557, 1, none⟩ = some (.int .i64 a0_1) := (bc_ BK557.out 1).trans rfl; have hcz12_2 : w11.cell? ⟨gb557, 2, none⟩ = some (.int .i64 a0_2) := (bc_ BK557.out 2).trans rfl; have hcz12_3 : w11.cell? ⟨gb557, 3, none⟩ = some (.int .i64 a0_3) := (bc_ BK557.out 3).trans rfl; have hfz12_0 := bf_ BK557.out 0; have hfz12_1 := bf_ BK557.out 1; have hfz12_2 := bf_ BK557.out 2; have hfz12_3 := bf_ BK557.out 3))
 go_ret
 exact ⟨we_, wb1_ HB.out GE557.out⟩
end Go.Proofs.YtbngbefchobfnaaGreatDoor.Print

namespace Go.Proofs.YtbngbefchobfnaaGreatDoor.Print
open Go.RowKit Go.Proofs.YtbngbefchobfnaaGreatDoorW.PrintWords Go.Proofs.YtbngbefchobfnaaGreatDoorW.PrintLast Go.Proofs.YtbngbefchobfnaaGreatDoorW.PrintMore
attribute [local go_sem] max2_int min2_int max_two min_two max_three min_three max_four min_four   -- for this text's walks alone
set_option linter.unusedVariables false
set_option linter.unusedSimpArgs false
def bindleref08_Target.f (k : Nat) (a0 : ByteArray) : Option (Int) := (bindleref01_Text.f k a0).bind fun t558 => (if t558 = true then (if a0.toList = ([] : List UInt8) then (some 6) else (if (a0.size : Int) > 200 then (some 6) else (some 0))) else (some 9))
set_option maxHeartbeats 8000000 in
set_option maxRecDepth 100000 in
theorem bindleref08_Target.calls (k : Nat) (a0 : ByteArray) (r : Int) (w : World) (h : bindleref08_Target.f k a0 = some r) :
  Calls Tryz.prog 49 #[.string a0] w fun e w' => e = .returned (.int .i64 r) ∧ Drawn0 w w' := by
 have H : ((bindleref01_Text.f k a0).bind fun t558 => (if t558 = true then (if a0.toList = ([] : List UInt8) then (some 6) else (if (a0.size : Int) > 200 then (some 6) else (some 0))) else (some 9))) = some r := h
 clear h
 replace H := Option.bind_eq_some_iff.mp H
 obtain ⟨t558, A20, H⟩ := H
 replace H : (if t558 = true then (if a0.toList = ([] : List UInt8) then (some 6) else (if (a0.size : Int) > 200 then (some 6) else (some 0))) else (some 9)) = some r := H
 have A2 := A0_ A20
 clear A20
 by_cases c3 : t558 = true
 rotate_left
 ·replace c3 := Bool.eq_false_iff.mpr c3
  subst c3
  have H1 : (some 9) = some r := by rw [if_neg (show ¬ (false = true) by decide)] at H; exact H
  clear H
  have H := H1
  clear H1
  obtain rfl := Option.some.inj H
  go_enter Tryz.func49, Tryz.ntmps49
  go_wp2_with (first | ((with_reducible refine gate_callee (f := 61) rfl ?_); refine goesL_ (some 4) rfl rfl Tryz.func61 (by kernel_rfl) rfl #[.string a0] rfl wm_ ?_; (with_reducible refine (bindleref01_Text.calls k a0 false _ A2.out).mono ?_); rintro e w' ⟨rfl, ⟨nd, rfl⟩⟩; refine ⟨_, rfl, ?_⟩))
  go_ret
  exact ⟨by first | rfl | (simp; done) | (simp [*]; done), by repeat (first | exact Drawn0.refl _ | apply Drawn0.step)⟩
 subst c3
 have H1 : (if a0.toList = ([] : List UInt8) then (some 6) else (if (a0.size : Int) > 200 then (some 6) else (some 0))) = some r := by rw [if_pos rfl] at H; exact H
 clear H
 have H := H1
 clear H1
 by_cases c4 : a0.toList = ([] : List UInt8)
 ·rw [if_pos c4] at H
  have c4b0 : (a0.toList == ([] : List UInt8)) = true := beq_iff_eq.mpr c4
  have c4b1 : (a0.toList != ([] : List UInt8)) = false := bne_eq_false_iff_eq.mpr c4
  clear c4
  obtain rfl := Option.some.inj H
  go_enter Tryz.func49, Tryz.ntmps49
  go_wp2_with (first | ((with_reducible refine gate_callee (f := 61) rfl ?_); refine goesL_ (some 4) rfl rfl Tryz.func61 (by kernel_rfl) rfl #[.string a0] rfl wm_ ?_; (with_reducible refine (bindleref01_Text.calls k a0 true _ A2.out).mono ?_); rintro e w' ⟨rfl, ⟨nd, rfl⟩⟩; refine ⟨_, rfl, ?_⟩))
  go_ret
  exact ⟨by first | rfl | (simp; done) | (simp [*]; done), by repeat (first | exact Drawn0.refl _ | apply Drawn0.step)⟩
 rw [if_neg c4] at H
 have c4b0 : (a0.toList == ([] : List UInt8)) = false := beq_eq_false_iff_ne.mpr c4
 have c4b1 : (a0.toList != ([] : List UInt8)) = true := bne_iff_ne.mpr c4
 by_cases c5 : (a0.size : Int) > 200
 ·rw [if_pos c5] at H
  have c5b0 : decide (200 < (a0.size : Int)) = true := decide_eq_true c5
  have c5b1 : decide (200 < a0.size) = true := decide_eq_true (by omega)
  clear c5
  obtain rfl := Option.some.inj H
  go_enter Tryz.func49, Tryz.ntmps49
  go_wp2_with (first | ((with_reducible refine gate_callee (f := 61) rfl ?_); refine goesL_ (some 4) rfl rfl Tryz.func61 (by kernel_rfl) rfl #[.string a0] rfl wm_ ?_; (with_reducible refine (bindleref01_Text.calls k a0 true _ A2.out).mono ?_); rintro e w' ⟨rfl, ⟨nd, rfl⟩⟩; refine ⟨_, rfl, ?_⟩))
  go_ret
  exact ⟨by first | rfl | (simp; done) | (simp [*]; done), by repeat (first | exact Drawn0.refl _ | apply Drawn0.step)⟩
 rw [if_neg c5] at H
 have c5b0 : decide (200 < (a0.size : Int)) = false := decide_eq_false c5
 have c5b1 : decide (200 < a0.size) = false := decide_eq_false (by omega)
 clear c5
 obtain rfl := Option.some.inj H
 go_enter Tryz.func49, Tryz.ntmps49
 go_wp2_with (first | ((with_reducible refine gate_callee (f := 61) rfl ?_); refine goesL_ (some 4) rfl rfl Tryz.func61 (by kernel_rfl) rfl #[.string a0] rfl wm_ ?_; (with_reducible refine (bindleref01_Text.calls k a0 true _ A2.out).mono ?_); rintro e w' ⟨rfl, ⟨nd, rfl⟩⟩; refine ⟨_, rfl, ?_⟩))
 go_ret
 exact ⟨by first | rfl | (simp; done) | (simp [*]; done), by repeat (first | exact Drawn0.refl _ | apply Drawn0.step)⟩
end Go.Proofs.YtbngbefchobfnaaGreatDoor.Print

namespace Go.Proofs.YtbngbefchobfnaaGreatDoor.Print
open Go.RowKit Go.Proofs.YtbngbefchobfnaaGreatDoorW.PrintWords Go.Proofs.YtbngbefchobfnaaGreatDoorW.PrintLast Go.Proofs.YtbngbefchobfnaaGreatDoorW.PrintMore
attribute [local go_sem] max2_int min2_int max_two min_two max_three min_three max_four min_four   -- for this text's walks alone
set_option linter.unusedVariables false
set_option linter.unusedSimpArgs false
mutual
def bindleref08_Good.j0 : Nat → Bool → ByteArray → ByteArray → Int → Int → Int → Int → Int → List Int → Option (Bool)
 | 0, _, _, _, _, _, _, _, _, _ => none
 | k + 1, x29, x560000, x560001, x560002, x560003, x560004, x560005, x560006, x560007 => if x29 = true then (some false) else (if x560002 = 48 then (bindleref08_Good.j1 k x560002 (x560002 == 48) x560000 x560001 x560002 x560003 x560004 x560005 x560006 x560007) else (bindleref08_Good.j1 k x560002 (x560002 == 53) x560000 x560001 x560002 x560003 x560004 x560005 x560006 x560007))
def bindleref08_Good.j1 : Nat → Int → Bool → ByteArray → ByteArray → Int → Int → Int → Int → Int → List Int → Option (Bool)
 | 0, _, _, _, _, _, _, _, _, _, _ => none
 | k + 1, x31, x32, x560000, x560001, x560002, x560003, x560004, x560005, x560006, x560007 => if x32 = true then (some (x560001.toList == ([] : List UInt8))) else (if x31 = 49 then ((bindleref08_clean.f k x560001).bind fun t562 => (some t562)) else (if x31 = 50 then ((bindleref08_Target.f k x560001).bind fun t563 => (some (t563 == 0))) else (some false)))
end
def bindleref08_Good.f (k : Nat) (a0_0 : ByteArray) (a0_1 : ByteArray) (a0_2 : Int) (a0_3 : Int) (a0_4 : Int) (a0_5 : Int) (a0_6 : Int) (l0_7 : List Int) : Option (Bool) := (bindleref08_clean.f k a0_0).bind fun t560 => (if t560 = true then ((bindleref08_Meta.f a0_3 a0_4 a0_5 a0_6).bind fun t561 => (if t561 = true then (if (l0_7.length : Int) > 1048576 then (bindleref08_Good.j0 k true a0_0 a0_1 a0_2 a0_3 a0_4 a0_5 a0_6 l0_7) else (if a0_2 = 48 then (bindleref08_Good.j0 k false a0_0 a0_1 a0_2 a0_3 a0_4 a0_5 a0_6 l0_7) else (bindleref08_Good.j0 k (decide ((l0_7.length : Int) > 0)) a0_0 a0_1 a0_2 a0_3 a0_4 a0_5 a0_6 l0_7))) else (bindleref08_Good.j0 k true a0_0 a0_1 a0_2 a0_3 a0_4 a0_5 a0_6 l0_7))) else (bindleref08_Good.j0 k true a0_0 a0_1 a0_2 a0_3 a0_4 a0_5 a0_6 l0_7))
set_option maxHeartbeats 8000000 in
set_option maxRecDepth 100000 in
theorem bindleref08_Good.calls (k : Nat) (a0_0 : ByteArray) (a0_1 : ByteArray) (a0_2 : Int) (a0_3 : Int) (a0_4 : Int) (a0_5 : Int) (a0_6 : Int) (A0_7 : Option Addr) (c0_7 : Nat) (l0_7 : List Int) (r : Bool) (w : World) (hr0_7 : Kd.C (Kd.int .u8) w A0_7 l0_7.length l0_7) (hc0_7 : l0_7.length ≤ c0_7) (h : bindleref08_Good.f k a0_0 a0_1 a0_2 a0_3 a0_4 a0_5 a0_6 l0_7 = some r) :
  Calls Tryz.prog 34 #[.agg #[.string a0_0, .string a0_1, .int .u8 a0_2, .int .i64 a0_3, .int .i64 a0_4, .int .i64 a0_5, .int .i64 a0_6, .slice A0_7 l0_7.length c0_7]] w fun e w' => e = .returned (.bool r) ∧ Below w.heap.size w w' := by
 have hu72 := Tryz.underlying72
 have hu39 := Tryz.underlying39
 have HR0_7 := A0_ hr0_7
 have HC0_7 := A0_ hc0_7
 clear hr0_7 hc0_7
 have HB := A0_ (Below.refl w.heap.size w)
 have H : ((bindleref08_clean.f k a0_0).bind fun t560 => (if t560 = true then ((bindleref08_Meta.f a0_3 a0_4 a0_5 a0_6).bind fun t561 => (if t561 = true then (if (l0_7.length : Int) > 1048576 then (bindleref08_Good.j0 k true a0_0 a0_1 a0_2 a0_3 a0_4 a0_5 a0_6 l0_7) else (if a0_2 = 48 then (bindleref08_Good.j0 k false a0_0 a0_1 a0_2 a0_3 a0_4 a0_5 a0_6 l0_7) else (bindleref08_Good.j0 k (decide ((l0_7.length : Int) > 0)) a0_0 a0_1 a0_2 a0_3 a0_4 a0_5 a0_6 l0_7))) else (bindleref08_Good.j0 k true a0_0 a0_1 a0_2 a0_3 a0_4 a0_5 a0_6 l0_7))) else (bindleref08_Good.j0 k true a0_0 a0_1 a0_2 a0_3 a0_4 a0_5 a0_6 l0_7))) = some r := h
 clear h
 have HC2 := A0_ H
 clear H
 go_enter Tryz.func34, Tryz.ntmps34
 go_upto_region 1 with (first | ((with_reducible refine gate_dst (N := 1) rfl ?_); (try (refine gate_guard (by rfl) ?_; dsimp only)); refine box_event ?hg (N := 1) ?hd (cs := #[.string a0_0, .string a0_1, .int .u8 a0_2, .int .i64 a0_3, .int .i64 a0_4, .int .i64 a0_5, .int .i64 a0_6, .slice A0_7 l0_7.length c0_7]) (t := 72) ?hr ?_; (case hd => rfl); (case hg => rfl); (case hr => first | (go_simp; done) | (go_simp; rfl)); intro gb559 hg w3 hbox hb; have n0_ := A0_ (below_step (wb_ HB.out) hb); have n1_ := A0_ (hbox); have n2_ := A0_ ((by rw [hg]; exact (below_size (wb_ HB.out)) : w.heap.size ≤ gb559)); have n3_ := A0_ ((by rw [hg]; exact (below_size (wb_ HB.out)) : w.heap.size ≤ gb559)); clear HB; have HB := n0_; have BK559 := n1_; have GW559 := n2_; have GE559 := n3_; clear n0_ n1_ n2_ n3_; clear hb hbox hg))
 (try simp only [Act.put, List.setIfInBounds_toArray, List.set_cons_zero, List.set_cons_succ])
 go_cut [29] (fun v29 wc => ∃ (kq : Nat) (x29_1 : Bool), v29 = .bool x29_1 ∧ Aside0 (bindleref08_Good.j0 kq x29_1 a0_0 a0_1 a0_2 a0_3 a0_4 a0_5 a0_6 l0_7 = some r) ∧ Aside0 (kq ≤ k) ∧ Aside0 (wc.heap[gb559]? = some (.cells #[.string a0_0, .string a0_1, .int .u8 a0_2, .int .i64 a0_3, .int .i64 a0_4, .int .i64 a0_5, .int .i64 a0_6, (.slice A0_7 l0_7.length c0_7)] 72 (0, 0))) ∧ Aside0 (Below w.heap.size w wc))
 case first =>
  have H := HC2.out
  clear HC2
  replace H := Option.bind_eq_some_iff.mp H
  obtain ⟨t560, A40, H⟩ := H
  replace H : (if t560 = true then ((bindleref08_Meta.f a0_3 a0_4 a0_5 a0_6).bind fun t561 => (if t561 = true then (if (l0_7.length : Int) > 1048576 then (bindleref08_Good.j0 k true a0_0 a0_1 a0_2 a0_3 a0_4 a0_5 a0_6 l0_7) else (if a0_2 = 48 then (bindleref08_Good.j0 k false a0_0 a0_1 a0_2 a0_3 a0_4 a0_5 a0_6 l0_7) else (bindleref08_Good.j0 k (decide ((l0_7.length : Int) > 0)) a0_0 a0_1 a0_2 a0_3 a0_4 a0_5 a0_6 l0_7))) else (bindleref08_Good.j0 k true a0_0 a0_1 a0_2 a0_3 a0_4 a0_5 a0_6 l0_7))) else (bindleref08_Good.j0 k true a0_0 a0_1 a0_2 a0_3 a0_4 a0_5 a0_6 l0_7)) = some r := H
  have A4 := A0_ A40
  clear A40
  by_cases c5 : t560 = true
  rotate_left
  ·replace c5 := Bool.eq_false_iff.mpr c5
   subst c5
   have H1 : (bindleref08_Good.j0 k true a0_0 a0_1 a0_2 a0_3 a0_4 a0_5 a0_6 l0_7) = some r := by rw [if_neg (show ¬ (false = true) by decide)] at H; exact H
   clear H
   have H := H1
   clear H1
   have H' := A0_ H
   clear H
   have hcz21_0 : w3.cell? ⟨gb559, 0, none⟩ = some (.string a0_0) := (bc_ BK559.out 0).trans rfl
   have hcz21_1 : w3.cell? ⟨gb559, 1, none⟩ = some (.string a0_1) := (bc_ BK559.out 1).trans rfl
   have hcz21_2 : w3.cell? ⟨gb559, 2, none⟩ = some (.int .u8 a0_2) := (bc_ BK559.out 2).trans rfl
   have hcz21_3 : w3.cell? ⟨gb559, 3, none⟩ = some (.int .i64 a0_3) := (bc_ BK559.out 3).trans rfl
   have hcz21_4 : w3.cell? ⟨gb559, 4, none⟩ = some (.int .i64 a0_4) := (bc_ BK559.out 4).trans rfl
   have hcz21_5 : w3.cell? ⟨gb559, 5, none⟩ = some (.int .i64 a0_5) := (bc_ BK559.out 5).trans rfl
   have hcz21_6 : w3.cell? ⟨gb559, 6, none⟩ = some (.int .i64 a0_6) := (bc_ BK559.out 6).trans rfl
   have hcz21_7 : w3.cell? ⟨gb559, 7, none⟩ = some (.slice A0_7 l0_7.length c0_7) := (bc_ BK559.out 7).trans rfl
   have hfz21_0 := bf_ BK559.out 0
   have hfz21_1 := bf_ BK559.out 1
   have hfz21_2 := bf_ BK559.out 2
   have hfz21_3 := bf_ BK559.out 3
   have hfz21_4 := bf_ BK559.out 4
   have hfz21_5 := bf_ BK559.out 5
   have hfz21_6 := bf_ BK559.out 6
   have hfz21_7 := bf_ BK559.out 7
   go_wp2_with (first | ((with_reducible refine gate_callee (f := 47) rfl ?_); refine goesL_ (some 5) rfl rfl Tryz.func47 (by kernel_rfl) rfl #[.string a0_0] rfl wm_ ?_; (with_reducible refine (bindleref08_clean.calls k a0_0 false _ A4.out).mono ?_); rintro e w' ⟨rfl, ⟨nd, rfl⟩⟩; refine ⟨_, rfl, ?_⟩))
   go_meet
   case rel => exact ⟨_, (true), wr_, H', ⟨by first | omega | exact Nat.le_refl _⟩, ⟨wB_ BK559.out⟩, ⟨wb1_ HB.out GE559.out⟩⟩
  subst c5
  have H1 : ((bindleref08_Meta.f a0_3 a0_4 a0_5 a0_6).bind fun t561 => (if t561 = true then (if (l0_7.length : Int) > 1048576 then (bindleref08_Good.j0 k true a0_0 a0_1 a0_2 a0_3 a0_4 a0_5 a0_6 l0_7) else (if a0_2 = 48 then (bindleref08_Good.j0 k false a0_0 a0_1 a0_2 a0_3 a0_4 a0_5 a0_6 l0_7) else (bindleref08_Good.j0 k (decide ((l0_7.length : Int) > 0)) a0_0 a0_1 a0_2 a0_3 a0_4 a0_5 a0_6 l0_7))) else (bindleref08_Good.j0 k true a0_0 a0_1 a0_2 a0_3 a0_4 a0_5 a0_6 l0_7))) = some r := by rw [if_pos rfl] at H; exact H
  clear H
  have H := H1
  clear H1
  replace H := Option.bind_eq_some_iff.mp H
  obtain ⟨t561, A60, H⟩ := H
  replace H : (if t561 = true then (if (l0_7.length : Int) > 1048576 then (bindleref08_Good.j0 k true a0_0 a0_1 a0_2 a0_3 a0_4 a0_5 a0_6 l0_7) else (if a0_2 = 48 then (bindleref08_Good.j0 k false a0_0 a0_1 a0_2 a0_3 a0_4 a0_5 a0_6 l0_7) else (bindleref08_Good.j0 k (decide ((l0_7.length : Int) > 0)) a0_0 a0_1 a0_2 a0_3 a0_4 a0_5 a0_6 l0_7))) else (bindleref08_Good.j0 k true a0_0 a0_1 a0_2 a0_3 a0_4 a0_5 a0_6 l0_7)) = some r := H
  have A6 := A0_ A60
  clear A60
  by_cases c7 : t561 = true
  rotate_left
  ·replace c7 := Bool.eq_false_iff.mpr c7
   subst c7
   have H1 : (bindleref08_Good.j0 k true a0_0 a0_1 a0_2 a0_3 a0_4 a0_5 a0_6 l0_7) = some r := by rw [if_neg (show ¬ (false = true) by decide)] at H; exact H
   clear H
   have H := H1
   clear H1
   have H' := A0_ H
   clear H
   have hcz19_0 : w3.cell? ⟨gb559, 0, none⟩ = some (.string a0_0) := (bc_ BK559.out 0).trans rfl
   have hcz19_1 : w3.cell? ⟨gb559, 1, none⟩ = some (.string a0_1) := (bc_ BK559.out 1).trans rfl
   have hcz19_2 : w3.cell? ⟨gb559, 2, none⟩ = some (.int .u8 a0_2) := (bc_ BK559.out 2).trans rfl
   have hcz19_3 : w3.cell? ⟨gb559, 3, none⟩ = some (.int .i64 a0_3) := (bc_ BK559.out 3).trans rfl
   have hcz19_4 : w3.cell? ⟨gb559, 4, none⟩ = some (.int .i64 a0_4) := (bc_ BK559.out 4).trans rfl
   have hcz19_5 : w3.cell? ⟨gb559, 5, none⟩ = some (.int .i64 a0_5) := (bc_ BK559.out 5).trans rfl
   have hcz19_6 : w3.cell? ⟨gb559, 6, none⟩ = some (.int .i64 a0_6) := (bc_ BK559.out 6).trans rfl
   have hcz19_7 : w3.cell? ⟨gb559, 7, none⟩ = some (.slice A0_7 l0_7.length c0_7) := (bc_ BK559.out 7).trans rfl
   have hfz19_0 := bf_ BK559.out 0
   have hfz19_1 := bf_ BK559.out 1
   have hfz19_2 := bf_ BK559.out 2
   have hfz19_3 := bf_ BK559.out 3
   have hfz19_4 := bf_ BK559.out 4
   have hfz19_5 := bf_ BK559.out 5
   have hfz19_6 := bf_ BK559.out 6
   have hfz19_7 := bf_ BK559.out 7
   go_wp2_with (first | ((with_reducible refine gate_callee (f := 47) rfl ?_); refine goesL_ (some 5) rfl rfl Tryz.func47 (by kernel_rfl) rfl #[.string a0_0] rfl wm_ ?_; (with_reducible refine (bindleref08_clean.calls k a0_0 true _ A4.out).mono ?_); rintro e w' ⟨rfl, ⟨nd, rfl⟩⟩; refine ⟨_, rfl, ?_⟩) | (go_at_call 48; (with_reducible refine (bindleref08_Meta.calls a0_3 a0_4 a0_5 a0_6 false _ A6.out).mono ?_); rintro e w20 ⟨rfl, hb⟩; have n0_ := A0_ (blk_below (g := gb559) (o := .cells #[.string a0_0, .string a0_1, .int .u8 a0_2, .int .i64 a0_3, .int .i64 a0_4, .int .i64 a0_5, .int .i64 a0_6, .slice A0_7 l0_7.length c0_7] 72 (0, 0)) (wB_ BK559.out) hb); have n1_ := A0_ (below_step (wb1_ HB.out GE559.out) hb); clear BK559; clear HB; have BK559 := n0_; have HB := n1_; clear n0_ n1_; (try clear hb); (try clear hb2); (try clear hk); (try clear hi)))
   go_meet
   case rel => exact ⟨_, (true), wr_, H', ⟨by first | omega | exact Nat.le_refl _⟩, ⟨wB_ BK559.out⟩, ⟨wb1_ HB.out GE559.out⟩⟩
  subst c7
  have H1 : (if (l0_7.length : Int) > 1048576 then (bindleref08_Good.j0 k true a0_0 a0_1 a0_2 a0_3 a0_4 a0_5 a0_6 l0_7) else (if a0_2 = 48 then (bindleref08_Good.j0 k false a0_0 a0_1 a0_2 a0_3 a0_4 a0_5 a0_6 l0_7) else (bindleref08_Good.j0 k (decide ((l0_7.length : Int) > 0)) a0_0 a0_1 a0_2 a0_3 a0_4 a0_5 a0_6 l0_7))) = some r := by rw [if_pos rfl] at H; exact H
  clear H
  have H := H1
  clear H1
  by_cases c8 : (l0_7.length : Int) > 1048576
  ·rw [if_pos c8] at H
   have c8b0 : decide (1048576 < (l0_7.length : Int)) = true := decide_eq_true c8
   have c8b1 : decide (1048576 < l0_7.length) = true := decide_eq_true (by omega)
   clear c8
   (first | rw [c8b0] | (simp only [i64_w, i32_w]; rw [c8b0]) | skip)
   have H' := A0_ H
   clear H
   have hcz9_0 : w3.cell? ⟨gb559, 0, none⟩ = some (.string a0_0) := (bc_ BK559.out 0).trans rfl
   have hcz9_1 : w3.cell? ⟨gb559, 1, none⟩ = some (.string a0_1) := (bc_ BK559.out 1).trans rfl
   have hcz9_2 : w3.cell? ⟨gb559, 2, none⟩ = some (.int .u8 a0_2) := (bc_ BK559.out 2).trans rfl
   have hcz9_3 : w3.cell? ⟨gb559, 3, none⟩ = some (.int .i64 a0_3) := (bc_ BK559.out 3).trans rfl
   have hcz9_4 : w3.cell? ⟨gb559, 4, none⟩ = some (.int .i64 a0_4) := (bc_ BK559.out 4).trans rfl
   have hcz9_5 : w3.cell? ⟨gb559, 5, none⟩ = some (.int .i64 a0_5) := (bc_ BK559.out 5).trans rfl
   have hcz9_6 : w3.cell? ⟨gb559, 6, none⟩ = some (.int .i64 a0_6) := (bc_ BK559.out 6).trans rfl
   have hcz9_7 : w3.cell? ⟨gb559, 7, none⟩ = some (.slice A0_7 l0_7.length c0_7) := (bc_ BK559.out 7).trans rfl
   have hfz9_0 := bf_ BK559.out 0
   have hfz9_1 := bf_ BK559.out 1
   have hfz9_2 := bf_ BK559.out 2
   have hfz9_3 := bf_ BK559.out 3
   have hfz9_4 := bf_ BK559.out 4
   have hfz9_5 := bf_ BK559.out 5
   have hfz9_6 := bf_ BK559.out 6
   have hfz9_7 := bf_ BK559.out 7
   go_wp2_with (first | ((with_reducible refine gate_callee (f := 47) rfl ?_); refine goesL_ (some 5) rfl rfl Tryz.func47 (by kernel_rfl) rfl #[.string a0_0] rfl wm_ ?_; (with_reducible refine (bindleref08_clean.calls k a0_0 true _ A4.out).mono ?_); rintro e w' ⟨rfl, ⟨nd, rfl⟩⟩; refine ⟨_, rfl, ?_⟩) | (go_at_call 48; (with_reducible refine (bindleref08_Meta.calls a0_3 a0_4 a0_5 a0_6 true _ A6.out).mono ?_); rintro e w10 ⟨rfl, hb⟩; have n0_ := A0_ (blk_below (g := gb559) (o := .cells #[.string a0_0, .string a0_1, .int .u8 a0_2, .int .i64 a0_3, .int .i64 a0_4, .int .i64 a0_5, .int .i64 a0_6, .slice A0_7 l0_7.length c0_7] 72 (0, 0)) (wB_ BK559.out) hb); have n1_ := A0_ (below_step (wb1_ HB.out GE559.out) hb); clear BK559; clear HB; have BK559 := n0_; have HB := n1_; clear n0_ n1_; (try clear hb); (try clear hb2); (try clear hk); (try clear hi); have hcz11_0 : w10.cell? ⟨gb559, 0, none⟩ = some (.string a0_0) := (bc_ BK559.out 0).trans rfl; have hcz11_1 : w10.cell? ⟨gb559, 1, none⟩ = some (.string a0_1) := (bc_ BK559.out 1).trans rfl; have hcz11_2 : w10.cell? ⟨gb559, 2, none⟩ = some (.int .u8 a0_2) := (bc_ BK559.out 2).trans rfl; have hcz11_3 : w10.cell? ⟨gb559, 3, none⟩ = some (.int .i64 a0_3) := (bc_ BK559.out 3).trans rfl; have hcz11_4 : w10.cell? ⟨gb559, 4, none⟩ = some (.int .i64 a0_4) := (bc_ BK559.out 4).trans rfl; have hcz11_5 : w10.cell? ⟨gb559, 5, none⟩ = some (.int .i64 a0_5) := (bc_ BK559.out 5).trans rfl; have hcz11_6 : w10.cell? ⟨gb559, 6, none⟩ = some (.int .i64 a0_6) := (bc_ BK559.out 6).trans rfl; have hcz11_7 : w10.cell? ⟨gb559, 7, none⟩ = some (.slice A0_7 l0_7.length c0_7) := (bc_ BK559.out 7).trans rfl; have hfz11_0 := bf_ BK559.out 0; have hfz11_1 := bf_ BK559.out 1; have hfz11_2 := bf_ BK559.out 2; have hfz11_3 := bf_ BK559.out 3; have hfz11_4 := bf_ BK559.out 4; have hfz11_5 := bf_ BK559.out 5; have hfz11_6 := bf_ BK559.out 6; have hfz11_7 := bf_ BK559.out 7))
   go_meet
   case rel => exact ⟨_, (true), wr_, H', ⟨by first | omega | exact Nat.le_refl _⟩, ⟨wB_ BK559.out⟩, ⟨wb1_ HB.out GE559.out⟩⟩
  rw [if_neg c8] at H
  have c8b0 : decide (1048576 < (l0_7.length : Int)) = false := decide_eq_false c8
  have c8b1 : decide (1048576 < l0_7.length) = false := decide_eq_false (by omega)
  clear c8
  (first | rw [c8b0] | (simp only [i64_w, i32_w]; rw [c8b0]) | skip)
  by_cases c12 : a0_2 = 48
  ·rw [if_pos c12] at H
   have c12b0 : (a0_2 == 48) = true := beq_iff_eq.mpr c12
   have c12b1 : (a0_2 != 48) = false := bne_eq_false_iff_eq.mpr c12
   clear c12
   have H' := A0_ H
   clear H
   have hcz13_0 : w3.cell? ⟨gb559, 0, none⟩ = some (.string a0_0) := (bc_ BK559.out 0).trans rfl
   have hcz13_1 : w3.cell? ⟨gb559, 1, none⟩ = some (.string a0_1) := (bc_ BK559.out 1).trans rfl
   have hcz13_2 : w3.cell? ⟨gb559, 2, none⟩ = some (.int .u8 a0_2) := (bc_ BK559.out 2).trans rfl
   have hcz13_3 : w3.cell? ⟨gb559, 3, none⟩ = some (.int .i64 a0_3) := (bc_ BK559.out 3).trans rfl
   have hcz13_4 : w3.cell? ⟨gb559, 4, none⟩ = some (.int .i64 a0_4) := (bc_ BK559.out 4).trans rfl
   have hcz13_5 : w3.cell? ⟨gb559, 5, none⟩ = some (.int .i64 a0_5) := (bc_ BK559.out 5).trans rfl
   have hcz13_6 : w3.cell? ⟨gb559, 6, none⟩ = some (.int .i64 a0_6) := (bc_ BK559.out 6).trans rfl
   have hcz13_7 : w3.cell? ⟨gb559, 7, none⟩ = some (.slice A0_7 l0_7.length c0_7) := (bc_ BK559.out 7).trans rfl
   have hfz13_0 := bf_ BK559.out 0
   have hfz13_1 := bf_ BK559.out 1
   have hfz13_2 := bf_ BK559.out 2
   have hfz13_3 := bf_ BK559.out 3
   have hfz13_4 := bf_ BK559.out 4
   have hfz13_5 := bf_ BK559.out 5
   have hfz13_6 := bf_ BK559.out 6
   have hfz13_7 := bf_ BK559.out 7
   go_wp2_with (first | ((with_reducible refine gate_callee (f := 47) rfl ?_); refine goesL_ (some 5) rfl rfl Tryz.func47 (by kernel_rfl) rfl #[.string a0_0] rfl wm_ ?_; (with_reducible refine (bindleref08_clean.calls k a0_0 true _ A4.out).mono ?_); rintro e w' ⟨rfl, ⟨nd, rfl⟩⟩; refine ⟨_, rfl, ?_⟩) | (go_at_call 48; (with_reducible refine (bindleref08_Meta.calls a0_3 a0_4 a0_5 a0_6 true _ A6.out).mono ?_); rintro e w14 ⟨rfl, hb⟩; have n0_ := A0_ (blk_below (g := gb559) (o := .cells #[.string a0_0, .string a0_1, .int .u8 a0_2, .int .i64 a0_3, .int .i64 a0_4, .int .i64 a0_5, .int .i64 a0_6, .slice A0_7 l0_7.length c0_7] 72 (0, 0)) (wB_ BK559.out) hb); have n1_ := A0_ (below_step (wb1_ HB.out GE559.out) hb); clear BK559; clear HB; have BK559 := n0_; have HB := n1_; clear n0_ n1_; (try clear hb); (try clear hb2); (try clear hk); (try clear hi); have hcz15_0 : w14.cell? ⟨gb559, 0, none⟩ = some (.string a0_0) := (bc_ BK559.out 0).trans rfl; have hcz15_1 : w14.cell? ⟨gb559, 1, none⟩ = some (.string a0_1) := (bc_ BK559.out 1).trans rfl; have hcz15_2 : w14.cell? ⟨gb559, 2, none⟩ = some (.int .u8 a0_2) := (bc_ BK559.out 2).trans rfl; have hcz15_3 : w14.cell? ⟨gb559, 3, none⟩ = some (.int .i64 a0_3) := (bc_ BK559.out 3).trans rfl; have hcz15_4 : w14.cell? ⟨gb559, 4, none⟩ = some (.int .i64 a0_4) := (bc_ BK559.out 4).trans rfl; have hcz15_5 : w14.cell? ⟨gb559, 5, none⟩ = some (.int .i64 a0_5) := (bc_ BK559.out 5).trans rfl; have hcz15_6 : w14.cell? ⟨gb559, 6, none⟩ = some (.int .i64 a0_6) := (bc_ BK559.out 6).trans rfl; have hcz15_7 : w14.cell? ⟨gb559, 7, none⟩ = some (.slice A0_7 l0_7.length c0_7) := (bc_ BK559.out 7).trans rfl; have hfz15_0 := bf_ BK559.out 0; have hfz15_1 := bf_ BK559.out 1; have hfz15_2 := bf_ BK559.out 2; have hfz15_3 := bf_ BK559.out 3; have hfz15_4 := bf_ BK559.out 4; have hfz15_5 := bf_ BK559.out 5; have hfz15_6 := bf_ BK559.out 6; have hfz15_7 := bf_ BK559.out 7))
   go_meet
   case rel => exact ⟨_, (false), wr_, H', ⟨by first | omega | exact Nat.le_refl _⟩, ⟨wB_ BK559.out⟩, ⟨wb1_ HB.out GE559.out⟩⟩
  rw [if_neg c12] at H
  have c12b0 : (a0_2 == 48) = false := beq_eq_false_iff_ne.mpr c12
  have c12b1 : (a0_2 != 48) = true := bne_iff_ne.mpr c12
  have H' := A0_ H
  clear H
  have hcz16_0 : w3.cell? ⟨gb559, 0, none⟩ = some (.string a0_0) := (bc_ BK559.out 0).trans rfl
  have hcz16_1 : w3.cell? ⟨gb559, 1, none⟩ = some (.string a0_1) := (bc_ BK559.out 1).trans rfl
  have hcz16_2 : w3.cell? ⟨gb559, 2, none⟩ = some (.int .u8 a0_2) := (bc_ BK559.out 2).trans rfl
  have hcz16_3 : w3.cell? ⟨gb559, 3, none⟩ = some (.int .i64 a0_3) := (bc_ BK559.out 3).trans rfl
  have hcz16_4 : w3.cell? ⟨gb559, 4, none⟩ = some (.int .i64 a0_4) := (bc_ BK559.out 4).trans rfl
  have hcz16_5 : w3.cell? ⟨gb559, 5, none⟩ = some (.int .i64 a0_5) := (bc_ BK559.out 5).trans rfl
  have hcz16_6 : w3.cell? ⟨gb559, 6, none⟩ = some (.int .i64 a0_6) := (bc_ BK559.out 6).trans rfl
  have hcz16_7 : w3.cell? ⟨gb559, 7, none⟩ = some (.slice A0_7 l0_7.length c0_7) := (bc_ BK559.out 7).trans rfl
  have hfz16_0 := bf_ BK559.out 0
  have hfz16_1 := bf_ BK559.out 1
  have hfz16_2 := bf_ BK559.out 2
  have hfz16_3 := bf_ BK559.out 3
  have hfz16_4 := bf_ BK559.out 4
  have hfz16_5 := bf_ BK559.out 5
  have hfz16_6 := bf_ BK559.out 6
  have hfz16_7 := bf_ BK559.out 7
  go_wp2_with (first | ((with_reducible refine gate_callee (f := 47) rfl ?_); refine goesL_ (some 5) rfl rfl Tryz.func47 (by kernel_rfl) rfl #[.string a0_0] rfl wm_ ?_; (with_reducible refine (bindleref08_clean.calls k a0_0 true _ A4.out).mono ?_); rintro e w' ⟨rfl, ⟨nd, rfl⟩⟩; refine ⟨_, rfl, ?_⟩) | (go_at_call 48; (with_reducible refine (bindleref08_Meta.calls a0_3 a0_4 a0_5 a0_6 true _ A6.out).mono ?_); rintro e w17 ⟨rfl, hb⟩; have n0_ := A0_ (blk_below (g := gb559) (o := .cells #[.string a0_0, .string a0_1, .int .u8 a0_2, .int .i64 a0_3, .int .i64 a0_4, .int .i64 a0_5, .int .i64 a0_6, .slice A0_7 l0_7.length c0_7] 72 (0, 0)) (wB_ BK559.out) hb); have n1_ := A0_ (below_step (wb1_ HB.out GE559.out) hb); clear BK559; clear HB; have BK559 := n0_; have HB := n1_; clear n0_ n1_; (try clear hb); (try clear hb2); (try clear hk); (try clear hi); have hcz18_0 : w17.cell? ⟨gb559, 0, none⟩ = some (.string a0_0) := (bc_ BK559.out 0).trans rfl; have hcz18_1 : w17.cell? ⟨gb559, 1, none⟩ = some (.string a0_1) := (bc_ BK559.out 1).trans rfl; have hcz18_2 : w17.cell? ⟨gb559, 2, none⟩ = some (.int .u8 a0_2) := (bc_ BK559.out 2).trans rfl; have hcz18_3 : w17.cell? ⟨gb559, 3, none⟩ = some (.int .i64 a0_3) := (bc_ BK559.out 3).trans rfl; have hcz18_4 : w17.cell? ⟨gb559, 4, none⟩ = some (.int .i64 a0_4) := (bc_ BK559.out 4).trans rfl; have hcz18_5 : w17.cell? ⟨gb559, 5, none⟩ = some (.int .i64 a0_5) := (bc_ BK559.out 5).trans rfl; have hcz18_6 : w17.cell? ⟨gb559, 6, none⟩ = some (.int .i64 a0_6) := (bc_ BK559.out 6).trans rfl; have hcz18_7 : w17.cell? ⟨gb559, 7, none⟩ = some (.slice A0_7 l0_7.length c0_7) := (bc_ BK559.out 7).trans rfl; have hfz18_0 := bf_ BK559.out 0; have hfz18_1 := bf_ BK559.out 1; have hfz18_2 := bf_ BK559.out 2; have hfz18_3 := bf_ BK559.out 3; have hfz18_4 := bf_ BK559.out 4; have hfz18_5 := bf_ BK559.out 5; have hfz18_6 := bf_ BK559.out 6; have hfz18_7 := bf_ BK559.out 7))
  go_meet
  case rel => exact ⟨_, (decide ((l0_7.length : Int) > 0)), wr_, H', ⟨by first | omega | exact Nat.le_refl _⟩, ⟨wB_ BK559.out⟩, ⟨wb1_ HB.out GE559.out⟩⟩
 case rest =>
  clear HC2
  try clear c1
  try clear p2
  try clear c3
  try clear c4
  try clear c5
  try clear c7
  try clear c8
  try clear c8b0
  try clear c8b1
  try clear c12
  try clear c12b0
  try clear c12b1
  try clear hcz11_0
  try clear hcz11_1
  try clear hcz11_2
  try clear hcz11_3
  try clear hcz11_4
  try clear hcz11_5
  try clear hcz11_6
  try clear hcz11_7
  try clear hcz13_0
  try clear hcz13_1
  try clear hcz13_2
  try clear hcz13_3
  try clear hcz13_4
  try clear hcz13_5
  try clear hcz13_6
  try clear hcz13_7
  try clear hcz15_0
  try clear hcz15_1
  try clear hcz15_2
  try clear hcz15_3
  try clear hcz15_4
  try clear hcz15_5
  try clear hcz15_6
  try clear hcz15_7
  try clear hcz16_0
  try clear hcz16_1
  try clear hcz16_2
  try clear hcz16_3
  try clear hcz16_4
  try clear hcz16_5
  try clear hcz16_6
  try clear hcz16_7
  try clear hcz18_0
  try clear hcz18_1
  try clear hcz18_2
  try clear hcz18_3
  try clear hcz18_4
  try clear hcz18_5
  try clear hcz18_6
  try clear hcz18_7
  try clear hcz19_0
  try clear hcz19_1
  try clear hcz19_2
  try clear hcz19_3
  try clear hcz19_4
  try clear hcz19_5
  try clear hcz19_6
  try clear hcz19_7
  try clear hcz21_0
  try clear hcz21_1
  try clear hcz21_2
  try clear hcz21_3
  try clear hcz21_4
  try clear hcz21_5
  try clear hcz21_6
  try clear hcz21_7
  try clear hcz9_0
  try clear hcz9_1
  try clear hcz9_2
  try clear hcz9_3
  try clear hcz9_4
  try clear hcz9_5
  try clear hcz9_6
  try clear hcz9_7
  try clear hfz11_0
  try clear hfz11_1
  try clear hfz11_2
  try clear hfz11_3
  try clear hfz11_4
  try clear hfz11_5
  try clear hfz11_6
  try clear hfz11_7
  try clear hfz13_0
  try clear hfz13_1
  try clear hfz13_2
  try clear hfz13_3
  try clear hfz13_4
  try clear hfz13_5
  try clear hfz13_6
  try clear hfz13_7
  try clear hfz15_0
  try clear hfz15_1
  try clear hfz15_2
  try clear hfz15_3
  try clear hfz15_4
  try clear hfz15_5
  try clear hfz15_6
  try clear hfz15_7
  try clear hfz16_0
  try clear hfz16_1
  try clear hfz16_2
  try clear hfz16_3
  try clear hfz16_4
  try clear hfz16_5
  try clear hfz16_6
  try clear hfz16_7
  try clear hfz18_0
  try clear hfz18_1
  try clear hfz18_2
  try clear hfz18_3
  try clear hfz18_4
  try clear hfz18_5
  try clear hfz18_6
  try clear hfz18_7
  try clear hfz19_0
  try clear hfz19_1
  try clear hfz19_2
  try clear hfz19_3
  try clear hfz19_4
  try clear hfz19_5
  try clear hfz19_6
  try clear hfz19_7
  try clear hfz21_0
  try clear hfz21_1
  try clear hfz21_2
  try clear hfz21_3
  try clear hfz21_4
  try clear hfz21_5
  try clear hfz21_6
  try clear hfz21_7
  try clear hfz9_0
  try clear hfz9_1
  try clear hfz9_2
  try clear hfz9_3
  try clear hfz9_4
  try clear hfz9_5
  try clear hfz9_6
  try clear hfz9_7
  obtain ⟨kq, x29_1, rfl, HA, HJ1, BK559, HB⟩ := hcut
  cases kq with
  | zero => exact absurd HA.out (by simp [bindleref08_Good.j0])
  | succ kj1 =>
   have H := HA.out
   clear HA
   simp only [bindleref08_Good.j0] at H
   by_cases c22 : x29_1 = true
   ·subst c22
    have H1 : (some false) = some r := by rw [if_pos rfl] at H; exact H
    clear H
    have H := H1
    clear H1
    obtain rfl := Option.some.inj H
    go_wp2
    go_ret
    exact ⟨we_, wb1_ HB.out GE559.out⟩
   replace c22 := Bool.eq_false_iff.mpr c22
   subst c22
   have H1 : (if a0_2 = 48 then (bindleref08_Good.j1 kj1 a0_2 (a0_2 == 48) a0_0 a0_1 a0_2 a0_3 a0_4 a0_5 a0_6 l0_7) else (bindleref08_Good.j1 kj1 a0_2 (a0_2 == 53) a0_0 a0_1 a0_2 a0_3 a0_4 a0_5 a0_6 l0_7)) = some r := by rw [if_neg (show ¬ (false = true) by decide)] at H; exact H
   clear H
   have H := H1
   clear H1
   have HC23 := A0_ H
   clear H
   have hcz24_0 : wc.cell? ⟨gb559, 0, none⟩ = some (.string a0_0) := (bc_ BK559.out 0).trans rfl
   have hcz24_1 : wc.cell? ⟨gb559, 1, none⟩ = some (.string a0_1) := (bc_ BK559.out 1).trans rfl
   have hcz24_2 : wc.cell? ⟨gb559, 2, none⟩ = some (.int .u8 a0_2) := (bc_ BK559.out 2).trans rfl
   have hcz24_3 : wc.cell? ⟨gb559, 3, none⟩ = some (.int .i64 a0_3) := (bc_ BK559.out 3).trans rfl
   have hcz24_4 : wc.cell? ⟨gb559, 4, none⟩ = some (.int .i64 a0_4) := (bc_ BK559.out 4).trans rfl
   have hcz24_5 : wc.cell? ⟨gb559, 5, none⟩ = some (.int .i64 a0_5) := (bc_ BK559.out 5).trans rfl
   have hcz24_6 : wc.cell? ⟨gb559, 6, none⟩ = some (.int .i64 a0_6) := (bc_ BK559.out 6).trans rfl
   have hcz24_7 : wc.cell? ⟨gb559, 7, none⟩ = some (.slice A0_7 l0_7.length c0_7) := (bc_ BK559.out 7).trans rfl
   have hfz24_0 := bf_ BK559.out 0
   have hfz24_1 := bf_ BK559.out 1
   have hfz24_2 := bf_ BK559.out 2
   have hfz24_3 := bf_ BK559.out 3
   have hfz24_4 := bf_ BK559.out 4
   have hfz24_5 := bf_ BK559.out 5
   have hfz24_6 := bf_ BK559.out 6
   have hfz24_7 := bf_ BK559.out 7
   go_upto_if 32 with (fail)
   go_cut [32] (fun v32 wc => ∃ (kq : Nat) (x32_22 : Bool), v32 = .bool x32_22 ∧ Aside0 (bindleref08_Good.j1 kq a0_2 x32_22 a0_0 a0_1 a0_2 a0_3 a0_4 a0_5 a0_6 l0_7 = some r) ∧ Aside0 (kq ≤ kj1) ∧ Aside0 (wc.heap[gb559]? = some (.cells #[.string a0_0, .string a0_1, .int .u8 a0_2, .int .i64 a0_3, .int .i64 a0_4, .int .i64 a0_5, .int .i64 a0_6, (.slice A0_7 l0_7.length c0_7)] 72 (0, 0))) ∧ Aside0 (Below w.heap.size w wc))
   case first =>
    have H := HC23.out
    clear HC23
    by_cases c25 : a0_2 = 48
    rotate_left
    ·rw [if_neg c25] at H
     have c25b0 : (a0_2 == 48) = false := beq_eq_false_iff_ne.mpr c25
     have c25b1 : (a0_2 != 48) = true := bne_iff_ne.mpr c25
     (first | rw [c25b0] | (simp only [i64_w, i32_w]; rw [c25b0]) | skip)
     have H' := A0_ H
     clear H
     go_wp2
     go_meet
     case rel => exact ⟨_, ((a0_2 == 53)), wr_, H', ⟨by have := HJ1.out; first | omega | exact Nat.le_refl _⟩, ⟨wB_ BK559.out⟩, ⟨wb1_ HB.out GE559.out⟩⟩
    rw [if_pos c25] at H
    have c25b0 : (a0_2 == 48) = true := beq_iff_eq.mpr c25
    have c25b1 : (a0_2 != 48) = false := bne_eq_false_iff_eq.mpr c25
    clear c25
    (first | rw [c25b0] | (simp only [i64_w, i32_w]; rw [c25b0]) | skip)
    have H' := A0_ H
    clear H
    go_wp2
    go_meet
    case rel => exact ⟨_, ((a0_2 == 48)), wr_, H', ⟨by have := HJ1.out; first | omega | exact Nat.le_refl _⟩, ⟨wB_ BK559.out⟩, ⟨wb1_ HB.out GE559.out⟩⟩
   case rest =>
    clear HC23
    try clear c1
    try clear c2
    try clear p2
    try clear c3
    try clear c4
    try clear c5
    try clear c7
    try clear c8
    try clear c8b0
    try clear c8b1
    try clear c12
    try clear c12b0
    try clear c12b1
    try clear c22
    try clear c25
    try clear c25b0
    try clear c25b1
    try clear hcz11_0
    try clear hcz11_1
    try clear hcz11_2
    try clear hcz11_3
    try clear hcz11_4
    try clear hcz11_5
    try clear hcz11_6
    try clear hcz11_7
    try clear hcz13_0
    try clear hcz13_1
    try clear hcz13_2
    try clear hcz13_3
    try clear hcz13_4
    try clear hcz13_5
    try clear hcz13_6
    try clear hcz13_7
    try clear hcz15_0
    try clear hcz15_1
    try clear hcz15_2
    try clear hcz15_3
    try clear hcz15_4
    try clear hcz15_5
    try clear hcz15_6
    try clear hcz15_7
    try clear hcz16_0
    try clear hcz16_1
    try clear hcz16_2
    try clear hcz16_3
    try clear hcz16_4
    try clear hcz16_5
    try clear hcz16_6
    try clear hcz16_7
    try clear hcz18_0
    try clear hcz18_1
    try clear hcz18_2
    try clear hcz18_3
    try clear hcz18_4
    try clear hcz18_5
    try clear hcz18_6
    try clear hcz18_7
    try clear hcz19_0
    try clear hcz19_1
    try clear hcz19_2
    try clear hcz19_3
    try clear hcz19_4
    try clear hcz19_5
    try clear hcz19_6
    try clear hcz19_7
    try clear hcz21_0
    try clear hcz21_1
    try clear hcz21_2
    try clear hcz21_3
    try clear hcz21_4
    try clear hcz21_5
    try clear hcz21_6
    try clear hcz21_7
    try clear hcz24_0
    try clear hcz24_1
    try clear hcz24_2
    try clear hcz24_3
    try clear hcz24_4
    try clear hcz24_5
    try clear hcz24_6
    try clear hcz24_7
    try clear hcz9_0
    try clear hcz9_1
    try clear hcz9_2
    try clear hcz9_3
    try clear hcz9_4
    try clear hcz9_5
    try clear hcz9_6
    try clear hcz9_7
    try clear hfz11_0
    try clear hfz11_1
    try clear hfz11_2
    try clear hfz11_3
    try clear hfz11_4
    try clear hfz11_5
    try clear hfz11_6
    try clear hfz11_7
    try clear hfz13_0
    try clear hfz13_1
    try clear hfz13_2
    try clear hfz13_3
    try clear hfz13_4
    try clear hfz13_5
    try clear hfz13_6
    try clear hfz13_7
    try clear hfz15_0
    try clear hfz15_1
    try clear hfz15_2
    try clear hfz15_3
    try clear hfz15_4
    try clear hfz15_5
    try clear hfz15_6
    try clear hfz15_7
    try clear hfz16_0
    try clear hfz16_1
    try clear hfz16_2
    try clear hfz16_3
    try clear hfz16_4
    try clear hfz16_5
    try clear hfz16_6
    try clear hfz16_7
    try clear hfz18_0
    try clear hfz18_1
    try clear hfz18_2
    try clear hfz18_3
    try clear hfz18_4
    try clear hfz18_5
    try clear hfz18_6
    try clear hfz18_7
    try clear hfz19_0
    try clear hfz19_1
    try clear hfz19_2
    try clear hfz19_3
    try clear hfz19_4
    try clear hfz19_5
    try clear hfz19_6
    try clear hfz19_7
    try clear hfz21_0
    try clear hfz21_1
    try clear hfz21_2
    try clear hfz21_3
    try clear hfz21_4
    try clear hfz21_5
    try clear hfz21_6
    try clear hfz21_7
    try clear hfz24_0
    try clear hfz24_1
    try clear hfz24_2
    try clear hfz24_3
    try clear hfz24_4
    try clear hfz24_5
    try clear hfz24_6
    try clear hfz24_7
    try clear hfz9_0
    try clear hfz9_1
    try clear hfz9_2
    try clear hfz9_3
    try clear hfz9_4
    try clear hfz9_5
    try clear hfz9_6
    try clear hfz9_7
    try clear p2
    obtain ⟨kq, x32_22, rfl, HA, HJ22, BK559, HB⟩ := hcut
    cases kq with
    | zero => exact absurd HA.out (by simp [bindleref08_Good.j1])
    | succ kj22 =>
     have H := HA.out
     clear HA
     simp only [bindleref08_Good.j1] at H
     by_cases c26 : x32_22 = true
     ·subst c26
      have H1 : (some (a0_1.toList == ([] : List UInt8))) = some r := by rw [if_pos rfl] at H; exact H
      clear H
      have H := H1
      clear H1
      obtain rfl := Option.some.inj H
      have hcz27_0 : wc.cell? ⟨gb559, 0, none⟩ = some (.string a0_0) := (bc_ BK559.out 0).trans rfl
      have hcz27_1 : wc.cell? ⟨gb559, 1, none⟩ = some (.string a0_1) := (bc_ BK559.out 1).trans rfl
      have hcz27_2 : wc.cell? ⟨gb559, 2, none⟩ = some (.int .u8 a0_2) := (bc_ BK559.out 2).trans rfl
      have hcz27_3 : wc.cell? ⟨gb559, 3, none⟩ = some (.int .i64 a0_3) := (bc_ BK559.out 3).trans rfl
      have hcz27_4 : wc.cell? ⟨gb559, 4, none⟩ = some (.int .i64 a0_4) := (bc_ BK559.out 4).trans rfl
      have hcz27_5 : wc.cell? ⟨gb559, 5, none⟩ = some (.int .i64 a0_5) := (bc_ BK559.out 5).trans rfl
      have hcz27_6 : wc.cell? ⟨gb559, 6, none⟩ = some (.int .i64 a0_6) := (bc_ BK559.out 6).trans rfl
      have hcz27_7 : wc.cell? ⟨gb559, 7, none⟩ = some (.slice A0_7 l0_7.length c0_7) := (bc_ BK559.out 7).trans rfl
      have hfz27_0 := bf_ BK559.out 0
      have hfz27_1 := bf_ BK559.out 1
      have hfz27_2 := bf_ BK559.out 2
      have hfz27_3 := bf_ BK559.out 3
      have hfz27_4 := bf_ BK559.out 4
      have hfz27_5 := bf_ BK559.out 5
      have hfz27_6 := bf_ BK559.out 6
      have hfz27_7 := bf_ BK559.out 7
      go_wp2
      go_ret
      exact ⟨we_, wb1_ HB.out GE559.out⟩
     replace c26 := Bool.eq_false_iff.mpr c26
     subst c26
     have H1 : (if a0_2 = 49 then ((bindleref08_clean.f kj22 a0_1).bind fun t562 => (some t562)) else (if a0_2 = 50 then ((bindleref08_Target.f kj22 a0_1).bind fun t563 => (some (t563 == 0))) else (some false))) = some r := by rw [if_neg (show ¬ (false = true) by decide)] at H; exact H
     clear H
     have H := H1
     clear H1
     by_cases c28 : a0_2 = 49
     ·rw [if_pos c28] at H
      have c28b0 : (a0_2 == 49) = true := beq_iff_eq.mpr c28
      have c28b1 : (a0_2 != 49) = false := bne_eq_false_iff_eq.mpr c28
      clear c28
      replace H := Option.bind_eq_some_iff.mp H
      obtain ⟨t562, A290, H⟩ := H
      replace H : (some t562) = some r := H
      have A29 := A0_ A290
      clear A290
      obtain rfl := Option.some.inj H
      have hcz30_0 : wc.cell? ⟨gb559, 0, none⟩ = some (.string a0_0) := (bc_ BK559.out 0).trans rfl
      have hcz30_1 : wc.cell? ⟨gb559, 1, none⟩ = some (.string a0_1) := (bc_ BK559.out 1).trans rfl
      have hcz30_2 : wc.cell? ⟨gb559, 2, none⟩ = some (.int .u8 a0_2) := (bc_ BK559.out 2).trans rfl
      have hcz30_3 : wc.cell? ⟨gb559, 3, none⟩ = some (.int .i64 a0_3) := (bc_ BK559.out 3).trans rfl
      have hcz30_4 : wc.cell? ⟨gb559, 4, none⟩ = some (.int .i64 a0_4) := (bc_ BK559.out 4).trans rfl
      have hcz30_5 : wc.cell? ⟨gb559, 5, none⟩ = some (.int .i64 a0_5) := (bc_ BK559.out 5).trans rfl
      have hcz30_6 : wc.cell? ⟨gb559, 6, none⟩ = some (.int .i64 a0_6) := (bc_ BK559.out 6).trans rfl
      have hcz30_7 : wc.cell? ⟨gb559, 7, none⟩ = some (.slice A0_7 l0_7.length c0_7) := (bc_ BK559.out 7).trans rfl
      have hfz30_0 := bf_ BK559.out 0
      have hfz30_1 := bf_ BK559.out 1
      have hfz30_2 := bf_ BK559.out 2
      have hfz30_3 := bf_ BK559.out 3
      have hfz30_4 := bf_ BK559.out 4
      have hfz30_5 := bf_ BK559.out 5
      have hfz30_6 := bf_ BK559.out 6
      have hfz30_7 := bf_ BK559.out 7
      go_wp2_with (first | ((with_reducible refine gate_callee (f := 47) rfl ?_); refine goesL_ (some 42) rfl rfl Tryz.func47 (by kernel_rfl) rfl #[.string a0_1] rfl wm_ ?_; (with_reducible refine (bindleref08_clean.calls kj22 a0_1 t562 _ A29.out).mono ?_); rintro e w' ⟨rfl, ⟨nd, rfl⟩⟩; refine ⟨_, rfl, ?_⟩))
      go_ret
      exact ⟨we_, wb1_ HB.out GE559.out⟩
     rw [if_neg c28] at H
     have c28b0 : (a0_2 == 49) = false := beq_eq_false_iff_ne.mpr c28
     have c28b1 : (a0_2 != 49) = true := bne_iff_ne.mpr c28
     by_cases c31 : a0_2 = 50
     rotate_left
     ·rw [if_neg c31] at H
      have c31b0 : (a0_2 == 50) = false := beq_eq_false_iff_ne.mpr c31
      have c31b1 : (a0_2 != 50) = true := bne_iff_ne.mpr c31
      obtain rfl := Option.some.inj H
      go_wp2
      go_ret
      exact ⟨we_, wb1_ HB.out GE559.out⟩
     rw [if_pos c31] at H
     have c31b0 : (a0_2 == 50) = true := beq_iff_eq.mpr c31
     have c31b1 : (a0_2 != 50) = false := bne_eq_false_iff_eq.mpr c31
     clear c31
     replace H := Option.bind_eq_some_iff.mp H
     obtain ⟨t563, A320, H⟩ := H
     replace H : (some (t563 == 0)) = some r := H
     have A32 := A0_ A320
     clear A320
     obtain rfl := Option.some.inj H
     have hcz33_0 : wc.cell? ⟨gb559, 0, none⟩ = some (.string a0_0) := (bc_ BK559.out 0).trans rfl
     have hcz33_1 : wc.cell? ⟨gb559, 1, none⟩ = some (.string a0_1) := (bc_ BK559.out 1).trans rfl
     have hcz33_2 : wc.cell? ⟨gb559, 2, none⟩ = some (.int .u8 a0_2) := (bc_ BK559.out 2).trans rfl
     have hcz33_3 : wc.cell? ⟨gb559, 3, none⟩ = some (.int .i64 a0_3) := (bc_ BK559.out 3).trans rfl
     have hcz33_4 : wc.cell? ⟨gb559, 4, none⟩ = some (.int .i64 a0_4) := (bc_ BK559.out 4).trans rfl
     have hcz33_5 : wc.cell? ⟨gb559, 5, none⟩ = some (.int .i64 a0_5) := (bc_ BK559.out 5).trans rfl
     have hcz33_6 : wc.cell? ⟨gb559, 6, none⟩ = some (.int .i64 a0_6) := (bc_ BK559.out 6).trans rfl
     have hcz33_7 : wc.cell? ⟨gb559, 7, none⟩ = some (.slice A0_7 l0_7.length c0_7) := (bc_ BK559.out 7).trans rfl
     have hfz33_0 := bf_ BK559.out 0
     have hfz33_1 := bf_ BK559.out 1
     have hfz33_2 := bf_ BK559.out 2
     have hfz33_3 := bf_ BK559.out 3
     have hfz33_4 := bf_ BK559.out 4
     have hfz33_5 := bf_ BK559.out 5
     have hfz33_6 := bf_ BK559.out 6
     have hfz33_7 := bf_ BK559.out 7
     go_wp2_with (first | ((with_reducible refine gate_callee (f := 49) rfl ?_); refine goesL_ (some 47) rfl rfl Tryz.func49 (by kernel_rfl) rfl #[.string a0_1] rfl wm_ ?_; (with_reducible refine (bindleref08_Target.calls kj22 a0_1 t563 _ A32.out).mono ?_); rintro e w' ⟨rfl, ⟨nd, rfl⟩⟩; refine ⟨_, rfl, ?_⟩))
     go_ret
     exact ⟨we_, wb1_ HB.out GE559.out⟩
end Go.Proofs.YtbngbefchobfnaaGreatDoor.Print
