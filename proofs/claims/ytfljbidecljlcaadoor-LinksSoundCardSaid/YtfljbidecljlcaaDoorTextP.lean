/-
  RIGHT TEXTS, PLAIN: the library's decoder against a step by bytes; texts between and around a byte below 128.
-/
import Derived.Test.YtfljbidecljlcaaDoorRightP
import Derived.Lib.TrimUEq
namespace Go.Proofs.YtfljbidecljlcaaDoor
/-- How many bytes the code point at the head takes; 0: none is there. -/
def stepN (n b0 b1 b2 b3 : Nat) : Nat :=
  if b0 = 0 then 0 else if b0 < 128 then 1
  else if b0 < 194 then 0
  else if b0 < 224 then (if 2 ≤ n ∧ 128 ≤ b1 ∧ b1 ≤ 191 then 2 else 0)
  else if b0 < 240 then (if 3 ≤ n ∧ 128 ≤ b1 ∧ b1 ≤ 191 ∧ 128 ≤ b2 ∧ b2 ≤ 191 ∧ ¬ (b0 = 224 ∧ b1 < 160) ∧ ¬ (b0 = 237 ∧ 159 < b1) then 3 else 0)
  else if b0 < 245 then (if 4 ≤ n ∧ 128 ≤ b1 ∧ b1 ≤ 191 ∧ 128 ≤ b2 ∧ b2 ≤ 191 ∧ 128 ≤ b3 ∧ b3 ≤ 191 ∧ ¬ (b0 = 240 ∧ b1 < 144) ∧ ¬ (b0 = 244 ∧ 143 < b1) then 4 else 0)
  else 0
def step (l : List UInt8) : Nat := stepN l.length (l.getD 0 0).toNat (l.getD 1 0).toNat (l.getD 2 0).toNat (l.getD 3 0).toNat
set_option maxRecDepth 100000 in
set_option maxHeartbeats 4000000 in
theorem step_dec (n b0 b1 b2 b3 : Nat) (h0 : b0 ≠ 0) (h : b0 < 256) (h1 : b1 < 256) (h2 : b2 < 256) (h3 : b3 < 256) :
    (((Lib.decodeN n b0 b1 b2 b3).1 = 65533 ∧ (Lib.decodeN n b0 b1 b2 b3).2 = 1) ↔ stepN n b0 b1 b2 b3 = 0) ∧ (stepN n b0 b1 b2 b3 ≠ 0 → (Lib.decodeN n b0 b1 b2 b3).2 = stepN n b0 b1 b2 b3) := by
  unfold Lib.decodeN stepN
  repeat' split
  all_goals first
    | (constructor <;> simp <;> omega)
    | (exfalso; omega)
/-- A right text, by its code points. -/
def goodF : Nat → List UInt8 → Bool
  | 0, _ => true
  | n + 1, l => if l = [] then true else if step l = 0 then false else goodF n (l.drop (step l))
theorem step_le (l : List UInt8) : step l ≤ l.length := by
  unfold step stepN
  repeat' split
  all_goals try omega
  all_goals
    cases l with
    | nil => simp at *
    | cons a t => simp
theorem contains_app (x y : List UInt8) : (x ++ y).contains 0 = (x.contains 0 || y.contains 0) := by
  induction x with
  | nil => simp
  | cons a x ih => rw [List.cons_append, List.contains_cons, List.contains_cons, ih, Bool.or_assoc]
theorem byte_lt (b : UInt8) : b.toNat < 256 := b.toNat_lt
theorem validGoD_good (n : Nat) : ∀ l : List UInt8, l.length ≤ n → goodF n l = (Lib.validGoD n l && !(l.contains 0)) := by
  induction n with
  | zero =>
    intro l hl
    have : l = [] := List.length_eq_zero_iff.1 (by omega)
    subst this
    rfl
  | succ n ih =>
    intro l hl
    cases l with
    | nil => rfl
    | cons a t =>
      have hne : a :: t ≠ [] := by simp
      simp only [goodF, Lib.validGoD, if_neg hne]
      by_cases ha : a = 0
      · subst ha
        have : step (0 :: t) = 0 := by simp [step, stepN]
        simp [this]
      · have ha' : a.toNat ≠ 0 := fun e => ha (by simpa using (UInt8.toNat_inj (b := 0)).1 (by simpa using e))
        have hd := step_dec (a :: t).length ((a :: t).getD 0 0).toNat ((a :: t).getD 1 0).toNat ((a :: t).getD 2 0).toNat ((a :: t).getD 3 0).toNat (by simpa using ha') (byte_lt _) (byte_lt _) (byte_lt _) (byte_lt _)
        rw [← Lib.decodeL_N] at hd
        have hs : stepN (a :: t).length ((a :: t).getD 0 0).toNat ((a :: t).getD 1 0).toNat ((a :: t).getD 2 0).toNat ((a :: t).getD 3 0).toNat = step (a :: t) := rfl
        rw [hs] at hd
        by_cases h0 : step (a :: t) = 0
        · rw [if_pos h0, if_pos (hd.1.2 h0)]
          rfl
        · rw [if_neg h0, if_neg (fun e => h0 (hd.1.1 e)), hd.2 h0]
          have hpos : 1 ≤ step (a :: t) := by omega
          rw [ih _ (by rw [List.length_drop]; simp at hl ⊢; omega)]
          congr 2
          have hsplit : (a :: t).contains 0 = (((a :: t).take (step (a :: t))).contains 0 || ((a :: t).drop (step (a :: t))).contains 0) := by
            rw [← contains_app, List.take_append_drop]
          rw [hsplit]
          have hz : ((a :: t).take (step (a :: t))).contains 0 = false := by
            rw [List.contains_eq_mem, decide_eq_false_iff_not]
            intro hm
            obtain ⟨i, hi, he⟩ := List.getElem_of_mem hm
            rw [List.getElem_take] at he
            rw [List.length_take] at hi
            have hi1 : i < step (a :: t) := by omega
            have hg : ((a :: t).getD i 0).toNat = 0 := by rw [List.getD_eq_getElem?_getD, List.getElem?_eq_getElem (by omega), Option.getD_some, he]; rfl
            have hst : stepN (a :: t).length ((a :: t).getD 0 0).toNat ((a :: t).getD 1 0).toNat ((a :: t).getD 2 0).toNat ((a :: t).getD 3 0).toNat = step (a :: t) := rfl
            unfold stepN at hst
            have h00 : ((a :: t).getD 0 0).toNat ≠ 0 := by simpa using ha'
            have hi4 : i < 4 := by
              repeat' split at hst
              all_goals omega
            have : i = 0 ∨ i = 1 ∨ i = 2 ∨ i = 3 := by omega
            rcases this with rfl | rfl | rfl | rfl
            · exact h00 hg
            all_goals
              repeat' split at hst
              all_goals omega
          rw [hz, Bool.false_or]
theorem indexByte_mem (l : List UInt8) (c : UInt8) : decide (0 ≤ Lib.indexByte l c) = l.contains c := by
  induction l with
  | nil => rfl
  | cons a t ih =>
    by_cases hc : a = c
    · subst hc; simp [Lib.indexByte]
    · have hb : (a == c) = false := by simpa using hc
      have hc' : ¬ c = a := fun e => hc e.symm
      have ge : -1 ≤ Lib.indexByte t c := by
        clear ih
        induction t with
        | nil => simp [Lib.indexByte]
        | cons b r ih => simp only [Lib.indexByte]; split <;> (try split) <;> omega
      simp only [Lib.indexByte, hb]
      rw [List.contains_cons]
      have : (c == a) = false := by simpa using hc'
      rw [this, Bool.false_or, ← ih]
      by_cases h1 : Lib.indexByte t c = -1
      · simp [h1]
      · have h2 : (Lib.indexByte t c == -1) = false := by simpa using h1
        simp only [h2]
        have : 0 ≤ Lib.indexByte t c := by omega
        simp [this]
        omega
/-- path.right, by code points. -/
theorem rightB_good (s : ByteArray) : rightB s = goodF s.data.toList.length s.data.toList := by
  unfold rightB Lib.validD
  rw [validGoD_good _ _ (Nat.le_refl _), indexByte_mem]
end Go.Proofs.YtfljbidecljlcaaDoor
