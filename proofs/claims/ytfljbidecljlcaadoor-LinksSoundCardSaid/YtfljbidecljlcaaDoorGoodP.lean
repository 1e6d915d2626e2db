/-
  RIGHT TEXTS, PLAIN: around a byte from 1 to 127 a text is right just when both sides are.
-/
import Derived.Test.YtfljbidecljlcaaDoorRefText
namespace Go.Proofs.YtfljbidecljlcaaDoor
def goodL (l : List UInt8) : Bool := goodF l.length l
section
variable {c : UInt8} (hc : 0 < c.toNat) (hc2 : c.toNat < 128)
include hc hc2
theorem step_app (p q : List UInt8) (hp : p ≠ []) : step (p ++ c :: q) = step p := by
  match p, hp with
  | [a], _ =>
    simp only [step, List.cons_append, List.nil_append, List.getD_cons_zero, List.getD_cons_succ, List.getD_nil, List.length_cons, List.length_nil, UInt8.toNat_ofNat]
    unfold stepN
    repeat' split
    all_goals omega
  | [a, b], _ =>
    simp only [step, List.cons_append, List.nil_append, List.getD_cons_zero, List.getD_cons_succ, List.getD_nil, List.length_cons, List.length_nil, UInt8.toNat_ofNat]
    unfold stepN
    repeat' split
    all_goals omega
  | [a, b, d], _ =>
    simp only [step, List.cons_append, List.nil_append, List.getD_cons_zero, List.getD_cons_succ, List.getD_nil, List.length_cons, List.length_nil, UInt8.toNat_ofNat]
    unfold stepN
    repeat' split
    all_goals omega
  | a :: b :: d :: e :: t, _ =>
    simp only [step, List.cons_append, List.getD_cons_zero, List.getD_cons_succ, List.length_cons, List.length_append]
    unfold stepN
    repeat' split
    all_goals omega
theorem step_one (q : List UInt8) : step (c :: q) = 1 := by
  simp only [step, List.getD_cons_zero]
  unfold stepN
  rw [if_neg (by omega), if_pos hc2]
theorem goodF_app (n : Nat) : ∀ p q : List UInt8, p.length ≤ n → goodL (p ++ c :: q) = (goodL p && goodL q) := by
  induction n with
  | zero =>
    intro p q h
    have : p = [] := List.length_eq_zero_iff.1 (by omega)
    subst this
    show goodF (q.length + 1) (c :: q) = (true && goodL q)
    rw [goodF, if_neg (by simp), step_one hc hc2, if_neg (by decide)]
    rfl
  | succ n ih =>
    intro p q h
    by_cases hp : p = []
    · subst hp; exact ih [] q (by simp)
    · have e1 : goodL p = if step p = 0 then false else goodL (p.drop (step p)) := by
        unfold goodL
        cases hl : p.length with
        | zero => exact absurd (List.length_eq_zero_iff.1 hl) hp
        | succ m =>
          rw [goodF, if_neg hp]
          split
          · rfl
          · exact goodF_fuel _ _ _ (by rw [List.length_drop]; omega) (by rw [List.length_drop]; omega)
      have e2 : goodL (p ++ c :: q) = if step p = 0 then false else goodL (p.drop (step p) ++ c :: q) := by
        have hk := step_le p
        unfold goodL
        cases hl : (p ++ c :: q).length with
        | zero => simp at hl
        | succ m =>
          rw [goodF, if_neg (by simp), step_app hc hc2 _ _ hp]
          split
          · rfl
          · rw [List.drop_append_of_le_length hk]
            refine goodF_fuel _ _ _ ?_ (Nat.le_refl _)
            simp only [List.length_append, List.length_drop, List.length_cons] at hl ⊢
            omega
      rw [e1, e2]
      split
      · rfl
      · exact ih _ _ (by rw [List.length_drop]; omega)
theorem goodL_app (p q : List UInt8) : goodL (p ++ c :: q) = (goodL p && goodL q) := goodF_app hc hc2 _ p q (Nat.le_refl _)
end
end Go.Proofs.YtfljbidecljlcaaDoor
