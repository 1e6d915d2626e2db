/-
  THE ORDER OF PATHS, PLAIN.
-/
import Derived.Test.YtfljbidecljlcaaDoorTreeP
import Derived.Lib.Bytealg
namespace Go.Proofs.YtfljbidecljlcaaDoor
open Go.RowKit
theorem u8_lt (a b : UInt8) : (a < b) ↔ a.toNat < b.toNat := UInt8.lt_iff_toNat_lt
theorem u8_eq (a b : UInt8) : a = b ↔ a.toNat = b.toNat := UInt8.toNat_inj.symm
theorem less_cons (a b : UInt8) (x y : List UInt8) : Op.bytesLess (a :: x) (b :: y) = true ↔ a.toNat < b.toNat ∨ (a = b ∧ Op.bytesLess x y = true) := by
  simp [Op.bytesLess, u8_lt]
theorem less_irr : ∀ l : List UInt8, Op.bytesLess l l = false
  | [] => rfl
  | a :: l => by
    rw [Bool.eq_false_iff]
    intro h
    rw [less_cons] at h
    rcases h with h | h
    · omega
    · rw [less_irr l] at h; exact absurd h.2 (by decide)
theorem less_trans : ∀ a b c : List UInt8, Op.bytesLess a b = true → Op.bytesLess b c = true → Op.bytesLess a c = true
  | _, _, [], _, h => by cases ‹List UInt8› <;> simp [Op.bytesLess] at h
  | _, [], _ :: _, h, _ => by cases ‹List UInt8› <;> simp [Op.bytesLess] at h
  | [], _ :: _, _ :: _, _, _ => rfl
  | a :: x, b :: y, c :: z, h1, h2 => by
    rw [less_cons] at h1 h2 ⊢
    rcases h1 with h1 | ⟨rfl, h1⟩
    · rcases h2 with h2 | ⟨rfl, h2⟩
      · exact .inl (by omega)
      · exact .inl h1
    · rcases h2 with h2 | ⟨rfl, h2⟩
      · exact .inl h2
      · exact .inr ⟨rfl, less_trans x y z h1 h2⟩
theorem less_tri : ∀ a b : List UInt8, Op.bytesLess a b = true ∨ a = b ∨ Op.bytesLess b a = true
  | [], [] => .inr (.inl rfl)
  | [], _ :: _ => .inl rfl
  | _ :: _, [] => .inr (.inr rfl)
  | a :: x, b :: y => by
    rw [less_cons, less_cons]
    by_cases h : a.toNat < b.toNat
    · exact .inl (.inl h)
    · by_cases h2 : b.toNat < a.toNat
      · exact .inr (.inr (.inl h2))
      · have e : a = b := (u8_eq a b).2 (by omega)
        subst e
        rcases less_tri x y with h3 | h3 | h3
        · exact .inl (.inr ⟨rfl, h3⟩)
        · exact .inr (.inl (by rw [h3]))
        · exact .inr (.inr (.inr ⟨rfl, h3⟩))
theorem cmp_neg : ∀ a b : List UInt8, Lib.compareBytes a b < 0 ↔ Op.bytesLess a b = true
  | [], [] => by simp [Lib.compareBytes, Op.bytesLess]
  | [], _ :: _ => by simp [Lib.compareBytes, Op.bytesLess]
  | _ :: _, [] => by simp [Lib.compareBytes, Op.bytesLess]
  | a :: x, b :: y => by
    rw [less_cons, Lib.compareBytes]
    by_cases h : a < b
    · rw [if_pos h]
      rw [u8_lt] at h
      simp [h]
    · rw [if_neg h]
      rw [u8_lt] at h
      by_cases h2 : b < a
      · rw [if_pos h2]
        rw [u8_lt] at h2
        constructor
        · intro h3; omega
        · rintro (h3 | ⟨rfl, _⟩) <;> omega
      · rw [if_neg h2, cmp_neg x y]
        rw [u8_lt] at h2
        have e : a = b := (u8_eq a b).2 (by omega)
        subst e
        simp
theorem cmp_zero : ∀ a b : List UInt8, Lib.compareBytes a b = 0 ↔ a = b
  | [], [] => by simp [Lib.compareBytes]
  | [], _ :: _ => by simp [Lib.compareBytes]
  | _ :: _, [] => by simp [Lib.compareBytes]
  | a :: x, b :: y => by
    rw [Lib.compareBytes]
    by_cases h : a < b
    · rw [if_pos h]
      rw [u8_lt] at h
      constructor
      · intro h3; omega
      · intro h3; injection h3 with h3; subst h3; omega
    · rw [if_neg h]
      rw [u8_lt] at h
      by_cases h2 : b < a
      · rw [if_pos h2]
        rw [u8_lt] at h2
        constructor
        · intro h3; omega
        · intro h3; injection h3 with h3; subst h3; omega
      · rw [if_neg h2, cmp_zero x y]
        rw [u8_lt] at h2
        have e : a = b := (u8_eq a b).2 (by omega)
        subst e
        simp
/-! Paths. -/
theorem lt_data (a b : ByteArray) : lt a b = Op.bytesLess a.data.toList b.data.toList := by unfold lt; rw [Lib.toList_data, Lib.toList_data]
theorem lt_irr (a : ByteArray) : lt a a = false := less_irr _
theorem lt_trans {a b c : ByteArray} (h : lt a b = true) (k : lt b c = true) : lt a c = true := less_trans _ _ _ h k
theorem lt_tri (a b : ByteArray) : lt a b = true ∨ a.toList = b.toList ∨ lt b a = true := less_tri _ _
theorem lt_asym {a b : ByteArray} (h : lt a b = true) : lt b a = false := by
  cases h2 : lt b a with
  | false => rfl
  | true =>
    have := lt_trans h h2
    rw [lt_irr] at this
    cases this
theorem lt_ne {a b : ByteArray} (h : lt a b = true) : a.toList ≠ b.toList := by
  intro e
  unfold lt at h
  rw [e, less_irr] at h
  cases h
theorem riseB_cons {x : Node} {l : List Node} (h : riseB (x :: l) = true) : riseB l = true ∧ ∀ y ∈ l, lt x.f0 y.f0 = true := by
  induction l generalizing x with
  | nil => exact ⟨rfl, fun y hy => by cases hy⟩
  | cons z l ih =>
    rw [riseB, Bool.and_eq_true] at h
    refine ⟨h.2, fun y hy => ?_⟩
    rcases List.mem_cons.1 hy with rfl | hy
    · exact h.1
    · exact lt_trans h.1 ((ih h.2).2 y hy)
theorem riseB_at {l : List Node} (h : riseB l = true) : ∀ (i j : Nat) (hi : i < l.length) (hj : j < l.length), i < j → lt l[i].f0 l[j].f0 = true := by
  induction l with
  | nil => intro i j hi; exact absurd hi (Nat.not_lt_zero _)
  | cons x l ih =>
    obtain ⟨h1, h2⟩ := riseB_cons h
    intro i j hi hj hij
    match i, j with
    | 0, j + 1 => exact h2 _ (List.getElem_mem _)
    | i + 1, j + 1 => exact ih h1 i j _ _ (by omega)
theorem findF_at {l : List Node} (h : riseB l = true) (p : ByteArray) (n : Nat) (hn : n < l.length) (he : l[n].f0.toList = p.toList) : findF l p = some l[n] := by
  unfold findF
  rw [List.find?_eq_some_iff_append]
  refine ⟨by simpa using he, l.take n, l.drop (n + 1), ?_, fun y hy => ?_⟩
  · rw [List.getElem_cons_drop, List.take_append_drop]
  · obtain ⟨i, hi, rfl⟩ := List.getElem_of_mem hy
    rw [List.length_take] at hi
    have := lt_ne (riseB_at h i n (by omega) hn (by omega))
    rw [List.getElem_take]
    rw [← he]
    simpa using this
theorem findF_none {l : List Node} (p : ByteArray) (h : ∀ (i : Nat) (hi : i < l.length), l[i].f0.toList ≠ p.toList) : findF l p = none := by
  unfold findF
  rw [List.find?_eq_none]
  intro x hx
  obtain ⟨i, hi, rfl⟩ := List.getElem_of_mem hx
  simpa using h i hi
end Go.Proofs.YtfljbidecljlcaaDoor
