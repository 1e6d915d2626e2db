/-
  RECORDS, PLAIN: how long a line is; its text; it is read again; a line that is cut is none.
-/
import Derived.Test.YtgjkkhdjfppeiaaDoorRecP
import Derived.Lib.ItoaNum
namespace Go.Proofs.YtgjkkhdjfppeiaaDoor
open Lib (decDigits)
theorem dd_eq (u : Nat) : decDigits u = if u < 10 then [UInt8.ofNat (48 + u)] else decDigits (u / 10) ++ [UInt8.ofNat (48 + u % 10)] := by
  rw [decDigits]
  split <;> rfl
def nd (n : Nat) : Nat := (decDigits n).length
theorem nd_eq (n : Nat) : nd n = if n < 10 then 1 else nd (n / 10) + 1 := by
  unfold nd
  rw [dd_eq]
  split
  · rfl
  · rw [List.length_append]; rfl
theorem nd_pos (n : Nat) : 1 ≤ nd n := by rw [nd_eq]; split <;> omega
theorem nd_mono : ∀ (n m : Nat), m ≤ n → nd m ≤ nd n := by
  intro n
  induction n using Nat.strongRecOn with
  | ind n ih =>
    intro m hm
    rw [nd_eq n, nd_eq m]
    by_cases h : n < 10
    · rw [if_pos h, if_pos (by omega)]; omega
    · rw [if_neg h]
      split
      · omega
      · have := ih (n / 10) (by omega) (m / 10) (by omega)
        omega
theorem nd_le : ∀ (k n : Nat), n < 10 ^ (k + 1) → nd n ≤ k + 1 := by
  intro k
  induction k with
  | zero => intro n h; rw [nd_eq, if_pos (by simpa using h)]; omega
  | succ k ih =>
    intro n h
    rw [nd_eq]
    split
    · omega
    · have := ih (n / 10) (by rw [Nat.pow_succ] at h; omega)
      omega
theorem dig_of (d : Nat) (h : d < 10) : isDig (UInt8.ofNat (48 + d)) = true ∧ (UInt8.ofNat (48 + d)).toNat - 48 = d := by
  have h2 : (UInt8.ofNat (48 + d)).toNat = 48 + d := by
    rw [UInt8.toNat_ofNat']
    omega
  unfold isDig
  rw [h2]
  refine ⟨?_, by omega⟩
  rw [decide_eq_true (by omega), decide_eq_true (by omega)]; rfl
theorem dd_all : ∀ n : Nat, (decDigits n).all isDig = true := by
  intro n
  induction n using Nat.strongRecOn with
  | ind n ih =>
    rw [dd_eq]
    split
    · rename_i h; rw [List.all_cons, (dig_of n h).1]; rfl
    · rw [List.all_append, ih (n / 10) (by omega), List.all_cons, (dig_of (n % 10) (by omega)).1]; rfl
theorem dd_dec : ∀ n : Nat, decOf (decDigits n) = n := by
  intro n
  induction n using Nat.strongRecOn with
  | ind n ih =>
    rw [dd_eq]
    split
    · rename_i h
      show 0 * 10 + ((UInt8.ofNat (48 + n)).toNat - 48) = n
      rw [(dig_of n h).2]; omega
    · have h1 := ih (n / 10) (by omega)
      unfold decOf at *
      rw [List.foldl_append, h1, List.foldl_cons, List.foldl_nil, (dig_of (n % 10) (by omega)).2]
      omega
theorem dd_ne (n : Nat) : decDigits n ≠ [] := by
  intro e
  have := nd_pos n
  unfold nd at this
  rw [e] at this
  exact absurd this (by decide)
theorem head_app (a b : List UInt8) (h : a ≠ []) : (a ++ b).head? = a.head? := by
  cases a with
  | nil => exact absurd rfl h
  | cons x a => rfl
theorem dd_head : ∀ n : Nat, 0 < n → (decDigits n).head? ≠ some 48 := by
  intro n
  induction n using Nat.strongRecOn with
  | ind n ih =>
    intro hn
    rw [dd_eq]
    split
    · rename_i h
      intro e
      have e2 : UInt8.ofNat (48 + n) = 48 := by simpa using e
      have := congrArg UInt8.toNat e2
      rw [UInt8.toNat_ofNat'] at this
      have h48 : (48 : UInt8).toNat = 48 := rfl
      omega
    · rw [head_app _ _ (dd_ne _)]
      exact ih (n / 10) (by omega) (by omega)
/-! The length of a line. -/
theorem least (P : Nat → Prop) [DecidablePred P] : ∀ n : Nat, P n → ∃ m, P m ∧ m ≤ n ∧ ∀ k, k < m → ¬ P k := by
  intro n
  induction n using Nat.strongRecOn with
  | ind n ih =>
    intro h
    by_cases hk : ∃ k, k < n ∧ P k
    · obtain ⟨k, hk, hp⟩ := hk
      obtain ⟨m, h1, h2, h3⟩ := ih k hk hp
      exact ⟨m, h1, by omega, h3⟩
    · exact ⟨n, h, Nat.le_refl _, fun k hk' hp => hk ⟨k, hk', hp⟩⟩
/-- N is the length of a line whose body has b bytes. -/
structure IsLen (b N : Nat) : Prop where
  gt : b < N
  le : N ≤ b + 10
  eq : nd N + b = N
  all : ∀ m, b ≤ m → m < N → m < nd m + b
theorem len_ex (b : Nat) (hb : b ≤ 1000000000) : ∃ N, IsLen b N := by
  obtain ⟨N, ⟨h1, h2⟩, h3, h4⟩ := least (fun n => b ≤ n ∧ nd n + b ≤ n) (b + 10) ⟨by omega, by have := nd_le 9 (b + 10) (by omega); omega⟩
  have hp := nd_pos N
  refine ⟨N, by omega, h3, ?_, fun m hm hlt => ?_⟩
  · have h5 := h4 (N - 1) (by omega)
    have h6 := nd_mono N (N - 1) (by omega)
    have h7 : ¬ (nd (N - 1) + b ≤ N - 1) := fun h => h5 ⟨by omega, h⟩
    omega
  · have h5 := h4 m hlt
    have h7 : ¬ (nd m + b ≤ m) := fun h => h5 ⟨hm, h⟩
    omega
theorem len_one {b N M : Nat} (h : IsLen b N) (k : IsLen b M) : N = M := by
  rcases Nat.lt_trichotomy N M with h1 | h1 | h1
  · have := k.all N (by have := h.gt; omega) h1
    have := h.eq; omega
  · exact h1
  · have := h.all M (by have := k.gt; omega) h1
    have := k.eq; omega
/-! A record's line. -/
def bodyL (k v : List UInt8) : List UInt8 := 32 :: (k ++ 61 :: (v ++ [10]))
theorem bodyL_len (k v : List UInt8) : (bodyL k v).length = k.length + v.length + 3 := by
  simp only [bodyL, List.length_cons, List.length_append, List.length_nil]; omega
def mayL (k v : List UInt8) : Bool := !(decide (k = [])) && !(decide (0 ≤ Lib.indexByte k 61)) && goodL k && goodL v && decide (k.length + v.length ≤ 100000)
structure May (k v : List UInt8) : Prop where
  ne : k ≠ []
  eq : ∀ b ∈ k, b ≠ 61
  k1 : goodL k = true
  v1 : goodL v = true
  len : k.length + v.length ≤ 100000
theorem mem_index (l : List UInt8) (c : UInt8) : (0 ≤ Lib.indexByte l c) ↔ ¬ ∀ b ∈ l, b ≠ c := by
  rcases decAt l c with h | ⟨p, q, e, h⟩
  · rw [indexByte_none l c h]
    constructor
    · intro h'; exact absurd h' (by decide)
    · intro h'; exact absurd h h'
  · rw [e, indexByte_app p c q h]
    constructor
    · intro _ h'
      exact h' c (by simp) rfl
    · intro _; omega
theorem mayL_iff (k v : List UInt8) : mayL k v = true ↔ May k v := by
  unfold mayL
  simp only [Bool.and_eq_true, Bool.not_eq_true', decide_eq_false_iff_not, decide_eq_true_eq, mem_index, Classical.not_not]
  constructor
  · rintro ⟨⟨⟨⟨h1, h2⟩, h3⟩, h4⟩, h5⟩; exact ⟨h1, h2, h3, h4, h5⟩
  · rintro ⟨h1, h2, h3, h4, h5⟩; exact ⟨⟨⟨⟨h1, h2⟩, h3⟩, h4⟩, h5⟩
/-- t is the record's line. -/
def IsLine (k v t : List UInt8) : Prop := ∃ N, IsLen (bodyL k v).length N ∧ t = decDigits N ++ bodyL k v
theorem IsLine.len {k v t : List UInt8} (h : IsLine k v t) : ∃ N, IsLen (bodyL k v).length N ∧ t = decDigits N ++ bodyL k v ∧ t.length = N := by
  obtain ⟨N, h1, h2⟩ := h
  refine ⟨N, h1, h2, ?_⟩
  rw [h2, List.length_append]
  exact h1.eq
/-- **A line is read again.** -/
theorem one_line {k v t : List UInt8} (h : IsLine k v t) (hm : May k v) (rest : List UInt8) : oneL (t ++ rest) = (k, v, rest, 0) := by
  obtain ⟨N, h1, h2, h3⟩ := h.len
  have hb := bodyL_len k v
  have hkp := List.length_pos_iff.2 hm.ne
  have hlen := hm.len
  have hN : N < 10 ^ 7 := by have := h1.le; omega
  have hnd := nd_le 6 N hN
  have hnd1 := nd_pos N
  have hnd0 : (decDigits N).length = nd N := rfl
  have htw : (t ++ rest).takeWhile isDig = decDigits N := by
    rw [h2, List.append_assoc]
    exact takeWhile_app (decDigits N) _ 32 (dd_all N) (by decide)
  have heq := h1.eq
  have hd : ((t ++ rest).drop (decDigits N).length).head? = some 32 := by
    rw [h2, List.append_assoc, List.drop_left]; rfl
  have hh : (t ++ rest).head? ≠ some 48 := by
    rw [h2, List.append_assoc, head_app _ _ (dd_ne N)]
    exact dd_head N (by omega)
  have hbad : headBad (t ++ rest) (decDigits N) = false := by
    unfold headBad
    rw [hd]
    simp only [decide_true, Bool.not_true, Bool.or_false, Bool.or_eq_false_iff, decide_eq_false_iff_not]
    exact ⟨⟨by omega, by omega⟩, hh⟩
  have ht : t = (decDigits N ++ 32 :: (k ++ 61 :: v)) ++ [10] := by rw [h2]; simp [bodyL]
  have hu : (decDigits N ++ 32 :: (k ++ 61 :: v)).length = N - 1 := by
    have := congrArg List.length ht
    rw [List.length_append] at this
    simp only [List.length_cons, List.length_nil] at this
    omega
  have hg : (t ++ rest).getD (N - 1) 0 = 10 := by
    rw [ht, List.append_assoc, List.getD_eq_getElem?_getD, List.getElem?_append_right (by omega), hu]
    simp
  have hs : sizeBad (t ++ rest) (decDigits N) N = false := by
    unfold sizeBad
    rw [hg, List.length_append, h3]
    simp only [decide_true, Bool.not_true, Bool.or_false, Bool.or_eq_false_iff, decide_eq_false_iff_not]
    omega
  have hl : lineL (t ++ rest) (decDigits N) N = k ++ 61 :: v := by
    unfold lineL
    rw [ht, List.append_assoc, ← hu, List.take_left, show (decDigits N).length + 1 = (decDigits N ++ [32]).length by simp, show decDigits N ++ 32 :: (k ++ 61 :: v) = (decDigits N ++ [32]) ++ (k ++ 61 :: v) by simp, List.drop_left]
  have hr : (t ++ rest).drop N = rest := by rw [← h3, List.drop_left]
  unfold oneL
  rw [htw, dd_dec, hbad, if_neg (by decide), hs, if_neg (by decide), hl, hr]
  unfold splitL
  rw [indexByte_app k 61 v hm.eq, if_neg (by omega), goodL_app (by decide) (by decide), hm.k1, hm.v1, if_neg (by decide)]
  simp
/-- **A line that is cut is none.** -/
theorem one_cut {k v t : List UInt8} (h : IsLine k v t) (j : Nat) (hj : j < t.length) : oneL (t.take j) = err3 5 := by
  obtain ⟨N, h1, h2, h3⟩ := h.len
  have hnd0 : (decDigits N).length = nd N := rfl
  by_cases hc : j ≤ nd N
  · have : t.take j = (decDigits N).take j := by rw [h2, List.take_append_of_le_length (by omega)]
    unfold oneL
    rw [if_pos]
    refine headBad_none _ ?_
    intro b hb
    rw [this] at hb
    have := (List.all_eq_true.1 (dd_all N)) b (List.mem_of_mem_take hb)
    rintro rfl
    exact absurd this (by decide)
  · have ht : t.take j = decDigits N ++ 32 :: ((k ++ 61 :: (v ++ [10])).take (j - nd N - 1)) := by
      rw [h2, List.take_append, List.take_of_length_le (by omega), hnd0]
      congr 1
      unfold bodyL
      obtain ⟨i, hi⟩ : ∃ i, j - nd N = i + 1 := ⟨j - nd N - 1, by omega⟩
      rw [hi, List.take_succ_cons]
      rfl
    have htw : (t.take j).takeWhile isDig = decDigits N := by rw [ht]; exact takeWhile_app (decDigits N) _ 32 (dd_all N) (by decide)
    unfold oneL
    rw [htw, dd_dec]
    split
    · rfl
    · rw [if_pos]
      unfold sizeBad
      rw [List.length_take]
      rw [decide_eq_true (show min j t.length < N by omega)]
      rfl
/-! All records. -/
theorem parse_cons {k v t : List UInt8} (h : IsLine k v t) (hm : May k v) (rest : List UInt8) :
    parseL (t ++ rest) = if (parseL rest).2 = 0 then ((k, v) :: (parseL rest).1, 0) else ([], (parseL rest).2) := by
  have h1 := one_line h hm rest
  obtain ⟨N, hN, ht, hl⟩ := h.len
  have hgt := hN.gt
  have hlen : (t ++ rest).length = t.length + rest.length := List.length_append
  have hne : t ++ rest ≠ [] := by
    intro e
    have := congrArg List.length e
    rw [hlen] at this
    simp only [List.length_nil] at this
    omega
  have hfu : parseN ((t ++ rest).length - 1) rest = parseL rest := parseN_fuel _ _ _ (by omega) (Nat.le_refl _)
  unfold parseL at hfu ⊢
  obtain ⟨n, hn⟩ : ∃ n, (t ++ rest).length = n + 1 := ⟨(t ++ rest).length - 1, by omega⟩
  rw [hn] at hfu ⊢
  simp only [Nat.add_sub_cancel] at hfu
  rw [parseN, if_neg hne, h1]
  simp only [ne_eq, not_true_eq_false, if_false]
  rw [hfu]
  by_cases h2 : (parseN rest.length rest).2 = 0
  · rw [if_pos h2, if_neg (by simpa using h2)]
  · rw [if_neg h2, if_pos (by simpa using h2)]
theorem parse_cut {k v t : List UInt8} (h : IsLine k v t) (j : Nat) (h0 : 0 < j) (hj : j < t.length) : parseL (t.take j) = ([], 5) := by
  have h1 := one_cut h j hj
  have hne : t.take j ≠ [] := by
    intro e
    have := congrArg List.length e
    rw [List.length_take] at this
    simp only [List.length_nil] at this
    omega
  unfold parseL
  obtain ⟨n, hn⟩ : ∃ n, (t.take j).length = n + 1 := ⟨(t.take j).length - 1, by have := List.length_pos_iff.2 hne; omega⟩
  rw [hn, parseN, if_neg hne, h1, if_pos (by decide)]
  rfl
end Go.Proofs.YtgjkkhdjfppeiaaDoor
