/-
  RECORDS, PLAIN: one record of a text, all records, as functions of lists of bytes.
-/
import Derived.Test.YtgjkkhdjfppeiaaDoorGoodP
import Derived.Lib.Atoi
import Derived.Lib.SlTrimSet
import Derived.Lib.IndexMore
import Derived.Lib.IndexBytes
namespace Go.Proofs.YtgjkkhdjfppeiaaDoor
def isDig (b : UInt8) : Bool := decide (48 ≤ b.toNat) && decide (b.toNat ≤ 57)
def decOf (l : List UInt8) : Nat := l.foldl (fun n b => n * 10 + (b.toNat - 48)) 0
abbrev Rec3 := List UInt8 × List UInt8 × List UInt8 × Int
def err3 (e : Int) : Rec3 := ([], [], [], e)
def headBad (l h : List UInt8) : Bool := decide (h.length < 1) || decide (7 < h.length) || decide (l.head? = some 48) || !(decide ((l.drop h.length).head? = some 32))
def sizeBad (l h : List UInt8) (n : Nat) : Bool := decide (l.length < n) || decide (n < h.length + 4) || !(decide (l.getD (n - 1) 0 = 10))
def lineL (l h : List UInt8) (n : Nat) : List UInt8 := (l.take (n - 1)).drop (h.length + 1)
/-- A record's line cut at its first 61. -/
def splitL (line rest : List UInt8) : Rec3 :=
  if Lib.indexByte line 61 < 1 then err3 5 else if goodL line = false then err3 9
  else (line.take (Lib.indexByte line 61).toNat, line.drop ((Lib.indexByte line 61).toNat + 1), rest, 0)
/-- The first record of a text, and what is behind it. -/
def oneL (l : List UInt8) : Rec3 :=
  if headBad l (l.takeWhile isDig) = true then err3 5
  else if sizeBad l (l.takeWhile isDig) (decOf (l.takeWhile isDig)) = true then err3 5
  else splitL (lineL l (l.takeWhile isDig) (decOf (l.takeWhile isDig))) (l.drop (decOf (l.takeWhile isDig)))
/-- All records. -/
def parseN : Nat → List UInt8 → List (List UInt8 × List UInt8) × Int
  | 0, _ => ([], 0)
  | n + 1, l => if l = [] then ([], 0) else if (oneL l).2.2.2 ≠ 0 then ([], (oneL l).2.2.2)
    else if (parseN n (oneL l).2.2.1).2 ≠ 0 then ([], (parseN n (oneL l).2.2.1).2) else (((oneL l).1, (oneL l).2.1) :: (parseN n (oneL l).2.2.1).1, 0)
def parseL (l : List UInt8) : List (List UInt8 × List UInt8) × Int := parseN l.length l
theorem oneL_rest (l : List UInt8) (h : (oneL l).2.2.2 = 0) (hl : l ≠ []) : (oneL l).2.2.1.length < l.length := by
  unfold oneL at *
  split at h
  · exact absurd h (by decide)
  · split at h
    · exact absurd h (by decide)
    · rename_i h1 h2
      rw [if_neg h1, if_neg h2]
      have hp := List.length_pos_iff.2 hl
      unfold splitL
      split
      · exact hp
      · split
        · exact hp
        · show (l.drop _).length < l.length
          have : 0 < decOf (l.takeWhile isDig) := by
            simp only [sizeBad, Bool.or_eq_true, decide_eq_true_eq, not_or] at h2
            omega
          rw [List.length_drop]
          omega
theorem parseN_fuel (n : Nat) : ∀ (m : Nat) (l : List UInt8), l.length ≤ n → l.length ≤ m → parseN n l = parseN m l := by
  induction n with
  | zero =>
    intro m l h _
    have : l = [] := List.length_eq_zero_iff.1 (by omega)
    subst this
    cases m <;> simp [parseN]
  | succ n ih =>
    intro m l h h2
    cases m with
    | zero =>
      have : l = [] := List.length_eq_zero_iff.1 (by omega)
      subst this
      simp [parseN]
    | succ m =>
      simp only [parseN]
      by_cases hl : l = []
      · rw [if_pos hl, if_pos hl]
      · rw [if_neg hl, if_neg hl]
        by_cases he : (oneL l).2.2.2 ≠ 0
        · rw [if_pos he, if_pos he]
        · have hr := oneL_rest l (by simpa using he) hl
          rw [if_neg he, if_neg he, ih m _ (by omega) (by omega)]
/-! The library's functions at these texts. -/
theorem indexByte_none (l : List UInt8) (c : UInt8) (h : ∀ b ∈ l, b ≠ c) : Lib.indexByte l c = -1 := by
  induction l with
  | nil => rfl
  | cons a l ih =>
    have ha : (a == c) = false := beq_eq_false_iff_ne.2 (h a (by simp))
    simp [Lib.indexByte, ha, ih (fun b hb => h b (by simp [hb]))]
theorem indexByte_app (h : List UInt8) (c : UInt8) (r : List UInt8) (hn : ∀ b ∈ h, b ≠ c) : Lib.indexByte (h ++ c :: r) c = h.length := by
  induction h with
  | nil => simp [Lib.indexByte]
  | cons a l ih =>
    have ha : (a == c) = false := beq_eq_false_iff_ne.2 (hn a (by simp))
    have := ih (fun b hb => hn b (by simp [hb]))
    simp only [List.cons_append, Lib.indexByte, ha, this]
    have h2 : ((l.length : Int) == -1) = false := beq_eq_false_iff_ne.2 (by omega)
    rw [h2]
    simp
theorem decAt (l : List UInt8) (c : UInt8) : (∀ b ∈ l, b ≠ c) ∨ ∃ p q, l = p ++ c :: q ∧ ∀ b ∈ p, b ≠ c := by
  induction l with
  | nil => left; simp
  | cons a l ih =>
    by_cases ha : a = c
    · subst ha; exact .inr ⟨[], l, rfl, by simp⟩
    · rcases ih with h | ⟨p, q, e, h⟩
      · left
        intro b hb
        rcases List.mem_cons.1 hb with hb | hb
        · rw [hb]; exact ha
        · exact h b hb
      · right
        refine ⟨a :: p, q, by rw [e]; rfl, ?_⟩
        intro b hb
        rcases List.mem_cons.1 hb with hb | hb
        · rw [hb]; exact ha
        · exact h b hb
theorem cut_none (l : List UInt8) (c : UInt8) (h : ∀ b ∈ l, b ≠ c) : Lib.cut l [c] = (l, [], false) := by
  unfold Lib.cut
  rw [Lib.index_one, indexByte_none l c h, if_neg (by decide)]
theorem cut_app (h : List UInt8) (c : UInt8) (r : List UInt8) (hn : ∀ b ∈ h, b ≠ c) : Lib.cut (h ++ c :: r) [c] = (h, r, true) := by
  unfold Lib.cut
  rw [Lib.index_one, indexByte_app h c r hn, if_pos (by omega)]
  simp
theorem dropWhile_nil {p : UInt8 → Bool} (l : List UInt8) : l.dropWhile p = [] ↔ ∀ b ∈ l, p b = true := by
  induction l with
  | nil => simp
  | cons a l ih =>
    rw [List.dropWhile_cons]
    cases ha : p a with
    | true => rw [if_pos rfl, ih]; simp [ha]
    | false => simp [ha]
def digits10 : List UInt8 := [48, 49, 50, 51, 52, 53, 54, 55, 56, 57]
theorem digits_iff (b : UInt8) : digits10.contains b = isDig b := by
  have h : ∀ x : Fin 256, digits10.contains (UInt8.ofNat x.val) = isDig (UInt8.ofNat x.val) := by decide +kernel
  have := h ⟨b.toNat, b.toNat_lt⟩
  simpa using this
theorem takeWhile_all {p : UInt8 → Bool} (l : List UInt8) : ∀ b ∈ l.takeWhile p, p b = true := by
  induction l with
  | nil => simp
  | cons a l ih =>
    rw [List.takeWhile_cons]
    cases ha : p a with
    | true =>
      rw [if_pos rfl]
      intro b hb
      rcases List.mem_cons.1 hb with hb | hb
      · rw [hb]; exact ha
      · exact ih b hb
    | false => simp
theorem trim_digits (l : List UInt8) : (Lib.trimS l digits10 = []) ↔ l.all isDig = true := by
  have hf : (fun b => digits10.contains b) = isDig := by funext b; exact digits_iff b
  unfold Lib.trimS Lib.trimLeftS Lib.trimRightS
  rw [hf]
  constructor
  · intro h
    rw [dropWhile_nil] at h
    rw [List.all_eq_true]
    intro b hb
    have hs : l.reverse.takeWhile isDig ++ l.reverse.dropWhile isDig = l.reverse := List.takeWhile_append_dropWhile
    have hb2 : b ∈ l.reverse := by simpa using hb
    rw [← hs] at hb2
    rcases List.mem_append.1 hb2 with h1 | h1
    · exact takeWhile_all _ b h1
    · exact h b (by simpa using h1)
  · intro h
    have : l.reverse.dropWhile isDig = [] := by
      rw [dropWhile_nil]
      intro b hb
      exact (List.all_eq_true.1 h) b (by simpa using hb)
    rw [this]; rfl
theorem decFrom_digits (l : List UInt8) : ∀ acc : Nat, l.all isDig = true → Lib.decFrom acc l = some (l.foldl (fun n b => n * 10 + (b.toNat - 48)) acc) := by
  induction l with
  | nil => intro acc _; rfl
  | cons b l ih =>
    intro acc h
    simp only [List.all_cons, Bool.and_eq_true] at h
    have hb : 48 ≤ b.toNat ∧ b.toNat ≤ 57 := by simpa [isDig] using h.1
    simp only [Lib.decFrom, Lib.digitVal, if_pos hb, List.foldl_cons]
    exact ih _ h.2
theorem atoi_digits (l : List UInt8) (hl : l ≠ []) (h : l.all isDig = true) : Lib.atoi l = some (decOf l : Int) := by
  cases l with
  | nil => exact absurd rfl hl
  | cons b l =>
    have hb : 48 ≤ b.toNat ∧ b.toNat ≤ 57 := by
      have := (List.all_eq_true.1 h) b (by simp)
      simpa [isDig] using this
    have h1 : (b == 45) = false := by
      rw [beq_eq_false_iff_ne]; rintro rfl; exact absurd hb.1 (by decide)
    have h2 : (b == 43) = false := by
      rw [beq_eq_false_iff_ne]; rintro rfl; exact absurd hb.1 (by decide)
    simp only [Lib.atoi, h1, h2, Lib.decNat, List.isEmpty_cons]
    simp only [Bool.false_eq_true, if_false, decFrom_digits _ 0 h, Option.map_some]
    rfl
/-! The digits at the head. -/
theorem takeWhile_app (h r : List UInt8) (c : UInt8) (ha : h.all isDig = true) (hc : isDig c = false) : (h ++ c :: r).takeWhile isDig = h := by
  induction h with
  | nil => simp [hc]
  | cons b h ih =>
    simp only [List.all_cons, Bool.and_eq_true] at ha
    rw [List.cons_append, List.takeWhile_cons, ha.1, if_pos rfl, ih ha.2]
theorem drop_takeWhile (l : List UInt8) : l.drop (l.takeWhile isDig).length = l.dropWhile isDig := by
  have h : l.takeWhile isDig ++ l.dropWhile isDig = l := List.takeWhile_append_dropWhile
  conv => lhs; rw [← h]
  rw [List.drop_left' ?_]
  rw [h]
theorem dropWhile_head {l r : List UInt8} {b : UInt8} (h : l.dropWhile isDig = b :: r) : isDig b = false := by
  induction l with
  | nil => cases h
  | cons a l ih =>
    rw [List.dropWhile_cons] at h
    cases ha : isDig a with
    | true => rw [ha, if_pos rfl] at h; exact ih h
    | false =>
      rw [ha, if_neg (by decide)] at h
      rw [← (List.cons.inj h).1]; exact ha
theorem headBad_none (l : List UInt8) (h : ∀ b ∈ l, b ≠ 32) : headBad l (l.takeWhile isDig) = true := by
  have : (l.drop (l.takeWhile isDig).length).head? ≠ some 32 := by
    intro e
    have := List.mem_of_mem_head? (Option.mem_def.2 e)
    exact h 32 (List.drop_subset _ _ this) rfl
  unfold headBad
  rw [decide_eq_false this, Bool.not_false, Bool.or_true]
theorem headBad_bad (h r : List UInt8) (hn : ∀ b ∈ h, b ≠ 32) (ha : ¬ h.all isDig = true) : headBad (h ++ 32 :: r) ((h ++ 32 :: r).takeWhile isDig) = true := by
  have key : ((h ++ 32 :: r).dropWhile isDig).head? ≠ some 32 := by
    induction h with
    | nil => exact absurd rfl ha
    | cons b h ih =>
      rw [List.cons_append, List.dropWhile_cons]
      cases hb : isDig b with
      | true =>
        rw [if_pos rfl]
        refine ih (fun x hx => hn x (by simp [hx])) ?_
        intro h2; exact ha (by rw [List.all_cons, hb, h2]; rfl)
      | false =>
        rw [if_neg (by decide)]
        simpa using hn b (by simp)
  rw [← drop_takeWhile] at key
  unfold headBad
  rw [decide_eq_false key, Bool.not_false, Bool.or_true]
end Go.Proofs.YtgjkkhdjfppeiaaDoor
