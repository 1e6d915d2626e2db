/-
  Clean over lists, by parts: what is clean stays, what counts for nothing counts for nothing, two with 47 between are both.
-/
import Derived.Test.YtenmlenlliokkaaDoorCleanL
import Derived.Test.YtenmlenlliokkaaDoorRefText
namespace Go.Proofs.YtenmlenlliokkaaDoor
theorem step_app (p q : List UInt8) (hp : p ≠ []) : step (p ++ 47 :: q) = step p := by
  match p, hp with
  | [a], _ =>
    simp only [step, List.cons_append, List.nil_append, List.getD_cons_zero, List.getD_cons_succ, List.getD_nil, List.length_cons, List.length_nil, UInt8.toNat_ofNat]
    unfold stepN
    repeat' split
    all_goals omega
  | [a, b], _ =>
    simp only [step, List.cons_append, List.nil_append, List.getD_cons_zero, List.getD_cons_succ, List.getD_nil, List.length_cons, List.length_nil, UInt8.toNat_ofNat]
    unfold stepN
    repeat' split
    all_goals omega
  | [a, b, c], _ =>
    simp only [step, List.cons_append, List.nil_append, List.getD_cons_zero, List.getD_cons_succ, List.getD_nil, List.length_cons, List.length_nil, UInt8.toNat_ofNat]
    unfold stepN
    repeat' split
    all_goals omega
  | a :: b :: c :: d :: t, _ =>
    simp only [step, List.cons_append, List.getD_cons_zero, List.getD_cons_succ, List.length_cons, List.length_append]
    unfold stepN
    repeat' split
    all_goals omega
theorem step_47 (q : List UInt8) : step (47 :: q) = 1 := by
  simp only [step, List.getD_cons_zero, UInt8.toNat_ofNat]
  rfl
theorem goodF_app (n : Nat) : ∀ p q : List UInt8, p.length ≤ n → goodL (p ++ 47 :: q) = (goodL p && goodL q) := by
  induction n with
  | zero =>
    intro p q h
    have : p = [] := List.length_eq_zero_iff.1 (by omega)
    subst this
    show goodF (q.length + 1) (47 :: q) = (true && goodL q)
    rw [goodF, if_neg (by simp), step_47, if_neg (by decide)]
    rfl
  | succ n ih =>
    intro p q h
    by_cases hp : p = []
    · subst hp; exact ih [] q (by simp)
    · have e1 : goodL p = if step p = 0 then false else goodL (p.drop (step p)) := by
        unfold goodL
        cases hl : p.length with
        | zero => exact absurd (List.length_eq_zero_iff.1 hl) hp
        | succ m =>
          rw [goodF, if_neg hp]
          split
          · rfl
          · exact goodF_fuel _ _ _ (by rw [List.length_drop]; omega) (by rw [List.length_drop]; omega)
      have e2 : goodL (p ++ 47 :: q) = if step p = 0 then false else goodL (p.drop (step p) ++ 47 :: q) := by
        have hk := step_le p
        unfold goodL
        cases hl : (p ++ 47 :: q).length with
        | zero => simp at hl
        | succ m =>
          rw [goodF, if_neg (by simp), step_app _ _ hp]
          split
          · rfl
          · rw [List.drop_append_of_le_length hk]
            refine goodF_fuel _ _ _ ?_ (Nat.le_refl _)
            simp only [List.length_append, List.length_drop, List.length_cons] at hl ⊢
            omega
      rw [e1, e2]
      split
      · rfl
      · exact ih _ _ (by rw [List.length_drop]; omega)
theorem goodL_app (p q : List UInt8) : goodL (p ++ 47 :: q) = (goodL p && goodL q) := goodF_app _ p q (Nat.le_refl _)
theorem dec47 (l : List UInt8) : (∀ c ∈ l, c ≠ 47) ∨ ∃ p q, l = p ++ 47 :: q ∧ ∀ c ∈ p, c ≠ 47 := by
  induction l with
  | nil => left; simp
  | cons a l ih =>
    by_cases ha : a = 47
    · subst ha; exact .inr ⟨[], l, rfl, by simp⟩
    · rcases ih with h | ⟨p, q, e, h⟩
      · left
        intro c hc
        rcases List.mem_cons.1 hc with hc | hc
        · rw [hc]; exact ha
        · exact h c hc
      · right
        refine ⟨a :: p, q, by rw [e]; rfl, ?_⟩
        intro c hc
        rcases List.mem_cons.1 hc with hc | hc
        · rw [hc]; exact ha
        · exact h c hc
theorem ind47 {P : List UInt8 → Prop} (h1 : ∀ l, (∀ c ∈ l, c ≠ 47) → P l) (h2 : ∀ p q, (∀ c ∈ p, c ≠ 47) → P q → P (p ++ 47 :: q)) (n : Nat) : ∀ l : List UInt8, l.length ≤ n → P l := by
  induction n with
  | zero =>
    intro l hl
    have : l = [] := List.length_eq_zero_iff.1 (by omega)
    subst this
    exact h1 _ (by simp)
  | succ n ih =>
    intro l hl
    rcases dec47 l with h | ⟨p, q, e, h⟩
    · exact h1 l h
    · subst e
      refine h2 p q h (ih q ?_)
      simp only [List.length_append, List.length_cons] at hl
      omega
theorem splitB_both (x q : List UInt8) : splitB (x ++ 47 :: q) = splitB x ++ splitB q := by
  refine ind47 (P := fun x => splitB (x ++ 47 :: q) = splitB x ++ splitB q) ?_ ?_ x.length x (Nat.le_refl _)
  · intro l h; rw [splitB_app _ _ h, splitB_no _ h]; rfl
  · intro p r h ih
    rw [List.append_assoc, List.cons_append, splitB_app _ _ h, splitB_app _ _ h, ih]; rfl
theorem splitB_none (l : List UInt8) : ∀ p ∈ splitB l, ∀ c ∈ p, c ≠ 47 := by
  refine ind47 (P := fun l => ∀ p ∈ splitB l, ∀ c ∈ p, c ≠ 47) ?_ ?_ l.length l (Nat.le_refl _)
  · intro l h p hp; rw [splitB_no _ h] at hp; rw [List.mem_singleton.1 hp]; exact h
  · intro p q h ih r hr
    rw [splitB_app _ _ h] at hr
    rcases List.mem_cons.1 hr with hr | hr
    · rw [hr]; exact h
    · exact ih r hr
theorem goodL_split (l : List UInt8) : goodL l = (splitB l).all goodL := by
  refine ind47 (P := fun l => goodL l = (splitB l).all goodL) ?_ ?_ l.length l (Nat.le_refl _)
  · intro l h; rw [splitB_no _ h]; simp
  · intro p q h ih; rw [splitB_app _ _ h, goodL_app, List.all_cons, ih]
theorem joinL_cons (p : List UInt8) (ps : List (List UInt8)) (h : ps ≠ []) : joinL (p :: ps) = p ++ 47 :: joinL ps := by
  cases ps with
  | nil => exact absurd rfl h
  | cons q qs =>
    unfold joinL
    rw [Lib.join_cons, Lib.join_cons]
    simp [Lib.joinTail]
theorem joinL_one (p : List UInt8) : joinL [p] = p := Lib.join_one _ _
theorem joinL_app (ps qs : List (List UInt8)) (h1 : ps ≠ []) (h2 : qs ≠ []) : joinL (ps ++ qs) = joinL ps ++ 47 :: joinL qs := by
  induction ps with
  | nil => exact absurd rfl h1
  | cons p ps ih =>
    by_cases h : ps = []
    · subst h; rw [joinL_one]; exact joinL_cons _ _ h2
    · rw [List.cons_append, joinL_cons _ _ (by simp [h]), ih h, joinL_cons _ _ h, List.append_assoc]; rfl
theorem splitB_join (ps : List (List UInt8)) (h : ps ≠ []) (hn : ∀ p ∈ ps, ∀ c ∈ p, c ≠ 47) : splitB (joinL ps) = ps := by
  induction ps with
  | nil => exact absurd rfl h
  | cons p ps ih =>
    by_cases h2 : ps = []
    · subst h2; rw [joinL_one]; exact splitB_no _ (hn p (by simp))
    · rw [joinL_cons _ _ h2, splitB_app _ _ (hn p (by simp)), ih h2 (fun q hq => hn q (by simp [hq]))]
theorem head47 (l : List UInt8) : l.head? = some 47 ↔ ((splitB l).head? = some [] ∧ 1 < (splitB l).length) := by
  cases l with
  | nil => simp [splitB]
  | cons a t =>
    have h := splitB_ne t
    by_cases ha : a = 47
    · subst ha
      simp only [splitB, if_true, List.head?_cons, true_iff, true_and, List.length_cons]
      have := List.length_pos_iff.2 h
      omega
    · simp only [splitB, if_neg ha, List.head?_cons, Option.some.injEq, ha, false_iff]
      cases splitB t with
      | nil => simp
      | cons p ps => simp
/-- Clean, by parts. -/
def upQ (ps : List (List UInt8)) : Bool := ps.any (· == [46, 46])
def cleanQ (ps : List (List UInt8)) : List UInt8 × Int :=
  if ps.all goodL = false then ([], 9) else if ps.head? = some [] ∧ 1 < ps.length then ([], 6)
  else if upQ ps = true then ([], 6) else finC (joinL (ps.filter keepL))
theorem cleanL_Q (l : List UInt8) : cleanL l = cleanQ (splitB l) := by
  unfold cleanL cleanQ finC kept upQ
  rw [goodL_split]
  by_cases h : l.head? = some 47
  · rw [if_pos h, if_pos ((head47 l).1 h)]
  · rw [if_neg h, if_neg (fun e => h ((head47 l).2 e))]
structure OkQ (ps : List (List UInt8)) : Prop where
  good : ps.all goodL = true
  head : ¬ (ps.head? = some [] ∧ 1 < ps.length)
  up : upQ ps = false
  some : joinL (ps.filter keepL) ≠ []
  len : (joinL (ps.filter keepL)).length ≤ 200
theorem cleanQ_of {ps : List (List UInt8)} (h : OkQ ps) : cleanQ ps = (joinL (ps.filter keepL), 0) := by
  unfold cleanQ finC
  rw [if_neg (by rw [h.good]; decide), if_neg h.head, if_neg (by rw [h.up]; decide), if_neg]
  rintro (e | e)
  · exact h.some e
  · exact absurd h.len (by omega)
theorem cleanQ_cases (ps : List (List UInt8)) : (OkQ ps ∧ cleanQ ps = (joinL (ps.filter keepL), 0)) ∨ (¬ OkQ ps ∧ cleanQ ps = ([], 9)) ∨ (¬ OkQ ps ∧ cleanQ ps = ([], 6)) := by
  by_cases h : OkQ ps
  · exact .inl ⟨h, cleanQ_of h⟩
  · right
    unfold cleanQ finC
    by_cases h1 : ps.all goodL = false
    · rw [if_pos h1]; exact .inl ⟨h, rfl⟩
    · rw [if_neg h1]
      by_cases h2 : ps.head? = some [] ∧ 1 < ps.length
      · rw [if_pos h2]; exact .inr ⟨h, rfl⟩
      · rw [if_neg h2]
        by_cases h3 : upQ ps = true
        · rw [if_pos h3]; exact .inr ⟨h, rfl⟩
        · rw [if_neg h3]
          by_cases h4 : joinL (ps.filter keepL) = [] ∨ 200 < (joinL (ps.filter keepL)).length
          · rw [if_pos h4]; exact .inr ⟨h, rfl⟩
          · exfalso
            exact h ⟨by simpa using h1, h2, by simpa using h3, fun e => h4 (.inl e), by
              have : ¬ 200 < (joinL (ps.filter keepL)).length := fun e => h4 (.inr e)
              omega⟩
theorem keepL_iff (p : List UInt8) : keepL p = true ↔ p ≠ [] ∧ p ≠ [46] := by simp [keepL]
theorem OkQ.ne {ps : List (List UInt8)} (h : OkQ ps) : ps.filter keepL ≠ [] := fun e => h.some (by rw [e]; rfl)
theorem filter_twice (ps : List (List UInt8)) : (ps.filter keepL).filter keepL = ps.filter keepL := by
  rw [List.filter_filter]; congr 1; funext p; simp
theorem head_keep {ps : List (List UInt8)} {q : List (List UInt8)} (h : ps.filter keepL ≠ []) : ¬ ((ps.filter keepL ++ q).head? = some [] ∧ 1 < (ps.filter keepL ++ q).length) := by
  rintro ⟨e, -⟩
  cases hf : ps.filter keepL with
  | nil => exact h hf
  | cons p r =>
    rw [hf] at e
    have hp : p ∈ ps.filter keepL := by rw [hf]; simp
    have := (keepL_iff p).1 (List.mem_filter.1 hp).2
    simp only [List.cons_append, List.head?_cons, Option.some.injEq] at e
    exact this.1 e
theorem upQ_filter {ps : List (List UInt8)} (h : upQ ps = false) : upQ (ps.filter keepL) = false := by
  unfold upQ at *
  rw [List.any_eq_false] at *
  intro p hp
  exact h p (List.mem_filter.1 hp).1
theorem good_filter {ps : List (List UInt8)} (h : ps.all goodL = true) : (ps.filter keepL).all goodL = true := by
  rw [List.all_eq_true] at *
  intro p hp
  exact h p (List.mem_filter.1 hp).1
/-- What counts for nothing. -/
def dots (n : Nat) : List (List UInt8) := List.replicate n [46]
theorem filter_dots (n : Nat) : (dots n).filter keepL = [] := by
  induction n with
  | zero => rfl
  | succ n ih => unfold dots at *; rw [List.replicate_succ, List.filter_cons_of_neg (by decide), ih]
/-- **A clean path, with what counts for nothing, is itself.** -/
theorem ok_more {ps : List (List UInt8)} (h : OkQ ps) (i : Nat) (r : List (List UInt8)) (hr : ∀ p ∈ r, p = [] ∨ p = [46]) : OkQ (dots i ++ (ps.filter keepL ++ r)) ∧ (dots i ++ (ps.filter keepL ++ r)).filter keepL = ps.filter keepL := by
  have hrf : r.filter keepL = [] := by
    rw [List.filter_eq_nil_iff]
    intro p hp
    rcases hr p hp with e | e <;> subst e <;> decide
  have e : (dots i ++ (ps.filter keepL ++ r)).filter keepL = ps.filter keepL := by
    rw [List.filter_append, List.filter_append, filter_dots, filter_twice, hrf]; simp
  refine ⟨⟨?_, ?_, ?_, by rw [e]; exact h.some, by rw [e]; exact h.len⟩, e⟩
  · rw [List.all_append, List.all_append, good_filter h.good, List.all_eq_true.2, List.all_eq_true.2]
    · rfl
    · intro p hp
      rcases hr p hp with e | e <;> subst e <;> decide
    · intro p hp
      rw [List.eq_of_mem_replicate hp]; decide
  · cases i with
    | zero => exact head_keep h.ne
    | succ i => unfold dots; rw [List.replicate_succ]; simp
  · unfold upQ
    rw [List.any_append, List.any_append, show (ps.filter keepL).any (· == [46, 46]) = false from upQ_filter h.up, List.any_eq_false.2, List.any_eq_false.2]
    · rfl
    · intro p hp
      rcases hr p hp with e | e <;> subst e <;> decide
    · intro p hp
      rw [List.eq_of_mem_replicate hp]; decide
theorem no_head {ps qs : List (List UInt8)} (h : OkQ ps) : ¬ (ps ++ qs).head? = some [] := by
  cases ps with
  | nil => exact absurd rfl h.ne
  | cons p r =>
    rintro e
    simp only [List.cons_append, List.head?_cons, Option.some.injEq] at e
    subst e
    cases r with
    | nil => exact h.ne rfl
    | cons q r => exact h.head ⟨rfl, by simp⟩
theorem both_long {ps qs : List (List UInt8)} (h1 : OkQ ps) (h2 : OkQ qs) (hl : 200 < (joinL (ps.filter keepL)).length + (joinL (qs.filter keepL)).length + 1) : cleanQ (ps ++ qs) = ([], 6) := by
  have e : joinL ((ps ++ qs).filter keepL) = joinL (ps.filter keepL) ++ 47 :: joinL (qs.filter keepL) := by rw [List.filter_append, joinL_app _ _ h1.ne h2.ne]
  have a1 := h1.up
  have a2 := h2.up
  unfold upQ at a1 a2
  unfold cleanQ finC upQ
  rw [if_neg (by rw [List.all_append, h1.good, h2.good]; decide), if_neg (fun x => no_head h1 x.1), if_neg (by rw [List.any_append, a1, a2]; decide), if_pos]
  right
  rw [e]
  simp only [List.length_append, List.length_cons]; omega
theorem ok_both {ps qs : List (List UInt8)} (h1 : OkQ ps) (h2 : OkQ qs) (hl : (joinL (ps.filter keepL)).length + (joinL (qs.filter keepL)).length + 1 ≤ 200) :
    cleanQ (ps ++ qs) = (joinL (ps.filter keepL) ++ 47 :: joinL (qs.filter keepL), 0) := by
  have e : joinL ((ps ++ qs).filter keepL) = joinL (ps.filter keepL) ++ 47 :: joinL (qs.filter keepL) := by rw [List.filter_append, joinL_app _ _ h1.ne h2.ne]
  rw [cleanQ_of, e]
  refine ⟨by rw [List.all_append, h1.good, h2.good]; rfl, ?_, ?_, by rw [e]; simp, by rw [e]; simp only [List.length_append, List.length_cons]; omega⟩
  · exact fun x => no_head h1 x.1
  · have a1 := h1.up
    have a2 := h2.up
    unfold upQ at *
    rw [List.any_append, a1, a2]; rfl
end Go.Proofs.YtenmlenlliokkaaDoor
