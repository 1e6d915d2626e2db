/-
  The statements' functions of bindlelaw05, as printed, answer true.
-/
import Derived.Test.YtenmlenlliokkaaDoorPathLaws
import Derived.Test.YtenmlenlliokkaaDoorRefClean
import Derived.Test.YtenmlenlliokkaaDoorPrint6
import Derived.Test.YtenmlenlliokkaaDoorPrint7
import Derived.Test.YtenmlenlliokkaaDoorPrint8
import Derived.Test.YtenmlenlliokkaaDoorPrint9
import Derived.Test.YtenmlenlliokkaaDoorPrint10
namespace Go.Proofs.YtenmlenlliokkaaDoor
open Go.RowKit Go.Proofs.YtenmlenlliokkaaDoor.Print Go.Proofs.YtenmlenlliokkaaDoorW.PrintWords
theorem clean_some (s : ByteArray) (h : s.size ≤ 8000000000000) : path_Clean.f s = some (ofL (cleanL s.data.toList).1, (cleanL s.data.toList).2) := by
  unfold path_Clean.f
  rw [if_pos h, cleanF_L]
theorem target_some (s : ByteArray) (h : s.size ≤ 8000000000000) : path_Target.f s = some (if rightB s = true then (if s.data.toList = [] then 6 else if 200 < s.size then 6 else 0) else 9) := by
  unfold path_Target.f path_right.f
  rw [if_pos h, Option.bind_some, Lib.toList_data]
  split
  · split
    · rfl
    · split
      · rw [if_pos (by omega)]
      · rw [if_neg (by omega)]
  · rfl
theorem answers_true : bindlelaw05_answers.f = some true := by
  unfold bindlelaw05_answers.f
  rw [clean_some _ (by decide), clean_some _ (by decide)]
  rw [show cleanL ((⟨#[46, 47, 97, 47, 47, 98, 47]⟩ : ByteArray)).data.toList = ([97, 47, 98], 0) from by decide, show cleanL ((⟨#[97, 47, 46, 46, 47, 98]⟩ : ByteArray)).data.toList = ([], 6) from by decide]
  rw [target_some _ (by decide), show rightB (⟨#[]⟩ : ByteArray) = true from (rightB_good _).trans rfl]
  unfold path_Less.f
  simp only [Option.bind_some, Lib.toList_data, data_ofL, if_true]
  rfl
/-! PathCleans -/
theorem PathCleans_true (s : ByteArray) : Ev (fun k => bindlelaw05_PathCleans.f k s) true := by
  by_cases h : (s.size : Int) > 1000
  · exact Ev.congr (fun k => by unfold bindlelaw05_PathCleans.f; rw [if_pos h, answers_true]; rfl) (Ev.now true)
  · have hc : path_Clean.f s = some (cleanF s) := by unfold path_Clean.f; rw [if_pos (by omega)]
    refine Ev.congr (fun k => by unfold bindlelaw05_PathCleans.f; rw [if_neg h, hc, Option.bind_some]) ?_
    refine Ev.bind (RefClean_eq s (by omega)) ?_
    exact Ev.congr (fun k => by rw [answers_true, Option.bind_some, if_pos rfl, if_pos rfl, beq_self_eq_true]) (Ev.now true)
/-! PathTargets -/
theorem PathTargets_true (s : ByteArray) : Ev (fun k => bindlelaw05_PathTargets.f k s) true := by
  by_cases h : (s.size : Int) > 1000
  · exact Ev.congr (fun k => by unfold bindlelaw05_PathTargets.f; rw [if_pos h, answers_true]; rfl) (Ev.now true)
  · have ht := target_some s (by omega)
    refine Ev.congr (fun k => by unfold bindlelaw05_PathTargets.f; rw [if_neg h]) ?_
    refine Ev.bind (Text_eq s (by omega)) ?_
    cases hr : rightB s with
    | false =>
      rw [hr] at ht
      exact Ev.congr (fun k => by rw [if_neg (by decide), answers_true, Option.bind_some, if_pos rfl, ht]; rfl) (Ev.now true)
    | true =>
      rw [hr, if_pos rfl] at ht
      by_cases h0 : s.data.toList = []
      · refine Ev.congr (f := fun k => bindlelaw05_PathTargets.j0 k s 0 true) (fun k => by rw [if_pos rfl, if_pos (by rw [Lib.toList_data]; exact h0)]) ?_
        rw [if_pos h0] at ht
        exact Ev.step (fun k => by rw [bindlelaw05_PathTargets.j0, if_pos rfl, answers_true, Option.bind_some, if_pos rfl, ht]; rfl) (Ev.now true)
      · refine Ev.congr (f := fun k => bindlelaw05_PathTargets.j0 k s 0 (decide ((s.size : Int) > 200))) (fun k => by rw [if_pos rfl, if_neg (by rw [Lib.toList_data]; exact h0)]) ?_
        rw [if_neg h0] at ht
        by_cases h2 : 200 < s.size
        · rw [if_pos h2] at ht
          exact Ev.step (fun k => by rw [bindlelaw05_PathTargets.j0, if_pos (by simpa using (show (200 : Int) < s.size by omega)), answers_true, Option.bind_some, if_pos rfl, ht]; rfl) (Ev.now true)
        · rw [if_neg h2] at ht
          exact Ev.step (fun k => by rw [bindlelaw05_PathTargets.j0, if_neg (by simpa using (show (s.size : Int) ≤ 200 by omega)), answers_true, Option.bind_some, if_pos rfl, ht]; rfl) (Ev.now true)
/-! PathFixed -/
section
variable {ps : List (List UInt8)}
/-- The path with i times ./ ahead and j times /. behind. -/
def moreL (ps : List (List UInt8)) (i j : Nat) : List (List UInt8) := dots i ++ (ps.filter keepL ++ dots j)
theorem kept_ne_nil {ps : List (List UInt8)} (h : OkQ ps) : ps.filter keepL ≠ [] := h.ne
theorem more_ahead (h : OkQ ps) (i : Nat) : joinL (moreL ps (i + 1) 0) = [46, 47] ++ joinL (moreL ps i 0) := by
  unfold moreL dots
  rw [List.replicate_succ, List.cons_append, joinL_cons _ _ (by simp [h.ne])]
  rfl
theorem more_behind (h : OkQ ps) (i j : Nat) : joinL (moreL ps i (j + 1)) = joinL (moreL ps i j) ++ [47, 46] := by
  unfold moreL dots
  rw [List.replicate_succ', ← List.append_assoc (ps.filter keepL), ← List.append_assoc (List.replicate i [46]), joinL_app _ _ (by simp [h.ne]) (by simp), joinL_one]
theorem split_more (h : OkQ ps) (hn : ∀ p ∈ ps, ∀ c ∈ p, c ≠ 47) (i j : Nat) : splitB (joinL (moreL ps i j)) = moreL ps i j := by
  refine splitB_join _ (by simp [moreL, h.ne]) ?_
  intro p hp
  simp only [moreL, List.mem_append] at hp
  have hd : ∀ n, p ∈ dots n → ∀ c ∈ p, c ≠ 47 := by
    intro n hm c hc
    rw [List.eq_of_mem_replicate hm] at hc
    rw [List.mem_singleton.1 hc]; decide
  rcases hp with hp | hp | hp
  · exact hd _ hp
  · exact hn p (List.mem_filter.1 hp).1
  · exact hd _ hp
theorem clean_more (h : OkQ ps) (hn : ∀ p ∈ ps, ∀ c ∈ p, c ≠ 47) (i j : Nat) : cleanL (joinL (moreL ps i j) ++ [47]) = (joinL (ps.filter keepL), 0) := by
  have e : splitB (joinL (moreL ps i j) ++ [47]) = dots i ++ (ps.filter keepL ++ (dots j ++ [[]])) := by
    rw [splitB_both, split_more h hn]
    simp only [moreL, splitB, List.append_assoc]
  have hk := ok_more h i (dots j ++ [[]]) (by
    intro p hp
    rcases List.mem_append.1 hp with hp | hp
    · right; exact List.eq_of_mem_replicate hp
    · left; exact List.mem_singleton.1 hp)
  rw [cleanL_Q, e, cleanQ_of hk.1, hk.2]
theorem clean_again (h : OkQ ps) (hn : ∀ p ∈ ps, ∀ c ∈ p, c ≠ 47) : cleanL (joinL (ps.filter keepL)) = (joinL (ps.filter keepL), 0) := by
  have hk := ok_more h 0 [] (by simp)
  have e : ps.filter keepL = dots 0 ++ (ps.filter keepL ++ []) := by simp [dots]
  rw [cleanL_Q, splitB_join _ h.ne (fun p hp => hn p (List.mem_filter.1 hp).1)]
  rw [e, cleanQ_of hk.1, hk.2, ← e]
theorem more_len (h : OkQ ps) (i j : Nat) : (joinL (moreL ps i j)).length ≤ 200 + 2 * i + 2 * j := by
  induction j with
  | zero =>
    induction i with
    | zero =>
      have : moreL ps 0 0 = ps.filter keepL := by simp [moreL, dots]
      rw [this]; have := h.len; omega
    | succ i ih => rw [more_ahead h]; simp only [List.length_append, List.length_cons, List.length_nil]; omega
  | succ j ih => rw [more_behind h]; simp only [List.length_append, List.length_cons, List.length_nil]; omega
theorem joined_head (h : OkQ ps) (hn : ∀ p ∈ ps, ∀ c ∈ p, c ≠ 47) : (joinL (ps.filter keepL)).getD 0 0 ≠ 47 := by
  intro e
  have hne := h.some
  cases hj : joinL (ps.filter keepL) with
  | nil => exact hne hj
  | cons a t =>
    rw [hj] at e
    simp only [List.getD_cons_zero] at e
    have h1 := (head47 (joinL (ps.filter keepL))).1 (by rw [hj, e]; rfl)
    rw [splitB_join _ h.ne (fun p hp => hn p (List.mem_filter.1 hp).1)] at h1
    have h2 := head_keep (q := []) h.ne
    rw [List.append_nil] at h2
    exact h2 h1
theorem w64_mod (x : Int) : wrap64 (Int.tmod x 4) < 4 := by
  have h1 := Int.tmod_lt_of_pos x (show (0 : Int) < 4 by decide)
  have h2 := Int.lt_tmod_of_pos x (show (0 : Int) < 4 by decide)
  unfold wrap64
  omega
theorem fixed_end (h : OkQ ps) (hn : ∀ p ∈ ps, ∀ c ∈ p, c ≠ 47) (x2 : Int) (i j : Nat) (hi : i ≤ 4) (hj : j ≤ 4) (c : ¬ (j : Int) < wrap64 (Int.tmod x2 4)) :
    Ev (fun k => bindlelaw05_PathFixed.l1 k x2 (ofL (joinL (ps.filter keepL))) (ofL (joinL (moreL ps i j))) j) true := by
  have hl := more_len h i j
  have hl2 := h.len
  have hp := List.length_pos_iff.2 h.some
  have hb := joined_head h hn
  have hb2 : bt (ofL (joinL (ps.filter keepL))) 0 ≠ 47 := by
    have := bt_getD (ofL (joinL (ps.filter keepL))) 0
    rw [data_ofL] at this
    rw [show (0 : Int) = ((0 : Nat) : Int) from rfl, this]
    intro e
    exact hb (UInt8.toNat_inj.1 (show ((joinL (ps.filter keepL)).getD 0 0).toNat = 47 by omega))
  refine Ev.step (fun k => ?_) (Ev.now true)
  rw [bindlelaw05_PathFixed.l1, if_neg c, clean_some _ (by rw [size_ofL]; omega), Option.bind_some, if_pos (by rw [size_ofL]; omega), show (⟨#[47]⟩ : ByteArray) = ofL [47] from rfl, ofL_app,
    clean_some _ (by rw [size_ofL, List.length_append]; simp only [List.length_cons, List.length_nil]; omega), Option.bind_some, answers_true, Option.bind_some, if_pos rfl]
  simp only [data_ofL]
  rw [clean_again h hn, clean_more h hn, if_pos rfl, if_pos rfl, if_pos rfl, if_pos rfl, if_pos (by rw [size_ofL]; omega), if_neg hb2, decide_eq_true (by rw [size_ofL]; omega)]
/-- The loop behind. -/
theorem Fixed_l1 (h : OkQ ps) (hn : ∀ p ∈ ps, ∀ c ∈ p, c ≠ 47) (x2 : Int) (i : Nat) (hi : i ≤ 4) (n : Nat) : ∀ j : Nat, j ≤ 4 → 4 - j = n →
    Ev (fun k => bindlelaw05_PathFixed.l1 k x2 (ofL (joinL (ps.filter keepL))) (ofL (joinL (moreL ps i j))) j) true := by
  induction n with
  | zero =>
    intro j hj hn'
    have : j = 4 := by omega
    subst this
    exact fixed_end h hn x2 i 4 hi (Nat.le_refl _) (by have := w64_mod x2; omega)
  | succ n ih =>
    intro j hj hn'
    by_cases c : (j : Int) < wrap64 (Int.tmod x2 4)
    · have hl := more_len h i j
      refine Ev.step (f := fun k => bindlelaw05_PathFixed.l1 k x2 (ofL (joinL (ps.filter keepL))) (ofL (joinL (moreL ps i (j + 1)))) ((j + 1 : Nat) : Int)) (fun k => ?_) (ih (j + 1) (by omega) (by omega))
      rw [bindlelaw05_PathFixed.l1, if_pos c, if_pos (by rw [size_ofL]; omega), show (⟨#[47, 46]⟩ : ByteArray) = ofL [47, 46] from rfl, ofL_app, ← more_behind h, w64 (by omega) (by omega)]
      rfl
    · exact fixed_end h hn x2 i j hi hj c
/-- The loop ahead. -/
theorem Fixed_l0 (h : OkQ ps) (hn : ∀ p ∈ ps, ∀ c ∈ p, c ≠ 47) (x1 x2 : Int) (n : Nat) : ∀ i : Nat, i ≤ 4 → 4 - i = n →
    Ev (fun k => bindlelaw05_PathFixed.l0 k x1 x2 (ofL (joinL (ps.filter keepL))) (ofL (joinL (moreL ps i 0))) i) true := by
  have hend : ∀ i : Nat, i ≤ 4 → ¬ (i : Int) < wrap64 (Int.tmod x1 4) → Ev (fun k => bindlelaw05_PathFixed.l0 k x1 x2 (ofL (joinL (ps.filter keepL))) (ofL (joinL (moreL ps i 0))) i) true := by
    intro i hi c
    exact Ev.step (f := fun k => bindlelaw05_PathFixed.l1 k x2 (ofL (joinL (ps.filter keepL))) (ofL (joinL (moreL ps i 0))) ((0 : Nat) : Int)) (fun k => by rw [bindlelaw05_PathFixed.l0, if_neg c]; rfl) (Fixed_l1 h hn x2 i hi 4 0 (by omega) rfl)
  induction n with
  | zero =>
    intro i hi hn'
    exact hend i hi (by have := w64_mod x1; omega)
  | succ n ih =>
    intro i hi hn'
    by_cases c : (i : Int) < wrap64 (Int.tmod x1 4)
    · have hl := more_len h i 0
      refine Ev.step (f := fun k => bindlelaw05_PathFixed.l0 k x1 x2 (ofL (joinL (ps.filter keepL))) (ofL (joinL (moreL ps (i + 1) 0))) ((i + 1 : Nat) : Int)) (fun k => ?_) (ih (i + 1) (by omega) (by omega))
      rw [bindlelaw05_PathFixed.l0, if_pos c, if_pos (by rw [size_ofL]; omega), show (⟨#[46, 47]⟩ : ByteArray) = ofL [46, 47] from rfl, ofL_app, ← more_ahead h, w64 (by omega) (by omega)]
      rfl
    · exact hend i hi c
end
theorem PathFixed_true (s : ByteArray) (x1 x2 : Int) : Ev (fun k => bindlelaw05_PathFixed.f k s x1 x2) true := by
  by_cases h : (s.size : Int) > 500
  · exact Ev.congr (fun k => by unfold bindlelaw05_PathFixed.f; rw [if_pos h, answers_true]; rfl) (Ev.now true)
  · have hc := clean_some s (by omega)
    rw [cleanL_Q] at hc
    rcases cleanQ_cases (splitB s.data.toList) with ⟨ho, e⟩ | ⟨-, e⟩ | ⟨-, e⟩
    · refine Ev.congr (f := fun k => bindlelaw05_PathFixed.l0 k x1 x2 (ofL (joinL ((splitB s.data.toList).filter keepL))) (ofL (joinL (moreL (splitB s.data.toList) 0 0))) ((0 : Nat) : Int)) (fun k => ?_) (Fixed_l0 ho (splitB_none _) x1 x2 4 0 (by omega) rfl)
      have hm : moreL (splitB s.data.toList) 0 0 = (splitB s.data.toList).filter keepL := by simp [moreL, dots]
      unfold bindlelaw05_PathFixed.f
      rw [if_neg h, hc, e, Option.bind_some, if_pos rfl, hm]
      rfl
    · exact Ev.congr (fun k => by unfold bindlelaw05_PathFixed.f; rw [if_neg h, hc, e, Option.bind_some, if_neg (by decide), answers_true, Option.bind_some, if_pos rfl, toL_ofL]; rfl) (Ev.now true)
    · exact Ev.congr (fun k => by unfold bindlelaw05_PathFixed.f; rw [if_neg h, hc, e, Option.bind_some, if_neg (by decide), answers_true, Option.bind_some, if_pos rfl, toL_ofL]; rfl) (Ev.now true)
/-! PathJoins -/
theorem Joins_bad {x y z : List UInt8} {e f g : Int} (h : e = 0 → f = 0 ∨ y = []) : Ev (fun k => bindlelaw05_PathJoins.j0 k (ofL x) e (ofL y) f (ofL z) g true) true := by
  refine Ev.step (fun k => ?_) (Ev.now true)
  rw [bindlelaw05_PathJoins.j0, if_pos rfl, answers_true, Option.bind_some, if_pos rfl]
  by_cases he : e = 0
  · rw [if_pos he]
    by_cases hf : f = 0
    · rw [if_pos hf]
    · rw [if_neg hf, toL_ofL]
      rcases h he with h | h
      · exact absurd h hf
      · rw [h]; rfl
  · rw [if_neg he]
theorem PathJoins_true (a b : ByteArray) (ha : a.size ≤ 140737488351232) (hb : b.size ≤ 140737488351232) : Ev (fun k => bindlelaw05_PathJoins.f k a b) true := by
  have hw : wrap64 ((a.size : Int) + (b.size : Int)) = (a.size : Int) + (b.size : Int) := w64 (by omega) (by omega)
  by_cases h : (a.size : Int) + (b.size : Int) > 1000
  · exact Ev.congr (fun k => by unfold bindlelaw05_PathJoins.f; rw [hw, if_pos h, answers_true]; rfl) (Ev.now true)
  · have h1 := clean_some a (by omega)
    have h2 := clean_some b (by omega)
    have es : ((a ++ (⟨#[47]⟩ : ByteArray)) ++ b).data.toList = a.data.toList ++ 47 :: b.data.toList := by
      rw [ByteArray.data_append, ByteArray.data_append]; simp
    have e1 : (a ++ (⟨#[47]⟩ : ByteArray)).size = a.size + 1 := by rw [ByteArray.size_append]; rfl
    have h3 := clean_some ((a ++ (⟨#[47]⟩ : ByteArray)) ++ b) (by rw [ByteArray.size_append, e1]; omega)
    rw [cleanL_Q] at h1 h2
    rw [es, cleanL_Q, splitB_both] at h3
    refine Ev.congr (fun k => by unfold bindlelaw05_PathJoins.f; rw [hw, if_neg h, h1, Option.bind_some, h2, Option.bind_some, if_pos (by omega), if_pos (by rw [e1]; omega), h3, Option.bind_some]) ?_
    rcases cleanQ_cases (splitB a.data.toList) with ⟨o1, c1⟩ | ⟨-, c1⟩ | ⟨-, c1⟩
    · rw [c1]
      simp only [if_true]
      rcases cleanQ_cases (splitB b.data.toList) with ⟨o2, c2⟩ | ⟨-, c2⟩ | ⟨-, c2⟩
      · rw [c2]
        have l1 := o1.len
        have l2 := o2.len
        have ew : wrap64 (wrap64 (((ofL (joinL ((splitB a.data.toList).filter keepL))).size : Int) + ((ofL (joinL ((splitB b.data.toList).filter keepL))).size : Int)) + 1) = ((joinL ((splitB a.data.toList).filter keepL)).length : Int) + ((joinL ((splitB b.data.toList).filter keepL)).length : Int) + 1 := by
          rw [size_ofL, size_ofL]
          unfold wrap64
          omega
        by_cases hl : (joinL ((splitB a.data.toList).filter keepL)).length + (joinL ((splitB b.data.toList).filter keepL)).length + 1 ≤ 200
        · rw [ok_both o1 o2 hl]
          refine Ev.step (fun k => ?_) (Ev.now true)
          rw [bindlelaw05_PathJoins.j0, if_neg (by simp), ew, if_neg (by omega), answers_true, Option.bind_some, if_pos rfl, if_pos rfl, if_pos (by rw [size_ofL]; omega), show (⟨#[47]⟩ : ByteArray) = ofL [47] from rfl, ofL_app, if_pos (by rw [size_ofL, size_ofL, List.length_append]; simp only [List.length_cons, List.length_nil]; omega), ofL_app, toL_ofL, toL_ofL, List.append_assoc]
          simp
        · rw [both_long o1 o2 (by omega)]
          refine Ev.step (fun k => ?_) (Ev.now true)
          rw [bindlelaw05_PathJoins.j0, if_neg (by simp), ew, if_pos (by omega), answers_true, Option.bind_some, if_pos rfl, if_pos rfl, toL_ofL]
          rfl
      · rw [c2]; exact Joins_bad (fun _ => .inr rfl)
      · rw [c2]; exact Joins_bad (fun _ => .inr rfl)
    · rw [c1]; exact Joins_bad (fun e => by cases e)
    · rw [c1]; exact Joins_bad (fun e => by cases e)
/-! PathLess -/
theorem less_self (l : List UInt8) : Op.bytesLess l l = false := by
  induction l with
  | nil => rfl
  | cons a l ih => simp [Op.bytesLess, ih]
theorem less_more (l : List UInt8) (c : UInt8) (r : List UInt8) : Op.bytesLess l (l ++ c :: r) = true := by
  induction l with
  | nil => rfl
  | cons a l ih => simp [Op.bytesLess, ih]
theorem less_app (l x y : List UInt8) : Op.bytesLess (l ++ x) (l ++ y) = Op.bytesLess x y := by
  induction l with
  | nil => rfl
  | cons a l ih => simp [Op.bytesLess, ih]
theorem less_not (x : List UInt8) : ∀ y : List UInt8, Op.bytesLess x y = true → Op.bytesLess y x = false := by
  induction x with
  | nil => intro y _; cases y <;> rfl
  | cons a x ih =>
    intro y h
    cases y with
    | nil => simp [Op.bytesLess] at h
    | cons b y =>
      simp only [Op.bytesLess, Bool.or_eq_true, Bool.and_eq_true, decide_eq_true_eq, beq_iff_eq, Bool.or_eq_false_iff, decide_eq_false_iff_not] at h ⊢
      rcases h with h | ⟨rfl, h⟩
      · refine ⟨UInt8.not_lt.2 (UInt8.le_of_lt h), ?_⟩
        have : (b == a) = false := by
          simp only [beq_eq_false_iff_ne, ne_eq]
          rintro rfl
          exact UInt8.lt_irrefl _ h
        rw [this]; rfl
      · exact ⟨UInt8.lt_irrefl _, by rw [ih y h]; simp⟩
section
variable {a b : ByteArray} (ha : a.size ≤ 140737488351232)
include ha
theorem Less_j2 (x : Int) {w : Bool} (hw : w = Op.bytesLess a.data.toList b.data.toList) : Ev (fun k => bindlelaw05_PathLess.j2 k a b x w) true := by
  have hl : (strOfNums [x]).data.toList.length = 1 := by rw [Array.length_toList]; rfl
  have ho : ∀ l : List UInt8, l.length = 1 → l = [l.headD 0] := by
    intro l h
    match l, h with
    | [u], _ => rfl
  have hs : (strOfNums [x]).data.toList = [(strOfNums [x]).data.toList.headD 0] := ho _ hl
  have hz : (strOfNums [x]).size = 1 := hl
  refine Ev.step (fun k => ?_) (Ev.now true)
  rw [bindlelaw05_PathLess.j2, answers_true, Option.bind_some, if_pos rfl]
  unfold path_Less.f
  simp only [Option.bind_some, Lib.toList_data, ByteArray.data_append, Array.toList_append]
  rw [hw, if_pos (by simp), less_self, if_neg (by decide), if_pos (by omega)]
  rw [hs, less_more, if_pos rfl]
  cases hl : Op.bytesLess a.data.toList b.data.toList with
  | false => rfl
  | true => rw [if_pos rfl, less_not _ _ hl]; rfl
theorem Less_j1 (x : Int) (n : Nat) (hn1 : n ≤ a.size) (hn2 : n ≤ b.size) (he : a.data.toList.take n = b.data.toList.take n) (hne : n < a.size → n < b.size → a.data.toList.getD n 0 ≠ b.data.toList.getD n 0) :
    Ev (fun k => bindlelaw05_PathLess.j1 k a b x n) true := by
  have e : Op.bytesLess a.data.toList b.data.toList = Op.bytesLess (a.data.toList.drop n) (b.data.toList.drop n) := by
    conv => lhs; rw [← List.take_append_drop n a.data.toList, ← List.take_append_drop n b.data.toList, he, less_app]
  have la : a.data.toList.length = a.size := by simp
  have lb : b.data.toList.length = b.size := by simp
  have ga := bt_getD a n
  have gb := bt_getD b n
  by_cases h1 : n = a.size
  · rw [List.drop_eq_nil_of_le (by omega)] at e
    by_cases h2 : n < b.size
    · refine Ev.step (fun k => by rw [bindlelaw05_PathLess.j1, if_pos (by omega), if_pos (by omega)]) (Less_j2 ha x ?_)
      rw [e, List.drop_eq_getElem_cons (by omega)]; rfl
    · refine Ev.step (fun k => by rw [bindlelaw05_PathLess.j1, if_pos (by omega), if_neg (by omega), if_neg (by omega)]) (Less_j2 ha x ?_)
      rw [e, List.drop_eq_nil_of_le (by omega)]; rfl
  · by_cases h2 : n < b.size
    · refine Ev.step (fun k => by rw [bindlelaw05_PathLess.j1, if_neg (by omega), if_pos (by omega), if_pos (by omega), if_pos (by omega)]) (Less_j2 ha x ?_)
      have hd := hne (by omega) h2
      rw [e, List.drop_eq_getElem_cons (by omega), List.drop_eq_getElem_cons (l := b.data.toList) (by omega), ga, gb]
      have ea : a.data.toList.getD n 0 = a.data.toList[n]'(by omega) := by rw [List.getD_eq_getElem?_getD, List.getElem?_eq_getElem (by omega)]; rfl
      have eb : b.data.toList.getD n 0 = b.data.toList[n]'(by omega) := by rw [List.getD_eq_getElem?_getD, List.getElem?_eq_getElem (by omega)]; rfl
      rw [ea, eb] at hd
      rw [ea, eb]
      have hne' : (a.data.toList[n]'(by omega) == b.data.toList[n]'(by omega)) = false := beq_eq_false_iff_ne.2 hd
      rw [Op.bytesLess, hne', Bool.false_and, Bool.or_false]
      apply decide_eq_decide.2
      rw [UInt8.lt_iff_toNat_lt]
      omega
    · refine Ev.step (fun k => by rw [bindlelaw05_PathLess.j1, if_neg (by omega), if_pos (by omega), if_neg (by omega)]) (Less_j2 ha x ?_)
      rw [e, (List.drop_eq_nil_of_le (by omega) : b.data.toList.drop n = [])]
      cases a.data.toList.drop n <;> rfl
theorem Less_l0 (x : Int) (m : Nat) : ∀ n : Nat, n ≤ a.size → n ≤ b.size → a.size - n = m → a.data.toList.take n = b.data.toList.take n → Ev (fun k => bindlelaw05_PathLess.l0 k a b x n) true := by
  have la : a.data.toList.length = a.size := by simp
  have lb : b.data.toList.length = b.size := by simp
  induction m with
  | zero =>
    intro n h1 h2 hm he
    exact Ev.step (fun k => by rw [bindlelaw05_PathLess.l0, if_neg (by omega)]) (Less_j1 ha x n h1 h2 he (fun h => by omega))
  | succ m ih =>
    intro n h1 h2 hm he
    by_cases hb : n < b.size
    · have ga := bt_getD a n
      have gb := bt_getD b n
      by_cases hc : a.data.toList.getD n 0 = b.data.toList.getD n 0
      · refine Ev.step (f := fun k => bindlelaw05_PathLess.l0 k a b x ((n + 1 : Nat) : Int)) (fun k => ?_) (ih (n + 1) (by omega) (by omega) (by omega) ?_)
        · rw [bindlelaw05_PathLess.l0, if_pos (by omega), if_pos (by omega), if_pos (by omega), if_pos (by rw [ga, gb, hc]), w64 (by omega) (by omega)]
          rfl
        · have ea : a.data.toList.getD n 0 = a.data.toList[n]'(by omega) := by rw [List.getD_eq_getElem?_getD, List.getElem?_eq_getElem (by omega)]; rfl
          have eb : b.data.toList.getD n 0 = b.data.toList[n]'(by omega) := by rw [List.getD_eq_getElem?_getD, List.getElem?_eq_getElem (by omega)]; rfl
          rw [List.take_succ_eq_append_getElem (by omega), List.take_succ_eq_append_getElem (l := b.data.toList) (by omega), he, ← ea, ← eb, hc]
      · have hnb : ¬ bt a (n : Int) = bt b (n : Int) := by
          rw [ga, gb]
          intro e
          exact hc (UInt8.toNat_inj.1 (by omega))
        exact Ev.step (fun k => by rw [bindlelaw05_PathLess.l0, if_pos (by omega), if_pos (by omega), if_pos (by omega), if_neg hnb]) (Less_j1 ha x n h1 h2 he (fun _ _ => hc))
    · exact Ev.step (fun k => by rw [bindlelaw05_PathLess.l0, if_pos (by omega), if_neg (by omega)]) (Less_j1 ha x n h1 h2 he (fun _ h => by omega))
theorem PathLess_true (x : Int) : Ev (fun k => bindlelaw05_PathLess.f k a b x) true :=
  Ev.congr (f := fun k => bindlelaw05_PathLess.l0 k a b x ((0 : Nat) : Int)) (fun _ => rfl) (Less_l0 ha x a.size 0 (by omega) (by omega) (by omega) rfl)
end
end Go.Proofs.YtenmlenlliokkaaDoor
