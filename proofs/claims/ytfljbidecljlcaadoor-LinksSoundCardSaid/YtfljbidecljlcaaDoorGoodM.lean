/-
  member.Good and the reference's Good, as printed, are goodM.
-/
import Derived.Test.YtfljbidecljlcaaDoorTreeP
import Derived.Test.YtfljbidecljlcaaDoorHandPath
import Derived.Test.YtfljbidecljlcaaDoorRefClean
import Derived.Test.YtfljbidecljlcaaDoorPrint42
import Derived.Test.YtfljbidecljlcaaDoorPrint16
namespace Go.Proofs.YtfljbidecljlcaaDoor
open Go.RowKit Go.Proofs.YtfljbidecljlcaaDoor.Print Go.Proofs.YtfljbidecljlcaaDoorW.PrintWords
theorem beq_dec {α : Type} [BEq α] [LawfulBEq α] [DecidableEq α] (a b : α) : (a == b) = decide (a = b) := by
  rw [Bool.eq_iff_iff, beq_iff_eq, decide_eq_true_eq]
theorem mclean_f (s : ByteArray) (h2 : s.size ≤ 8000000000000) : member_clean.f s = some (cleanOk s) := by
  have e : path_Clean.f s = some (cleanF s) := by unfold path_Clean.f; rw [if_pos h2]
  unfold member_clean.f cleanOk
  rw [e, Option.bind_some, beq_dec]
  by_cases h0 : (cleanF s).2 = 0
  · rw [if_pos h0, decide_eq_true h0, Bool.true_and]
    congr 1
    exact decide_eq_decide.2 ⟨fun h => h.symm, fun h => h.symm⟩
  · rw [if_neg h0, decide_eq_false h0]; rfl
theorem rclean_f (s : ByteArray) (h : s.size ≤ 140737488351232) : Ev (fun k => bindleref08_clean.f k s) (cleanOk s) := by
  refine Ev.congr (f := fun k => (bindleref01_Clean.f k s).bind fun bt => (if bt.2 = 0 then (some (s.toList == bt.1.toList)) else (some false))) (fun k => rfl) (Ev.bind (RefClean_eq s (by omega)) ?_)
  refine Ev.congr (fun k => ?_) (Ev.now _)
  unfold cleanOk
  rw [beq_dec]
  by_cases h0 : (cleanF s).2 = 0
  · rw [if_pos h0, decide_eq_true h0, Bool.true_and]
  · rw [if_neg h0, decide_eq_false h0]; rfl
theorem mmeta_f (m : Met) : member_meta.f m.f0 m.f1 m.f2 m.f3 = some (metaOk m) := by
  unfold member_meta.f num_In.f metaOk
  have hd : ∀ (a b c : Int), (if a ≥ b then some (decide (a ≤ c)) else some false) = some (decide (b ≤ a ∧ a ≤ c)) := by
    intro a b c
    split
    · congr 1; exact decide_eq_decide.2 (by omega)
    · congr 1; symm; simp; omega
  simp only [hd, Option.bind_some]
  split
  · split
    · split
      · congr 1
        simp only [decide_eq_true_eq] at *
        exact decide_eq_decide.2 (by omega)
      all_goals (congr 1; simp only [decide_eq_true_eq] at *; symm; simp; omega)
    all_goals (congr 1; simp only [decide_eq_true_eq] at *; symm; simp; omega)
  all_goals (congr 1; simp only [decide_eq_true_eq] at *; symm; simp; omega)
theorem rmeta_f (m : Met) : bindleref08_Meta.f m.f0 m.f1 m.f2 m.f3 = some (metaOk m) := by
  unfold bindleref08_Meta.f metaOk
  repeat' split
  all_goals (congr 1; first | (symm; simp; omega) | (apply decide_eq_decide.2; omega))
theorem mtarget_f (s : ByteArray) (h2 : s.size ≤ 8000000000000) : ∃ r, path_Target.f s = some r ∧ (r == 0) = targetOk s := by
  have e : path_right.f s = some (rightB s) := by unfold path_right.f; rw [if_pos h2]
  have hz : s.toList = [] ↔ s.size = 0 := by rw [Lib.toList_data, ← List.length_eq_zero_iff]; simp
  unfold path_Target.f targetOk
  rw [e, Option.bind_some]
  cases rightB s with
  | false => exact ⟨9, rfl, rfl⟩
  | true =>
    rw [if_pos rfl]
    by_cases h0 : s.toList = []
    · rw [if_pos h0]
      refine ⟨6, rfl, ?_⟩
      have := hz.1 h0
      simp [this]
    · rw [if_neg h0]
      have h1 : s.size ≠ 0 := fun e => h0 (hz.2 e)
      by_cases h3 : (s.size : Int) > 200
      · rw [if_pos h3]
        refine ⟨6, rfl, ?_⟩
        simp
        omega
      · rw [if_neg h3]
        refine ⟨0, rfl, ?_⟩
        simp
        omega
theorem rtarget_f (s : ByteArray) (h : s.size ≤ 140737488351232) : ∃ r, Ev (fun k => bindleref08_Target.f k s) r ∧ (r == 0) = targetOk s := by
  have e := Text_eq s (by omega)
  have hz : s.toList = [] ↔ s.size = 0 := by rw [Lib.toList_data, ← List.length_eq_zero_iff]; simp
  have start : ∀ r, Ev (fun _ => if rightB s = true then (if s.toList = ([] : List UInt8) then (some 6) else (if (s.size : Int) > 200 then (some 6) else (some 0))) else (some 9)) r → Ev (fun k => bindleref08_Target.f k s) r := fun r hr =>
    Ev.congr (f := fun k => (bindleref01_Text.f k s).bind fun t => (if t = true then (if s.toList = ([] : List UInt8) then (some 6) else (if (s.size : Int) > 200 then (some 6) else (some 0))) else (some 9))) (fun k => rfl) (Ev.bind e hr)
  unfold targetOk
  cases hr : rightB s with
  | false => exact ⟨9, start _ (Ev.congr (fun k => by rw [hr]; rfl) (Ev.now _)), rfl⟩
  | true =>
    by_cases h0 : s.toList = []
    · refine ⟨6, start _ (Ev.congr (fun k => by rw [hr, if_pos rfl, if_pos h0]) (Ev.now _)), ?_⟩
      have := hz.1 h0
      simp [this]
    · have h1 : s.size ≠ 0 := fun e => h0 (hz.2 e)
      by_cases h3 : (s.size : Int) > 200
      · refine ⟨6, start _ (Ev.congr (fun k => by rw [hr, if_pos rfl, if_neg h0, if_pos h3]) (Ev.now _)), ?_⟩
        simp
        omega
      · refine ⟨0, start _ (Ev.congr (fun k => by rw [hr, if_pos rfl, if_neg h0, if_neg h3]) (Ev.now _)), ?_⟩
        simp
        omega
/-- The last part of both. -/
def kindB (m : Mem) : Bool := if m.f2 = 48 ∨ m.f2 = 53 then decide (m.f1.toList = []) else if m.f2 = 49 then cleanOk m.f1 else if m.f2 = 50 then targetOk m.f1 else false
theorem mj0_f (m : Mem) (b : Bool) (hz : MemZ m) : Ev (fun k => member_Good.j0 k b m.f0 m.f1 m.f2 m.f3.f0 m.f3.f1 m.f3.f2 m.f3.f3 m.f4) (!b && kindB m) := by
  obtain ⟨r, h1, h3⟩ := mtarget_f m.f1 hz.2.1
  have hj1 : Ev (fun k => member_Good.j1 k m.f2 (if m.f2 = 48 then (m.f2 == 48) else (m.f2 == 53)) m.f0 m.f1 m.f2 m.f3.f0 m.f3.f1 m.f3.f2 m.f3.f3 m.f4) (kindB m) := by
    refine Ev.step (f := fun _ => some (kindB m)) (fun k => ?_) (Ev.now _)
    rw [member_Good.j1]
    unfold kindB
    by_cases a : m.f2 = 48
    · rw [if_pos a, if_pos (by rw [beq_iff_eq]; exact a), if_pos (.inl a), beq_dec]
    · rw [if_neg a]
      by_cases b : m.f2 = 53
      · rw [if_pos (by rw [beq_iff_eq]; exact b), if_pos (.inr b), beq_dec]
      · rw [if_neg (by rw [beq_iff_eq]; exact b), if_neg (show ¬ (m.f2 = 48 ∨ m.f2 = 53) from fun h => h.elim a b)]
        by_cases c : m.f2 = 49
        · rw [if_pos c, if_pos c, mclean_f _ hz.2.1]; rfl
        · rw [if_neg c, if_neg c]
          by_cases d : m.f2 = 50
          · rw [if_pos d, if_pos d, h1, Option.bind_some, h3]
          · rw [if_neg d, if_neg d]
  cases b with
  | true => exact Ev.step (f := fun _ => some false) (fun k => by rw [member_Good.j0, if_pos rfl]) (Ev.now _)
  | false =>
    refine Ev.step (fun k => ?_) hj1
    rw [member_Good.j0, if_neg (by decide)]
    by_cases a : m.f2 = 48
    · rw [if_pos a, if_pos a]
    · rw [if_neg a, if_neg a]
theorem goodM_eq (m : Mem) : goodM m = (cleanOk m.f0 && metaOk m.f3 && !(decide (1048576 < m.f4.length) || (!decide (m.f2 = 48) && decide (0 < m.f4.length))) && kindB m) := by
  unfold goodM kindB
  congr 1
  rw [Bool.and_assoc, Bool.and_assoc, Bool.and_assoc]
  congr 2
  by_cases a : m.f2 = 48 <;> by_cases b : m.f4.length ≤ 1048576 <;> by_cases c : m.f4.length = 0 <;> simp [a, b, c] <;> omega
theorem member_Good_eq (m : Mem) (hz : MemZ m) : Ev (fun k => member_Good.f k m.f0 m.f1 m.f2 m.f3.f0 m.f3.f1 m.f3.f2 m.f3.f3 m.f4) (goodM m) := by
  rw [goodM_eq]
  cases hc : cleanOk m.f0 with
  | false => exact Ev.congr (fun k => by unfold member_Good.f; rw [mclean_f _ hz.1, Option.bind_some, hc, if_neg (by decide)]) (mj0_f m true hz)
  | true =>
    cases hm : metaOk m.f3 with
    | false => exact Ev.congr (fun k => by unfold member_Good.f; rw [mclean_f _ hz.1, Option.bind_some, hc, if_pos rfl, mmeta_f, Option.bind_some, hm, if_neg (by decide)]) (mj0_f m true hz)
    | true =>
      by_cases a : (m.f4.length : Int) > 1048576
      · rw [decide_eq_true (show 1048576 < m.f4.length by omega)]
        exact Ev.congr (fun k => by unfold member_Good.f; rw [mclean_f _ hz.1, Option.bind_some, hc, if_pos rfl, mmeta_f, Option.bind_some, hm, if_pos rfl, if_pos a]) (mj0_f m true hz)
      · by_cases b : m.f2 = 48
        · rw [decide_eq_false (show ¬ 1048576 < m.f4.length by omega), decide_eq_true b]
          exact Ev.congr (fun k => by unfold member_Good.f; rw [mclean_f _ hz.1, Option.bind_some, hc, if_pos rfl, mmeta_f, Option.bind_some, hm, if_pos rfl, if_neg a, if_pos b]) (mj0_f m false hz)
        · have e : decide ((m.f4.length : Int) > 0) = decide (0 < m.f4.length) := decide_eq_decide.2 (by omega)
          rw [decide_eq_false (show ¬ 1048576 < m.f4.length by omega), decide_eq_false b]
          simp only [Bool.true_and, Bool.false_or, Bool.not_false]
          refine Ev.congr (fun k => ?_) (mj0_f m (decide (0 < m.f4.length)) hz)
          unfold member_Good.f
          rw [mclean_f _ hz.1, Option.bind_some, hc, if_pos rfl, mmeta_f, Option.bind_some, hm, if_pos rfl, if_neg a, if_neg b, e]
theorem rj0_f (m : Mem) (b : Bool) (hz : MemR m) : Ev (fun k => bindleref08_Good.j0 k b m.f0 m.f1 m.f2 m.f3.f0 m.f3.f1 m.f3.f2 m.f3.f3 m.f4) (!b && kindB m) := by
  obtain ⟨r, ⟨K1, h1⟩, h3⟩ := rtarget_f m.f1 hz.2.1
  obtain ⟨K2, h2⟩ := rclean_f m.f1 hz.2.1
  have hj1 : Ev (fun k => bindleref08_Good.j1 k m.f2 (if m.f2 = 48 then (m.f2 == 48) else (m.f2 == 53)) m.f0 m.f1 m.f2 m.f3.f0 m.f3.f1 m.f3.f2 m.f3.f3 m.f4) (kindB m) := by
    refine ⟨K1 + K2 + 1, fun k hk => ?_⟩
    obtain ⟨k, rfl⟩ : ∃ m, k = m + 1 := ⟨k - 1, by omega⟩
    dsimp only at *
    rw [bindleref08_Good.j1]
    unfold kindB
    by_cases a : m.f2 = 48
    · rw [if_pos a, if_pos (by rw [beq_iff_eq]; exact a), if_pos (.inl a), beq_dec]
    · rw [if_neg a]
      by_cases b : m.f2 = 53
      · rw [if_pos (by rw [beq_iff_eq]; exact b), if_pos (.inr b), beq_dec]
      · rw [if_neg (by rw [beq_iff_eq]; exact b), if_neg (show ¬ (m.f2 = 48 ∨ m.f2 = 53) from fun h => h.elim a b)]
        by_cases c : m.f2 = 49
        · rw [if_pos c, if_pos c, h2 k (by omega)]; rfl
        · rw [if_neg c, if_neg c]
          by_cases d : m.f2 = 50
          · rw [if_pos d, if_pos d, h1 k (by omega), Option.bind_some, h3]
          · rw [if_neg d, if_neg d]
  cases b with
  | true => exact Ev.step (f := fun _ => some false) (fun k => by rw [bindleref08_Good.j0, if_pos rfl]) (Ev.now _)
  | false =>
    refine Ev.step (fun k => ?_) hj1
    rw [bindleref08_Good.j0, if_neg (by decide)]
    by_cases a : m.f2 = 48
    · rw [if_pos a, if_pos a]
    · rw [if_neg a, if_neg a]
theorem refGood_eq (m : Mem) (hz : MemR m) : Ev (fun k => bindleref08_Good.f k m.f0 m.f1 m.f2 m.f3.f0 m.f3.f1 m.f3.f2 m.f3.f3 m.f4) (goodM m) := by
  rw [goodM_eq]
  refine Ev.bind (f := fun k t175 => (if t175 = true then ((bindleref08_Meta.f m.f3.f0 m.f3.f1 m.f3.f2 m.f3.f3).bind fun t176 => (if t176 = true then (if (m.f4.length : Int) > 1048576 then (bindleref08_Good.j0 k true m.f0 m.f1 m.f2 m.f3.f0 m.f3.f1 m.f3.f2 m.f3.f3 m.f4) else (if m.f2 = 48 then (bindleref08_Good.j0 k false m.f0 m.f1 m.f2 m.f3.f0 m.f3.f1 m.f3.f2 m.f3.f3 m.f4) else (bindleref08_Good.j0 k (decide ((m.f4.length : Int) > 0)) m.f0 m.f1 m.f2 m.f3.f0 m.f3.f1 m.f3.f2 m.f3.f3 m.f4))) else (bindleref08_Good.j0 k true m.f0 m.f1 m.f2 m.f3.f0 m.f3.f1 m.f3.f2 m.f3.f3 m.f4))) else (bindleref08_Good.j0 k true m.f0 m.f1 m.f2 m.f3.f0 m.f3.f1 m.f3.f2 m.f3.f3 m.f4))) (rclean_f m.f0 hz.1) ?_
  cases hc : cleanOk m.f0 with
  | false => exact Ev.congr (fun k => by rw [if_neg (by decide)]) (rj0_f m true hz)
  | true =>
    cases hm : metaOk m.f3 with
    | false => exact Ev.congr (fun k => by rw [if_pos rfl, rmeta_f, Option.bind_some, hm, if_neg (by decide)]) (rj0_f m true hz)
    | true =>
      by_cases a : (m.f4.length : Int) > 1048576
      · rw [decide_eq_true (show 1048576 < m.f4.length by omega)]
        exact Ev.congr (fun k => by rw [if_pos rfl, rmeta_f, Option.bind_some, hm, if_pos rfl, if_pos a]) (rj0_f m true hz)
      · by_cases b : m.f2 = 48
        · rw [decide_eq_false (show ¬ 1048576 < m.f4.length by omega), decide_eq_true b]
          exact Ev.congr (fun k => by rw [if_pos rfl, rmeta_f, Option.bind_some, hm, if_pos rfl, if_neg a, if_pos b]) (rj0_f m false hz)
        · have e : decide ((m.f4.length : Int) > 0) = decide (0 < m.f4.length) := decide_eq_decide.2 (by omega)
          rw [decide_eq_false (show ¬ 1048576 < m.f4.length by omega), decide_eq_false b]
          change Ev _ (!decide (0 < m.f4.length) && kindB m)
          refine Ev.congr (fun k => ?_) (rj0_f m (decide (0 < m.f4.length)) hz)
          rw [if_pos rfl, rmeta_f, Option.bind_some, hm, if_pos rfl, if_neg a, if_neg b, e]
end Go.Proofs.YtfljbidecljlcaaDoor
