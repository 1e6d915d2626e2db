/-
  Part of the proof that MergeOne answers true: texts put together (wip/bundle.py).
-/
import Derived.Test.YtbngbefchobfnaaGreatDoorCMergeOne2
import Derived.WalkKit
import Derived.LoopTactic
import Derived.WalkSpells
import Derived.Outline
import Derived.Deep.RegionHeld3
import Derived.Shelf.SlGeneric
import Derived.Shelf.SlIter.Nil
import Derived.Shelf.SortM.Plain
import Derived.Shelf.SortM.SortNone
import Derived.Ground.GgzProg
import Derived.Ground.SlgmProg
import Derived.Test.YtbngbefchobfnaaGreatDoorProg
import Derived.Laws.MakeOwn
import Derived.WideKeyPair
import Derived.Laws.Cover1
import Derived.Deep.LoopGhost
import Derived.Deep.DeepCutAuto
import Derived.IntWalk
namespace Go.Proofs.YtbngbefchobfnaaGreatDoor
open Go.RowKit Go.Proofs.YtbngbefchobfnaaGreatDoor.Print Go.Proofs.YtbngbefchobfnaaGreatDoorW.PrintWords
theorem beq_dec {α : Type} [BEq α] [LawfulBEq α] [DecidableEq α] (a b : α) : (a == b) = decide (a = b) := by
 rw [Bool.eq_iff_iff, beq_iff_eq, decide_eq_true_eq]
theorem mclean_f (s : ByteArray) (h2 : s.size ≤ 8000000000000) : member_clean.f s = some (cleanOk s) := by
 have e : path_Clean.f s = some (cleanF s) := by unfold path_Clean.f; rw [if_pos h2]
 unfold member_clean.f cleanOk
 rw [e, Option.bind_some, beq_dec]
 by_cases h0 : (cleanF s).2 = 0
 ·rw [if_pos h0, decide_eq_true h0, Bool.true_and]
  congr 1
  exact decide_eq_decide.2 ⟨fun h => h.symm, fun h => h.symm⟩
 ·rw [if_neg h0, decide_eq_false h0]; rfl
theorem rclean_f (s : ByteArray) (h : s.size ≤ 140737488351232) : Ev (fun k => bindleref08_clean.f k s) (cleanOk s) := by
 refine Ev.congr (f := fun k => (bindleref01_Clean.f k s).bind fun bt => (if bt.2 = 0 then (some (s.toList == bt.1.toList)) else (some false))) (fun k => rfl) (Ev.bind (RefClean_eq s (by omega)) ?_)
 refine Ev.congr (fun k => ?_) (Ev.now _)
 unfold cleanOk
 rw [beq_dec]
 by_cases h0 : (cleanF s).2 = 0
 ·rw [if_pos h0, decide_eq_true h0, Bool.true_and]
 ·rw [if_neg h0, decide_eq_false h0]; rfl
theorem mmeta_f (m : Met) : member_meta.f m.f0 m.f1 m.f2 m.f3 = some (metaOk m) := by
 unfold member_meta.f num_In.f metaOk
 have hd : ∀ (a b c : Int), (if a ≥ b then some (decide (a ≤ c)) else some false) = some (decide (b ≤ a ∧ a ≤ c)) := by
  intro a b c
  split
  ·congr 1; exact decide_eq_decide.2 (by omega)
  ·congr 1; symm; simp; omega
 simp only [hd, Option.bind_some]
 split
 ·split
  ·split
   ·congr 1
    simp only [decide_eq_true_eq] at *
    exact decide_eq_decide.2 (by omega)
   all_goals (congr 1; simp only [decide_eq_true_eq] at *; symm; simp; omega)
  all_goals (congr 1; simp only [decide_eq_true_eq] at *; symm; simp; omega)
 all_goals (congr 1; simp only [decide_eq_true_eq] at *; symm; simp; omega)
theorem rmeta_f (m : Met) : bindleref08_Meta.f m.f0 m.f1 m.f2 m.f3 = some (metaOk m) := by
 unfold bindleref08_Meta.f metaOk
 repeat' split
 all_goals (congr 1; first | (symm; simp; omega) | (apply decide_eq_decide.2; omega))
theorem mtarget_f (s : ByteArray) (h2 : s.size ≤ 8000000000000) : ∃ r, path_Target.f s = some r ∧ (r == 0) = targetOk s := by
 have e : path_right.f s = some (rightB s) := by unfold path_right.f; rw [if_pos h2]
 have hz : s.toList = [] ↔ s.size = 0 := by rw [Lib.toList_data, ← List.length_eq_zero_iff]; simp
 unfold path_Target.f targetOk
 rw [e, Option.bind_some]
 cases rightB s with
 | false => exact ⟨9, rfl, rfl⟩
 | true =>
  rw [if_pos rfl]
  by_cases h0 : s.toList = []
  ·rw [if_pos h0]
   refine ⟨6, rfl, ?_⟩
   have := hz.1 h0
   simp [this]
  ·rw [if_neg h0]
   have h1 : s.size ≠ 0 := fun e => h0 (hz.2 e)
   by_cases h3 : (s.size : Int) > 200
   ·rw [if_pos h3]
    refine ⟨6, rfl, ?_⟩
    simp
    omega
   ·rw [if_neg h3]
    refine ⟨0, rfl, ?_⟩
    simp
    omega
theorem rtarget_f (s : ByteArray) (h : s.size ≤ 140737488351232) : ∃ r, Ev (fun k => bindleref08_Target.f k s) r ∧ (r == 0) = targetOk s := by
 have e := Text_eq s (by omega)
 have hz : s.toList = [] ↔ s.size = 0 := by rw [Lib.toList_data, ← List.length_eq_zero_iff]; simp
 have start : ∀ r, Ev (fun _ => if rightB s = true then (if s.toList = ([] : List UInt8) then (some 6) else (if (s.size : Int) > 200 then (some 6) else (some 0))) else (some 9)) r → Ev (fun k => bindleref08_Target.f k s) r := fun r hr =>
  Ev.congr (f := fun k => (bindleref01_Text.f k s).bind fun t => (if t = true then (if s.toList = ([] : List UInt8) then (some 6) else (if (s.size : Int) > 200 then (some 6) else (some 0))) else (some 9))) (fun k => rfl) (Ev.bind e hr)
 unfold targetOk
 cases hr : rightB s with
 | false => exact ⟨9, start _ (Ev.congr (fun k => by rw [hr]; rfl) (Ev.now _)), rfl⟩
 | true =>
  by_cases h0 : s.toList = []
  ·refine ⟨6, start _ (Ev.congr (fun k => by rw [hr, if_pos rfl, if_pos h0]) (Ev.now _)), ?_⟩
   have := hz.1 h0
   simp [this]
  ·have h1 : s.size ≠ 0 := fun e => h0 (hz.2 e)
   by_cases h3 : (s.size : Int) > 200
   ·refine ⟨6, start _ (Ev.congr (fun k => by rw [hr, if_pos rfl, if_neg h0, if_pos h3]) (Ev.now _)), ?_⟩
    simp
    omega
   ·refine ⟨0, start _ (Ev.congr (fun k => by rw [hr, if_pos rfl, if_neg h0, if_neg h3]) (Ev.now _)), ?_⟩
    simp
    omega
def kindB (m : Mem) : Bool := if m.f2 = 48 ∨ m.f2 = 53 then decide (m.f1.toList = []) else if m.f2 = 49 then cleanOk m.f1 else if m.f2 = 50 then targetOk m.f1 else false
theorem mj0_f (m : Mem) (b : Bool) (hz : MemZ m) : Ev (fun k => member_Good.j0 k b m.f0 m.f1 m.f2 m.f3.f0 m.f3.f1 m.f3.f2 m.f3.f3 m.f4) (!b && kindB m) := by
 obtain ⟨r, h1, h3⟩ := mtarget_f m.f1 hz.2.1
 have hj1 : Ev (fun k => member_Good.j1 k m.f2 (if m.f2 = 48 then (m.f2 == 48) else (m.f2 == 53)) m.f0 m.f1 m.f2 m.f3.f0 m.f3.f1 m.f3.f2 m.f3.f3 m.f4) (kindB m) := by
  refine Ev.step (f := fun _ => some (kindB m)) (fun k => ?_) (Ev.now _)
  rw [member_Good.j1]
  unfold kindB
  by_cases a : m.f2 = 48
  ·rw [if_pos a, if_pos (by rw [beq_iff_eq]; exact a), if_pos (.inl a), beq_dec]
  ·rw [if_neg a]
   by_cases b : m.f2 = 53
   ·rw [if_pos (by rw [beq_iff_eq]; exact b), if_pos (.inr b), beq_dec]
   ·rw [if_neg (by rw [beq_iff_eq]; exact b), if_neg (show ¬ (m.f2 = 48 ∨ m.f2 = 53) from fun h => h.elim a b)]
    by_cases c : m.f2 = 49
    ·rw [if_pos c, if_pos c, mclean_f _ hz.2.1]; rfl
    ·rw [if_neg c, if_neg c]
     by_cases d : m.f2 = 50
     ·rw [if_pos d, if_pos d, h1, Option.bind_some, h3]
     ·rw [if_neg d, if_neg d]
 cases b with
 | true => exact Ev.step (f := fun _ => some false) (fun k => by rw [member_Good.j0, if_pos rfl]) (Ev.now _)
 | false =>
  refine Ev.step (fun k => ?_) hj1
  rw [member_Good.j0, if_neg (by decide)]
  by_cases a : m.f2 = 48
  ·rw [if_pos a, if_pos a]
  ·rw [if_neg a, if_neg a]
theorem goodM_eq (m : Mem) : goodM m = (cleanOk m.f0 && metaOk m.f3 && !(decide (1048576 < m.f4.length) || (!decide (m.f2 = 48) && decide (0 < m.f4.length))) && kindB m) := by
 unfold goodM kindB
 congr 1
 rw [Bool.and_assoc, Bool.and_assoc, Bool.and_assoc]
 congr 2
 by_cases a : m.f2 = 48 <;> by_cases b : m.f4.length ≤ 1048576 <;> by_cases c : m.f4.length = 0 <;> simp [a, b, c] <;> omega
theorem member_Good_eq (m : Mem) (hz : MemZ m) : Ev (fun k => member_Good.f k m.f0 m.f1 m.f2 m.f3.f0 m.f3.f1 m.f3.f2 m.f3.f3 m.f4) (goodM m) := by
 rw [goodM_eq]
 cases hc : cleanOk m.f0 with
 | false => exact Ev.congr (fun k => by unfold member_Good.f; rw [mclean_f _ hz.1, Option.bind_some, hc, if_neg (by decide)]) (mj0_f m true hz)
 | true =>
  cases hm : metaOk m.f3 with
  | false => exact Ev.congr (fun k => by unfold member_Good.f; rw [mclean_f _ hz.1, Option.bind_some, hc, if_pos rfl, mmeta_f, Option.bind_some, hm, if_neg (by decide)]) (mj0_f m true hz)
  | true =>
   by_cases a : (m.f4.length : Int) > 1048576
   ·rw [decide_eq_true (show 1048576 < m.f4.length by omega)]
    exact Ev.congr (fun k => by unfold member_Good.f; rw [mclean_f _ hz.1, Option.bind_some, hc, if_pos rfl, mmeta_f, Option.bind_some, hm, if_pos rfl, if_pos a]) (mj0_f m true hz)
   ·by_cases b : m.f2 = 48
    ·rw [decide_eq_false (show ¬ 1048576 < m.f4.length by omega), decide_eq_true b]
     exact Ev.congr (fun k => by unfold member_Good.f; rw [mclean_f _ hz.1, Option.bind_some, hc, if_pos rfl, mmeta_f, Option.bind_some, hm, if_pos rfl, if_neg a, if_pos b]) (mj0_f m false hz)
    ·have e : decide ((m.f4.length : Int) > 0) = decide (0 < m.f4.length) := decide_eq_decide.2 (by omega)
     rw [decide_eq_false (show ¬ 1048576 < m.f4.length by omega), decide_eq_false b]
     simp only [Bool.true_and, Bool.false_or, Bool.not_false]
     refine Ev.congr (fun k => ?_) (mj0_f m (decide (0 < m.f4.length)) hz)
     unfold member_Good.f
     rw [mclean_f _ hz.1, Option.bind_some, hc, if_pos rfl, mmeta_f, Option.bind_some, hm, if_pos rfl, if_neg a, if_neg b, e]
theorem rj0_f (m : Mem) (b : Bool) (hz : MemR m) : Ev (fun k => bindleref08_Good.j0 k b m.f0 m.f1 m.f2 m.f3.f0 m.f3.f1 m.f3.f2 m.f3.f3 m.f4) (!b && kindB m) := by
 obtain ⟨r, ⟨K1, h1⟩, h3⟩ := rtarget_f m.f1 hz.2.1
 obtain ⟨K2, h2⟩ := rclean_f m.f1 hz.2.1
 have hj1 : Ev (fun k => bindleref08_Good.j1 k m.f2 (if m.f2 = 48 then (m.f2 == 48) else (m.f2 == 53)) m.f0 m.f1 m.f2 m.f3.f0 m.f3.f1 m.f3.f2 m.f3.f3 m.f4) (kindB m) := by
  refine ⟨K1 + K2 + 1, fun k hk => ?_⟩
  obtain ⟨k, rfl⟩ : ∃ m, k = m + 1 := ⟨k - 1, by omega⟩
  dsimp only at *
  rw [bindleref08_Good.j1]
  unfold kindB
  by_cases a : m.f2 = 48
  ·rw [if_pos a, if_pos (by rw [beq_iff_eq]; exact a), if_pos (.inl a), beq_dec]
  ·rw [if_neg a]
   by_cases b : m.f2 = 53
   ·rw [if_pos (by rw [beq_iff_eq]; exact b), if_pos (.inr b), beq_dec]
   ·rw [if_neg (by rw [beq_iff_eq]; exact b), if_neg (show ¬ (m.f2 = 48 ∨ m.f2 = 53) from fun h => h.elim a b)]
    by_cases c : m.f2 = 49
    ·rw [if_pos c, if_pos c, h2 k (by omega)]; rfl
    ·rw [if_neg c, if_neg c]
     by_cases d : m.f2 = 50
     ·rw [if_pos d, if_pos d, h1 k (by omega), Option.bind_some, h3]
     ·rw [if_neg d, if_neg d]
 cases b with
 | true => exact Ev.step (f := fun _ => some false) (fun k => by rw [bindleref08_Good.j0, if_pos rfl]) (Ev.now _)
 | false =>
  refine Ev.step (fun k => ?_) hj1
  rw [bindleref08_Good.j0, if_neg (by decide)]
  by_cases a : m.f2 = 48
  ·rw [if_pos a, if_pos a]
  ·rw [if_neg a, if_neg a]
theorem refGood_eq (m : Mem) (hz : MemR m) : Ev (fun k => bindleref08_Good.f k m.f0 m.f1 m.f2 m.f3.f0 m.f3.f1 m.f3.f2 m.f3.f3 m.f4) (goodM m) := by
 rw [goodM_eq]
 refine Ev.bind (f := fun k t175 => (if t175 = true then ((bindleref08_Meta.f m.f3.f0 m.f3.f1 m.f3.f2 m.f3.f3).bind fun t176 => (if t176 = true then (if (m.f4.length : Int) > 1048576 then (bindleref08_Good.j0 k true m.f0 m.f1 m.f2 m.f3.f0 m.f3.f1 m.f3.f2 m.f3.f3 m.f4) else (if m.f2 = 48 then (bindleref08_Good.j0 k false m.f0 m.f1 m.f2 m.f3.f0 m.f3.f1 m.f3.f2 m.f3.f3 m.f4) else (bindleref08_Good.j0 k (decide ((m.f4.length : Int) > 0)) m.f0 m.f1 m.f2 m.f3.f0 m.f3.f1 m.f3.f2 m.f3.f3 m.f4))) else (bindleref08_Good.j0 k true m.f0 m.f1 m.f2 m.f3.f0 m.f3.f1 m.f3.f2 m.f3.f3 m.f4))) else (bindleref08_Good.j0 k true m.f0 m.f1 m.f2 m.f3.f0 m.f3.f1 m.f3.f2 m.f3.f3 m.f4))) (rclean_f m.f0 hz.1) ?_
 cases hc : cleanOk m.f0 with
 | false => exact Ev.congr (fun k => by rw [if_neg (by decide)]) (rj0_f m true hz)
 | true =>
  cases hm : metaOk m.f3 with
  | false => exact Ev.congr (fun k => by rw [if_pos rfl, rmeta_f, Option.bind_some, hm, if_neg (by decide)]) (rj0_f m true hz)
  | true =>
   by_cases a : (m.f4.length : Int) > 1048576
   ·rw [decide_eq_true (show 1048576 < m.f4.length by omega)]
    exact Ev.congr (fun k => by rw [if_pos rfl, rmeta_f, Option.bind_some, hm, if_pos rfl, if_pos a]) (rj0_f m true hz)
   ·by_cases b : m.f2 = 48
    ·rw [decide_eq_false (show ¬ 1048576 < m.f4.length by omega), decide_eq_true b]
     exact Ev.congr (fun k => by rw [if_pos rfl, rmeta_f, Option.bind_some, hm, if_pos rfl, if_neg a, if_pos b]) (rj0_f m false hz)
    ·have e : decide ((m.f4.length : Int) > 0) = decide (0 < m.f4.length) := decide_eq_decide.2 (by omega)
     rw [decide_eq_false (show ¬ 1048576 < m.f4.length by omega), decide_eq_false b]
     change Ev _ (!decide (0 < m.f4.length) && kindB m)
     refine Ev.congr (fun k => ?_) (rj0_f m (decide (0 < m.f4.length)) hz)
     rw [if_pos rfl, rmeta_f, Option.bind_some, hm, if_pos rfl, if_neg a, if_neg b, e]
end Go.Proofs.YtbngbefchobfnaaGreatDoor

namespace Go.Proofs.YtbngbefchobfnaaGreatDoor
open Go.RowKit Go.Maps Go.Proofs.YtbngbefchobfnaaGreatDoor.Print Go.Proofs.YtbngbefchobfnaaGreatDoorW.PrintWords Go.Proofs.YtbngbefchobfnaaGreatDoorW.PrintLast Go.Proofs.YtbngbefchobfnaaGreatDoorW.PrintMore
set_option linter.unusedVariables false
set_option linter.unusedSimpArgs false
theorem bcell {W w1 : World} (hb : Below W.heap.size W w1) : (∀ b o, b < W.heap.size → w1.cell? ⟨b, o, none⟩ = W.cell? ⟨b, o, none⟩) ∧ (∀ b o, b < W.heap.size → w1.frozen? ⟨b, o, none⟩ = W.frozen? ⟨b, o, none⟩) :=
 ⟨fun b o h => hb.cell (p := ⟨b, o, none⟩) h, fun b o h => hb.frozen (p := ⟨b, o, none⟩) h⟩
end Go.Proofs.YtbngbefchobfnaaGreatDoor

namespace Go.Proofs.YtbngbefchobfnaaGreatDoor
open Go.RowKit Go.Maps Go.Proofs.YtbngbefchobfnaaGreatDoor.Print Go.Proofs.YtbngbefchobfnaaGreatDoorW.PrintWords Go.Proofs.YtbngbefchobfnaaGreatDoorW.PrintLast Go.Proofs.YtbngbefchobfnaaGreatDoorW.PrintMore
set_option linter.unusedVariables false
set_option linter.unusedSimpArgs false
set_option maxRecDepth 100000 in
set_option maxHeartbeats 1000000 in
theorem Clone_calls (A : Option Addr) (c : Nat) (xs : List Int) (W : World) (hC : Kd.C (Kd.int .u8) W A xs.length xs) (hl : xs.length ≤ 140737488351232) :
  Calls Tryz.prog 45 #[.slice A xs.length c] W fun e W' => ∃ v, e = .returned v ∧ Kd.R (Kd.int .u8) 5 W' W.heap.size (fun _ => True) v xs ∧ Below W.heap.size W W' := by
 rcases A with _ | ad
 ·have h0 : xs = [] := by
   rcases Nat.eq_zero_or_pos xs.length with h | h
   ·exact List.eq_nil_of_length_eq_zero h
   ·obtain ⟨ad, h1, _⟩ := hC.2.2 h
    cases h1
  subst h0
  have hcmp := fun (w : World) => Lib.run_eql_slice_nil (P := Tryz.prog) w 40 5 none 0 c 0 0 Tryz.underlying40
  go_enter Tryz.func45, Tryz.ntmps45
  go_wp2
  go_ret
  exact ⟨_, rfl, Kd.R_nil _ _ _ _ _, Below.refl _ _⟩
 ·have hcmp := fun (w : World) => Lib.run_eql_slice_nil (P := Tryz.prog) w 40 5 (some ad) xs.length c 0 0 Tryz.underlying40
  have hown := own_lit W W.heap.size 5 .u8 [] (Nat.le_refl _) (by decide)
  have HC := Aside0.mk hC
  have HO := Aside0.mk hown
  clear hC hown
  go_enter Tryz.func45, Tryz.ntmps45
  go_wp2_with (at_builtin; refine Kd.R_append_row (Value.int .u8) (0 : Int) (h1 := fun _ => rfl) (w0 := W) W.heap.size rfl _ _ 40 5 (.int .u8 0) 1 rfl Tryz.underlying40 infoU8 rfl (by decide) (.slice (some ⟨W.heap.size, 0, none⟩) 0 0) [] xs (some ad) xs.length c (fun _ => True) rfl rfl (fun _ _ => trivial) (Kd.R_of_own (enc := Value.int .u8) (h1 := fun _ => rfl) HO.out (fun _ _ => trivial)) (Kd.C_alloc HC.out _) ((Below.refl _ _).alloc (Nat.le_refl _) _) (by simp) (by simp; omega) ?_; intro v1 w1 hr1 hb1 hg1 hat1)
  go_ret
  exact ⟨_, rfl, hr1, hb1⟩
end Go.Proofs.YtbngbefchobfnaaGreatDoor

namespace Go.Proofs.YtbngbefchobfnaaGreatDoor
open Go.RowKit Go.Maps Go.Proofs.YtbngbefchobfnaaGreatDoor.Print Go.Proofs.YtbngbefchobfnaaGreatDoorW.PrintWords Go.Proofs.YtbngbefchobfnaaGreatDoorW.PrintLast Go.Proofs.YtbngbefchobfnaaGreatDoorW.PrintMore
set_option linter.unusedVariables false
set_option linter.unusedSimpArgs false
theorem Find1_calls (x : Node) (A : Option Addr) (n c : Nat) (p : ByteArray) (W : World) :
  Calls Tryz.prog 76 #[.agg #[.string x.f0, .string x.f1, .string x.f2, .int .u8 x.f3, .int .i64 x.f4.f0, .int .i64 x.f4.f1, .int .i64 x.f4.f2, .int .i64 x.f4.f3, .slice A n c], .string p] W fun e W' =>
   e = .returned (.int .i64 (Lib.compareBytes x.f0.data.toList p.data.toList)) ∧ Below W.heap.size W W' := by
 go_enter Tryz.func76, Tryz.ntmps76
 go_wp2_with (go_at_call 77; refine (Tryz.strings_Compare _ _ _).mono ?_; rintro e w' ⟨rfl, rfl⟩)
 go_ret
 exact ⟨rfl, (Below.refl _ _).alloc (Nat.le_refl _) _⟩
theorem rdN_at (l : List Node) (i : Int) (h0 : 0 ≤ i) (h1 : i < l.length) : rd_T42 l i = l[i.toNat]'(by omega) := by
 unfold rd_T42
 rw [List.getD_eq_getElem?_getD, List.getElem?_eq_getElem (by omega)]
 rfl
def FoundAt (l : List Node) (p : ByteArray) (n : Int) (b : Bool) : Prop :=
 0 ≤ n ∧ n ≤ l.length ∧ (b = true ↔ ∃ h : n.toNat < l.length, l[n.toNat].f0.toList = p.toList) ∧ (b = false → ∀ (i : Nat) (hi : i < l.length), l[i].f0.toList ≠ p.toList)
def SearchRel (l : List Node) (p : ByteArray) (W : World) (i j : Int) (wr : World) : Prop :=
 0 ≤ i ∧ i ≤ j ∧ j ≤ l.length ∧ (∀ (t : Nat) (ht : t < l.length), (t : Int) < i → lt l[t].f0 p = true) ∧ (∀ (t : Nat) (ht : t < l.length), j ≤ (t : Int) → lt l[t].f0 p = false) ∧ Below W.heap.size W wr
set_option maxRecDepth 100000 in
set_option maxHeartbeats 2000000 in
theorem Search_calls (A0 : Option Addr) (c0 : Nat) (l : List Node) (p : ByteArray) (W : World) (hC : Kd.C k42 W A0 l.length l) (hr : riseB l = true) (hz : NodesZ l) :
  Calls Tryz.prog 75 #[.slice A0 l.length c0, .string p, .func (.func 76) #[] #[]] W fun e W' => ∃ n b, e = .returned (.tuple #[.int .i64 n, .bool b]) ∧ FoundAt l p n b ∧ Below W.heap.size W W' := by
 have HC := Aside0.mk hC
 have HZ := Aside0.mk hz
 have HRI := Aside0.mk hr
 have hlen : (l.length : Int) ≤ 1000000000000 := by have := hz.1; omega
 clear hC hr hz
 generalize hpost : (fun (e : Ending) (W' : World) => ∃ n b, e = .returned (.tuple #[.int .i64 n, .bool b]) ∧ FoundAt l p n b ∧ Below W.heap.size W W') = Q
 have hQ := Aside0.mk hpost
 clear hpost
 go_enter Tryz.func75, Tryz.ntmps75
 go_wp2
 go_loopw [9, 10] (fun i j wr => ∃ n m : Int, i = .int .i64 n ∧ j = .int .i64 m ∧ Aside0 (SearchRel l p W n m wr)) (fun i j _ => (intOf j - intOf i).toNat)
 case atStart => exact ⟨0, _, rfl, rfl, ⟨⟨by omega, by omega, by omega, fun t ht h => by omega, fun t ht h => by omega, Below.refl _ _⟩⟩⟩
 case round =>
  obtain ⟨n, m, rfl, rfl, HR⟩ := hrel
  have h0 := HR.out.1
  have h1 := HR.out.2.1
  have h2 := HR.out.2.2.1
  have HB := Aside0.mk HR.out.2.2.2.2.2
  by_cases hlt : n < m
  ·have c1 : decide (n < m) = true := decide_eq_true hlt
   have hh0 : 0 ≤ (n + m) / 2 := by omega
   have hh1 : (n + m) / 2 < (l.length : Int) := by omega
   obtain ⟨ad, A7, c7, rfl, x0, x1, x2, x3, x4, x5, x6, x7, x8, hl7, hC7⟩ := at_T42 (Kd.C_below HC.out HB.out) ((n + m) / 2) hh0 hh1
   have hx := rdN_at l _ hh0 hh1
   generalize rd_T42 l ((n + m) / 2) = x at hx x0 x1 x2 x3 x4 x5 x6 x7 x8 hl7 hC7
   have HX := Aside0.mk hx
   clear hx hC7 hl7
   go_wp2_with (go_at_call 76; refine (Find1_calls x A7 x.f5.length c7 p _).mono ?_; rintro e w' ⟨rfl, hb⟩)
   ·have hn : Lib.compareBytes x.f0.data.toList p.data.toList < 0 := by assumption
    have hltx : lt x.f0 p = true := by rw [lt_data]; exact (cmp_neg _ _).1 hn
    have hfin : SearchRel l p W ((n + m) / 2 + 1) m w' := by
     refine ⟨by omega, by omega, h2, fun t ht h => ?_, HR.out.2.2.2.2.1, HB.out.trans (hb.mono HB.out.size)⟩
     rcases Nat.lt_or_ge t ((n + m) / 2).toNat with h3 | h3
     ·have := riseB_at HRI.out t ((n + m) / 2).toNat ht (by omega) h3
      rw [← HX.out] at this
      exact lt_trans this hltx
     ·have e : t = ((n + m) / 2).toNat := by omega
      subst e
      rw [← HX.out]; exact hltx
    clear hltx hn hb
    go_roundw
    case rel => exact ⟨_, _, rfl, rfl, ⟨hfin⟩⟩
    case measure => simp [intOf]; omega
   ·have hn : 0 ≤ Lib.compareBytes x.f0.data.toList p.data.toList := by assumption
    have hltx : lt x.f0 p = false := by
     rw [lt_data, Bool.eq_false_iff]
     intro h
     have := (cmp_neg _ _).2 h
     omega
    have hfin : SearchRel l p W n ((n + m) / 2) w' := by
     refine ⟨h0, by omega, by omega, HR.out.2.2.2.1, fun t ht h => ?_, HB.out.trans (hb.mono HB.out.size)⟩
     rcases Nat.lt_or_ge ((n + m) / 2).toNat t with h3 | h3
     ·have := riseB_at HRI.out ((n + m) / 2).toNat t (by omega) ht h3
      rw [← HX.out] at this
      cases h4 : lt l[t].f0 p with
      | false => rfl
      | true =>
       have := lt_trans this h4
       rw [hltx] at this
       cases this
     ·have e : t = ((n + m) / 2).toNat := by omega
      subst e
      rw [← HX.out]; exact hltx
    clear hltx hn hb
    go_roundw
    case rel => exact ⟨_, _, rfl, rfl, ⟨hfin⟩⟩
    case measure => simp [intOf]; omega
  ·have c1 : decide (n < m) = false := decide_eq_false hlt
   obtain rfl : n = m := by omega
   by_cases hnl : n < (l.length : Int)
   ·have c2 : decide (n < (l.length : Int)) = true := decide_eq_true hnl
    obtain ⟨ad, A7, c7, rfl, x0, x1, x2, x3, x4, x5, x6, x7, x8, hl7, hC7⟩ := at_T42 (Kd.C_below HC.out HB.out) n h0 hnl
    have hx := rdN_at l _ h0 hnl
    generalize rd_T42 l n = x at hx x0 x1 x2 x3 x4 x5 x6 x7 x8 hl7 hC7
    have HX := Aside0.mk hx
    clear hx hC7 hl7
    go_wp2_with (go_at_call 76; refine (Find1_calls x A7 x.f5.length c7 p _).mono ?_; rintro e w' ⟨rfl, hb⟩)
    rw [← hQ.out]
    refine ⟨n, _, rfl, ⟨h0, h2, ?_, ?_⟩, HB.out.trans (hb.mono HB.out.size)⟩
    ·rw [beq_iff_eq, cmp_zero, ← Lib.toList_data, ← Lib.toList_data]
     constructor
     ·intro h; exact ⟨by omega, by rw [← HX.out]; exact h⟩
     ·rintro ⟨_, h⟩; rw [← HX.out] at h; exact h
    ·intro h i hi he
     rw [beq_eq_false_iff_ne, ne_eq, cmp_zero, ← Lib.toList_data, ← Lib.toList_data] at h
     rcases Nat.lt_trichotomy i n.toNat with h3 | h3 | h3
     ·exact lt_ne (HR.out.2.2.2.1 i hi (by omega)) he
     ·subst h3; rw [← HX.out] at he; exact h he
     ·have h4 := riseB_at HRI.out n.toNat i (by omega) hi h3
      have h5 := HR.out.2.2.2.2.1 n.toNat (by omega) (by omega)
      have h6 : lt l[n.toNat].f0 p = lt l[n.toNat].f0 l[i].f0 := by unfold lt; rw [he]
      rw [h6, h4] at h5
      cases h5
   ·have c2 : decide (n < (l.length : Int)) = false := decide_eq_false hnl
    go_wp2
    rw [← hQ.out]
    refine ⟨n, false, rfl, ⟨h0, h2, ⟨fun h => (by cases h), fun ⟨h, _⟩ => absurd h (by omega)⟩, fun _ i hi he => ?_⟩, HB.out⟩
    exact lt_ne (HR.out.2.2.2.1 i hi (by omega)) he
theorem below_put {B : Nat} {a w : World} (h : Below B a w) (g j : Nat) (hg : B ≤ g) (u : Value) : Below B a (w.setCell ⟨g, j, none⟩ u) := h.setCell (p := ⟨g, j, none⟩) hg u
theorem row_put {α : Type} {d : Kd α} {e base B : Nat} {w : World} {v : Value} {xs : List α} (h : d.R e w base (fun k => B ≤ k) v xs) (g j : Nat) (hg : g < B) (u : Value) : d.R e (w.setCell ⟨g, j, none⟩ u) base (fun k => B ≤ k) v xs :=
 Kd.R_far h (p := ⟨g, j, none⟩) (fun k hk e => by have : k = g := e; omega) u
def nodeCells (x : Node) (v : Value) : Array Value := #[.string x.f0, .string x.f1, .string x.f2, .int .u8 x.f3, .int .i64 x.f4.f0, .int .i64 x.f4.f1, .int .i64 x.f4.f2, .int .i64 x.f4.f3, v]
set_option maxRecDepth 100000 in
set_option maxHeartbeats 2000000 in
theorem Find_calls (A0 : Option Addr) (c0 : Nat) (l : List Node) (p : ByteArray) (W : World) (hC : Kd.C k42 W A0 l.length l) (hr : riseB l = true) (hz : NodesZ l) :
  Calls Tryz.prog 66 #[.slice A0 l.length c0, .string p] W fun e W' => ∃ x b v, (match findF l p with | some y => x = y ∧ b = true | none => x = z42 ∧ b = false) ∧ e = .returned (.tuple #[.agg (nodeCells x v), .bool b]) ∧ Kd.R (Kd.int .u8) 5 W' W.heap.size (fun _ => True) v x.f5 ∧ Below W.heap.size W W' := by
 have cS := fun W2 (h : Kd.C k42 W2 A0 l.length l) => Search_calls A0 c0 l p W2 h hr hz
 have HC := Aside0.mk hC
 have HZ := Aside0.mk hz
 have HS := Aside0.mk cS
 have HRI := Aside0.mk hr
 have hlen : (l.length : Int) ≤ 1000000000000 := by have := hz.1; omega
 clear hC hz cS hr
 generalize hpost : (fun (e : Ending) (W' : World) => ∃ x b v, (match findF l p with | some y => x = y ∧ b = true | none => x = z42 ∧ b = false) ∧ e = .returned (.tuple #[.agg (nodeCells x v), .bool b]) ∧ Kd.R (Kd.int .u8) 5 W' W.heap.size (fun _ => True) v x.f5 ∧ Below W.heap.size W W') = Q
 have hQ := Aside0.mk hpost
 clear hpost
 go_enter Tryz.func66, Tryz.ntmps66
 go_wp2_with (first
  | (go_at_call 75; refine (HS.out _ (Kd.C_alloc HC.out _)).mono ?_; rintro e w1 ⟨n, b, rfl, hF, hb1⟩; have HF := Aside0.mk hF; clear hF; obtain ⟨hc1, hf1⟩ := bcell hb1; have hz1 : W.heap.size < w1.heap.size := Nat.lt_of_lt_of_le (by simp) hb1.size; have HB1 := Aside0.mk hb1; clear hb1; cases b; all_goals (first | (obtain ⟨hnl, he⟩ := HF.out.2.2.1.1 rfl; have h0 := HF.out.1; have h1 : n < (l.length : Int) := (by omega); have HE := Aside0.mk he; clear he; obtain ⟨ad, A7, c7, rfl, x0, x1, x2, x3, x4, x5, x6, x7, x8, hl7, hC7⟩ := at_T42 (Kd.C_below HC.out (((Below.refl _ _).alloc (Nat.le_refl _) _).trans (HB1.out.mono (by simp)))) n h0 h1; have hx := rdN_at l _ h0 h1; generalize rd_T42 l n = x at hx x0 x1 x2 x3 x4 x5 x6 x7 x8 hl7 hC7; have HX := Aside0.mk hx; have HC7 := Aside0.mk hC7; clear hx hC7) | skip))
  | (go_at_call 45; refine (Clone_calls A7 c7 x.f5 _ (Kd.C_alloc HC7.out _) (by rw [HX.out]; exact (HZ.out.2 _ (List.getElem_mem _)).2.2.2)).mono ?_; rintro e w2 ⟨v, rfl, hR2, hb2⟩; obtain ⟨Av, cv, rfl, hlv, hCv⟩ := Kd.R_reads hR2; clear hlv hCv; obtain ⟨hc2, hf2⟩ := bcell hb2; have HR2 := Aside0.mk hR2; have HB2 := Aside0.mk hb2; clear hR2 hb2))
 ·have hB1 := ((Below.refl W.heap.size W).alloc (Nat.le_refl _) _).trans (HB1.out.mono (by simp))
  refine bodyPost_ret (v := .tuple #[.agg (nodeCells z42 (.slice none 0 0)), .bool false]) (by simp [results, Tryz.results66, go_sem, hc1, hz1, nodeCells, z42, z39]) rfl ?_
  have hfn := findF_none p (HF.out.2.2.2 rfl)
  rw [← hQ.out]
  refine ⟨z42, false, .slice none 0 0, by rw [hfn]; exact ⟨rfl, rfl⟩, rfl, Kd.R_nil _ _ _ _ _, ?_⟩
  repeat (with_reducible refine below_put ?_ _ _ (Nat.le_refl _) _)
  exact hB1
 ·have hB1 := ((Below.refl W.heap.size W).alloc (Nat.le_refl _) _).trans (HB1.out.mono (by simp))
  have hB2 := (hB1.alloc (by have := hB1.size; omega) _).trans (HB2.out.mono (by have := hB1.size; simp; omega))
  have hw2 := fun j => (hc2 W.heap.size j (by simp; omega)).trans ((((Below.refl w1.heap.size w1).alloc (Nat.le_refl _) _).cell (p := ⟨W.heap.size, j, none⟩) hz1).trans (hc1 W.heap.size j (by simp)))
  have hne1 : ¬ w1.heap.size = W.heap.size := by omega
  have hne2 : ¬ W.heap.size = w1.heap.size := by omega
  clear hc1 hf1 hc2 hf2
  refine bodyPost_ret (v := .tuple #[.agg (nodeCells x (.slice Av x.f5.length cv)), .bool true]) (by simp [results, Tryz.results66, go_sem, hw2, hne1, hne2, nodeCells]) rfl ?_
  have hfn := findF_at HRI.out p n.toNat hnl HE.out
  rw [← hQ.out]
  refine ⟨x, true, .slice Av x.f5.length cv, by rw [hfn, ← HX.out]; exact ⟨rfl, rfl⟩, rfl, ?_, ?_⟩
  ·have hR : (Kd.int .u8).R 5 w2 (w1.heap.size + 1) (fun k => w1.heap.size + 1 ≤ k) (.slice Av x.f5.length cv) x.f5 := Kd.R_mono (Kd.R_bound (by have := HR2.out; simpa using this)) (fun k hk => hk.2.1)
   refine Kd.R_lower (base := w1.heap.size + 1) (Kd.R_mono (ok := fun k => w1.heap.size + 1 ≤ k) ?_ (fun _ _ => trivial)) (by omega)
   repeat (with_reducible refine row_put ?_ _ _ (by omega) _)
   exact hR
  ·repeat (with_reducible refine below_put ?_ _ _ (by omega) _)
   exact hB2
end Go.Proofs.YtbngbefchobfnaaGreatDoor

namespace Go.Proofs.YtbngbefchobfnaaGreatDoor
open Go.RowKit Go.Maps Go.Proofs.YtbngbefchobfnaaGreatDoor.Print Go.Proofs.YtbngbefchobfnaaGreatDoorW.PrintWords Go.Proofs.YtbngbefchobfnaaGreatDoorW.PrintLast Go.Proofs.YtbngbefchobfnaaGreatDoorW.PrintMore
set_option linter.unusedVariables false
set_option linter.unusedSimpArgs false
theorem zeroStr (w : World) : (zeroValue 9).run Tryz.prog w = .ok (.string ⟨#[]⟩) w := by kernel_rfl
end Go.Proofs.YtbngbefchobfnaaGreatDoor

namespace Go.Proofs.YtbngbefchobfnaaGreatDoor
open Go.RowKit Go.Maps Go.Proofs.YtbngbefchobfnaaGreatDoor.Print Go.Proofs.YtbngbefchobfnaaGreatDoorW.PrintWords Go.Proofs.YtbngbefchobfnaaGreatDoorW.PrintLast Go.Proofs.YtbngbefchobfnaaGreatDoorW.PrintMore
set_option linter.unusedVariables false
set_option linter.unusedSimpArgs false
theorem fkeep {w w1 : World} {p : Addr} {v : Value} (hb : Below w.heap.size w w1) (h : w.cell? p = some v) : w1.cell? p = some v := (hb.cell (World.block_lt_of_cell? w _ h)).trans h
theorem blk_lt' {w : World} {b : Nat} {o : Obj} (h : w.heap[b]? = some o) : b < w.heap.size := (Array.getElem?_eq_some_iff.1 h).1
theorem MapS.isMap {P : Program} {K : TypeId} {w : World} {b n : Nat} {f : List UInt8 → Option Value} (h : MapS P K w b n f) : ∀ cs q, w.heap[b]? = some (.cells cs q (0, 0)) → False := by
 obtain ⟨D, ⟨es, clock, hb, _⟩, _⟩ := h
 intro cs q h2
 rw [hb] at h2
 cases h2
theorem put_step {P : Program} {K e t : TypeId} {ops : Array Oper} {w : World} {b n : Nat} {f : List UInt8 → Option Value} {oi : Oper} {a : Act} {Kc : Act → World → Prop} {Q : Exit → Act → World → Prop} (h : MapS P K w b n f) (hw : Region.wanted oi (yielded ops a.tmps) = true) (hN : oi.dst = none) (m x v : Operand) (hop : oi.op = Op.mapUpdate t m x v)
  (hK : P.underlying K = some .string) (ht : P.underlying t = some (.map K e)) (hn : n < maxLen) (hm : a.eval m = .map (some b)) {s : ByteArray} (hx : a.eval x = .string s) (hs : s.size ≤ maxLen) {u : Value} (hv : a.eval v = u)
  (hk : ∀ w', MapS P K w' b (n + 1) (putS f s.data.toList u) → w.mapTurned w' b → Kc a w') : if Region.wanted oi (yielded ops a.tmps) = true then Oper.wp P oi a w Kc Q else Kc (a.put none undef) w := by
 obtain ⟨w', hrun, r1, r2⟩ := h.put hK ht hn hs u
 refine skip_ (w1 := w') hw hN ?_ (hk w' r1 r2)
 simp [execOp, hop, hm, hx, hv, hrun]
end Go.Proofs.YtbngbefchobfnaaGreatDoor

namespace Go.Proofs
open Go.Shelf
def Tryz.keys40_ren : Go.Shelf.Ren := ⟨fun | 7 => 40 | 10 => 57 | n => n, fun | 23 => 58 | 26 => 9 | 3 => 75 | 28 => 82 | 0 => 0 | 27 => 81 | 33 => 97 | 4 => 4 | n => n, fun | n => n⟩
theorem Tryz.keys40 : Go.Proofs.SlLaysZ.n7 Tryz.prog Tryz.keys40_ren := {
  mixed := by kernel_rfl
  f7 := ⟨Tryz.f40.name, by decide, Tryz.func40.trans (congrArg some (by kernel_rfl))⟩
  f10 := ⟨Tryz.f57.name, by decide, Tryz.func57.trans (congrArg some (by kernel_rfl))⟩
  t0 := Tryz.underlying0
  a0 := Tryz.isAgg0
  z0 := Tryz.sizeOf0
  v0 := Tryz.zeroValue0
  t4 := Tryz.underlying4
  a4 := Tryz.isAgg4
  z4 := Tryz.sizeOf4
  v4 := Tryz.zeroValue4
  t23 := Tryz.underlying58
  a23 := Tryz.isAgg58
  z23 := Tryz.sizeOf58
  v23 := Tryz.zeroValue58
  t26 := Tryz.underlying9
  a26 := Tryz.isAgg9
  z26 := Tryz.sizeOf9
  v26 := Tryz.zeroValue9
  t27 := Tryz.underlying81
  a27 := Tryz.isAgg81
  z27 := Tryz.sizeOf81
  v27 := Tryz.zeroValue81
  t28 := Tryz.underlying82
  a28 := Tryz.isAgg82
  z28 := Tryz.sizeOf82
  v28 := Tryz.zeroValue82
  t33 := Tryz.underlying97
  a33 := Tryz.isAgg97
  z33 := Tryz.sizeOf97
  v33 := Tryz.zeroValue97 }
def Tryz.sorted39_ren : Go.Shelf.Ren := ⟨fun | 6 => 39 | 8 => 55 | 9 => 56 | 11 => 69 | 13 => 71 | 12 => 70 | 23 => 87 | 24 => 88 | 14 => 78 | 15 => 79 | 16 => 80 | 17 => 81 | 18 => 82 | 19 => 83 | 20 => 84 | 21 => 85 | 22 => 86 | 25 => 95 | 26 => 96 | 27 => 97 | 28 => 98 | 29 => 99 | 30 => 100 | 31 => 109 | n => n, fun | 26 => 9 | 28 => 82 | 24 => 25 | 0 => 0 | 3 => 3 | 37 => 115 | 48 => 130 | 50 => 132 | 4 => 4 | 40 => 123 | 39 => 122 | 45 => 117 | 5 => 5 | 9 => 9 | 51 => 135 | 55 => 139 | 57 => 156 | 58 => 157 | 33 => 97 | n => n, fun | n => n⟩
theorem Tryz.sorted39 : Go.Proofs.SlLaysZ.n6 Tryz.prog Tryz.sorted39_ren := {
  mixed := by kernel_rfl
  f6 := ⟨Tryz.f39.name, by decide, Tryz.func39.trans (congrArg some (by kernel_rfl))⟩
  f8 := ⟨Tryz.f55.name, by decide, Tryz.func55.trans (congrArg some (by kernel_rfl))⟩
  f11 := ⟨Tryz.f69.name, by decide, Tryz.func69.trans (congrArg some (by kernel_rfl))⟩
  t0 := Tryz.underlying0
  a0 := Tryz.isAgg0
  z0 := Tryz.sizeOf0
  v0 := Tryz.zeroValue0
  t24 := Tryz.underlying25
  a24 := Tryz.isAgg25
  z24 := Tryz.sizeOf25
  v24 := Tryz.zeroValue25
  t26 := Tryz.underlying9
  a26 := Tryz.isAgg9
  z26 := Tryz.sizeOf9
  v26 := Tryz.zeroValue9
  t28 := Tryz.underlying82
  a28 := Tryz.isAgg82
  z28 := Tryz.sizeOf82
  v28 := Tryz.zeroValue82
  i26 := by kernel_rfl }
def Tryz.sort56_ren : Go.Shelf.Ren := ⟨fun | 6 => 56 | 8 => 71 | 9 => 70 | 19 => 87 | 20 => 88 | 21 => 78 | 22 => 79 | 23 => 80 | 24 => 81 | 25 => 82 | 26 => 83 | 27 => 84 | 28 => 85 | 29 => 86 | 36 => 95 | 31 => 96 | 32 => 97 | 37 => 98 | 38 => 99 | 39 => 100 | 41 => 109 | n => n, fun | 27 => 25 | 29 => 9 | 3 => 3 | 32 => 115 | 26 => 25 | 0 => 0 | 44 => 130 | 46 => 132 | 4 => 4 | 36 => 123 | 35 => 122 | 41 => 117 | 5 => 5 | 9 => 9 | 53 => 135 | 57 => 139 | 63 => 156 | 64 => 157 | n => n, fun | n => n⟩
theorem Tryz.sort56 : Go.Proofs.SlLaysM.n6 Tryz.prog Tryz.sort56_ren := {
  mixed := by kernel_rfl
  f6 := ⟨Tryz.f56.name, by decide, Tryz.func56.trans (congrArg some (by kernel_rfl))⟩
  f8 := Tryz.func71.trans (congrArg some (by kernel_rfl))
  f9 := ⟨Tryz.f70.name, by decide, Tryz.func70.trans (congrArg some (by kernel_rfl))⟩
  f19 := Tryz.func87.trans (congrArg some (by kernel_rfl))
  f20 := Tryz.func88.trans (congrArg some (by kernel_rfl))
  f21 := ⟨Tryz.f78.name, by decide, Tryz.func78.trans (congrArg some (by kernel_rfl))⟩
  f22 := ⟨Tryz.f79.name, by decide, Tryz.func79.trans (congrArg some (by kernel_rfl))⟩
  f23 := ⟨Tryz.f80.name, by decide, Tryz.func80.trans (congrArg some (by kernel_rfl))⟩
  f24 := ⟨Tryz.f81.name, by decide, Tryz.func81.trans (congrArg some (by kernel_rfl))⟩
  f25 := ⟨Tryz.f82.name, by decide, Tryz.func82.trans (congrArg some (by kernel_rfl))⟩
  f26 := ⟨Tryz.f83.name, by decide, Tryz.func83.trans (congrArg some (by kernel_rfl))⟩
  f27 := ⟨Tryz.f84.name, by decide, Tryz.func84.trans (congrArg some (by kernel_rfl))⟩
  f28 := ⟨Tryz.f85.name, by decide, Tryz.func85.trans (congrArg some (by kernel_rfl))⟩
  f29 := ⟨Tryz.f86.name, by decide, Tryz.func86.trans (congrArg some (by kernel_rfl))⟩
  f31 := Tryz.func96.trans (congrArg some (by kernel_rfl))
  f32 := Tryz.func97.trans (congrArg some (by kernel_rfl))
  f36 := ⟨Tryz.f95.name, by decide, Tryz.func95.trans (congrArg some (by kernel_rfl))⟩
  f37 := ⟨Tryz.f98.name, by decide, Tryz.func98.trans (congrArg some (by kernel_rfl))⟩
  f38 := ⟨Tryz.f99.name, by decide, Tryz.func99.trans (congrArg some (by kernel_rfl))⟩
  f39 := ⟨Tryz.f100.name, by decide, Tryz.func100.trans (congrArg some (by kernel_rfl))⟩
  f41 := ⟨Tryz.f109.name, by decide, Tryz.func109.trans (congrArg some (by kernel_rfl))⟩
  t0 := Tryz.underlying0
  a0 := Tryz.isAgg0
  z0 := Tryz.sizeOf0
  v0 := Tryz.zeroValue0
  t3 := Tryz.underlying3
  a3 := Tryz.isAgg3
  z3 := Tryz.sizeOf3
  v3 := Tryz.zeroValue3
  t4 := Tryz.underlying4
  a4 := Tryz.isAgg4
  z4 := Tryz.sizeOf4
  v4 := Tryz.zeroValue4
  t5 := Tryz.underlying5
  a5 := Tryz.isAgg5
  z5 := Tryz.sizeOf5
  v5 := Tryz.zeroValue5
  t9 := Tryz.underlying9
  a9 := Tryz.isAgg9
  z9 := Tryz.sizeOf9
  v9 := Tryz.zeroValue9
  t26 := Tryz.underlying25
  a26 := Tryz.isAgg25
  z26 := Tryz.sizeOf25
  v26 := Tryz.zeroValue25
  t27 := Tryz.underlying25
  a27 := Tryz.isAgg25
  z27 := Tryz.sizeOf25
  v27 := Tryz.zeroValue25
  t29 := Tryz.underlying9
  a29 := Tryz.isAgg9
  z29 := Tryz.sizeOf9
  v29 := Tryz.zeroValue9
  t32 := Tryz.underlying115
  a32 := Tryz.isAgg115
  z32 := Tryz.sizeOf115
  v32 := Tryz.zeroValue115
  t35 := Tryz.underlying122
  a35 := Tryz.isAgg122
  z35 := Tryz.sizeOf122
  v35 := Tryz.zeroValue122
  t36 := Tryz.underlying123
  a36 := Tryz.isAgg123
  z36 := Tryz.sizeOf123
  v36 := Tryz.zeroValue123
  t41 := Tryz.underlying117
  a41 := Tryz.isAgg117
  z41 := Tryz.sizeOf117
  v41 := Tryz.zeroValue117
  t44 := Tryz.underlying130
  a44 := Tryz.isAgg130
  z44 := Tryz.sizeOf130
  v44 := Tryz.zeroValue130
  t46 := Tryz.underlying132
  a46 := Tryz.isAgg132
  z46 := Tryz.sizeOf132
  v46 := Tryz.zeroValue132
  t53 := Tryz.underlying135
  a53 := Tryz.isAgg135
  z53 := Tryz.sizeOf135
  v53 := Tryz.zeroValue135
  t57 := Tryz.underlying139
  a57 := Tryz.isAgg139
  z57 := Tryz.sizeOf139
  v57 := Tryz.zeroValue139
  t63 := Tryz.underlying156
  a63 := Tryz.isAgg156
  z63 := Tryz.sizeOf156
  v63 := Tryz.zeroValue156
  t64 := Tryz.underlying157
  a64 := Tryz.isAgg157
  z64 := Tryz.sizeOf157
  v64 := Tryz.zeroValue157 }
def Tryz.keys44_ren : Go.Shelf.Ren := ⟨fun | 7 => 44 | 10 => 59 | n => n, fun | 23 => 86 | 26 => 9 | 3 => 42 | 28 => 82 | 0 => 0 | 27 => 81 | 33 => 97 | 4 => 4 | n => n, fun | n => n⟩
theorem Tryz.keys44 : Go.Proofs.SlLaysZ.n7 Tryz.prog Tryz.keys44_ren := {
  mixed := by kernel_rfl
  f7 := ⟨Tryz.f44.name, by decide, Tryz.func44.trans (congrArg some (by kernel_rfl))⟩
  f10 := ⟨Tryz.f59.name, by decide, Tryz.func59.trans (congrArg some (by kernel_rfl))⟩
  t0 := Tryz.underlying0
  a0 := Tryz.isAgg0
  z0 := Tryz.sizeOf0
  v0 := Tryz.zeroValue0
  t4 := Tryz.underlying4
  a4 := Tryz.isAgg4
  z4 := Tryz.sizeOf4
  v4 := Tryz.zeroValue4
  t23 := Tryz.underlying86
  a23 := Tryz.isAgg86
  z23 := Tryz.sizeOf86
  v23 := Tryz.zeroValue86
  t26 := Tryz.underlying9
  a26 := Tryz.isAgg9
  z26 := Tryz.sizeOf9
  v26 := Tryz.zeroValue9
  t27 := Tryz.underlying81
  a27 := Tryz.isAgg81
  z27 := Tryz.sizeOf81
  v27 := Tryz.zeroValue81
  t28 := Tryz.underlying82
  a28 := Tryz.isAgg82
  z28 := Tryz.sizeOf82
  v28 := Tryz.zeroValue82
  t33 := Tryz.underlying97
  a33 := Tryz.isAgg97
  z33 := Tryz.sizeOf97
  v33 := Tryz.zeroValue97 }
open Go.RowKit Go.Maps Go.Sort
theorem Tryz.sorts39 (m : Nat) : AnyZ.SortsIn Tryz.prog Tryz.sorted39_ren Fence.wide m :=
  ⟨fun blk off cap ss W hH hblk hsz => callsIn_wide.2 (AnyM.slices_Sort_string Tryz.sort56 blk off cap ss W hH hblk hsz),
   fun p cap W => callsIn_wide.2 (AnyM.slices_Sort_string_none Tryz.sort56 p cap W)⟩
theorem Tryz.maps_Keys_40 (mb : Option Nat) (W : World) : CallsIn Fence.wide 5 Tryz.prog 40 #[.map mb] W fun e w' => e = .returned (.func (.func 57) #[] #[.pointer (some ⟨W.heap.size, 0, none⟩)]) ∧ w' = W.alloc (.cells #[.map mb] 58) :=
  AnyZ.keys_in Tryz.keys40 Fence.wide 5 trivial rfl mb W
set_option maxHeartbeats 1000000 in
theorem Tryz.slices_Sorted_keys_39_40 {H : Type} (b nn : Nat) (D0 : DataW H) (R : Value → Option (DataW H × List MemPlace)) (w : World) (hown : w.ownsMap Tryz.prog 9 R b nn D0) (hmax : Maps.size D0 ≤ maxLen) (hbytes : Maps.size D0 * 16 ≤ 140737488355328) :
    CallsIn Fence.wide 5 Tryz.prog 39 #[.func (.func 57) #[] #[.pointer (some ⟨w.heap.size, 0, none⟩)]] (w.alloc (.cells #[.map (some b)] 58)) fun e w' => ∃ (v : Value) (ss : List (List UInt8)), e = .returned v ∧ ss.Perm (strKeys D0) ∧
      w'.ownsRow (w.alloc (.cells #[.map (some b)] 58)).heap.size 9 1 v ss.length ((ss.mergeSort (fun x y => decide (x ≤ y))).map encStr) ∧ (v = .slice none 0 0 ↔ ss = []) ∧ Below (w.alloc (.cells #[.map (some b)] 58)).heap.size (w.alloc (.cells #[.map (some b)] 58)) w' := by
  have hbl := hown.lt
  have hseq : SeqGives Fence.wide 2 Tryz.prog 57 #[.pointer (some ⟨w.heap.size, 0, none⟩)] encStr (fun ss => ss.Perm (strKeys D0)) (Maps.size D0) (w.alloc (.cells #[.map (some b)] 58)) :=
    AnyZ.keys_gives (ρ := Tryz.keys40_ren) { Tryz.keys40 with } Fence.wide _ trivial rfl (by omega) w.heap.size b nn D0 _ (by simp) (by simp) (by
      obtain ⟨es, clock, hb, Ft, hs, hD⟩ := hown
      exact ⟨es, clock, (Below.heap_alloc _ _ b hbl).trans hb, Ft, hs, hD⟩)
  exact AnyZ.sorted_in Tryz.sorted39 Fence.wide 5 trivial trivial trivial trivial rfl (by omega) (Tryz.sorts39 _) (enters_of Tryz.func56 (by kernel_rfl) rfl) 57 #[.pointer (some ⟨w.heap.size, 0, none⟩)] trivial (enters_of Tryz.func57 (by kernel_rfl) rfl) _ _ hmax hbytes _ hseq
theorem Tryz.maps_Keys_44 (mb : Option Nat) (W : World) : CallsIn Fence.wide 5 Tryz.prog 44 #[.map mb] W fun e w' => e = .returned (.func (.func 59) #[] #[.pointer (some ⟨W.heap.size, 0, none⟩)]) ∧ w' = W.alloc (.cells #[.map mb] 86) :=
  AnyZ.keys_in Tryz.keys44 Fence.wide 5 trivial rfl mb W
set_option maxHeartbeats 1000000 in
theorem Tryz.slices_Sorted_keys_39_44 {H : Type} (b nn : Nat) (D0 : DataW H) (R : Value → Option (DataW H × List MemPlace)) (w : World) (hown : w.ownsMap Tryz.prog 9 R b nn D0) (hmax : Maps.size D0 ≤ maxLen) (hbytes : Maps.size D0 * 16 ≤ 140737488355328) :
    CallsIn Fence.wide 5 Tryz.prog 39 #[.func (.func 59) #[] #[.pointer (some ⟨w.heap.size, 0, none⟩)]] (w.alloc (.cells #[.map (some b)] 86)) fun e w' => ∃ (v : Value) (ss : List (List UInt8)), e = .returned v ∧ ss.Perm (strKeys D0) ∧
      w'.ownsRow (w.alloc (.cells #[.map (some b)] 86)).heap.size 9 1 v ss.length ((ss.mergeSort (fun x y => decide (x ≤ y))).map encStr) ∧ (v = .slice none 0 0 ↔ ss = []) ∧ Below (w.alloc (.cells #[.map (some b)] 86)).heap.size (w.alloc (.cells #[.map (some b)] 86)) w' := by
  have hbl := hown.lt
  have hseq : SeqGives Fence.wide 2 Tryz.prog 59 #[.pointer (some ⟨w.heap.size, 0, none⟩)] encStr (fun ss => ss.Perm (strKeys D0)) (Maps.size D0) (w.alloc (.cells #[.map (some b)] 86)) :=
    AnyZ.keys_gives (ρ := Tryz.keys44_ren) { Tryz.keys44 with } Fence.wide _ trivial rfl (by omega) w.heap.size b nn D0 _ (by simp) (by simp) (by
      obtain ⟨es, clock, hb, Ft, hs, hD⟩ := hown
      exact ⟨es, clock, (Below.heap_alloc _ _ b hbl).trans hb, Ft, hs, hD⟩)
  exact AnyZ.sorted_in Tryz.sorted39 Fence.wide 5 trivial trivial trivial trivial rfl (by omega) (Tryz.sorts39 _) (enters_of Tryz.func56 (by kernel_rfl) rfl) 59 #[.pointer (some ⟨w.heap.size, 0, none⟩)] trivial (enters_of Tryz.func59 (by kernel_rfl) rfl) _ _ hmax hbytes _ hseq
end Go.Proofs

namespace Go.Proofs.YtbngbefchobfnaaGreatDoor
open Go.RowKit Go.Maps Go.Proofs.YtbngbefchobfnaaGreatDoor.Print Go.Proofs.YtbngbefchobfnaaGreatDoorW.PrintWords Go.Proofs.YtbngbefchobfnaaGreatDoorW.PrintLast Go.Proofs.YtbngbefchobfnaaGreatDoorW.PrintMore
set_option linter.unusedVariables false
set_option linter.unusedSimpArgs false
theorem sorted_row {w : World} {b : Nat} {v : Value} {ss : List (List UInt8)} {s : PS} (h : w.ownsRow b 9 1 v ss.length ((ss.mergeSort (fun x y => decide (x ≤ y))).map encStr)) (hp : ss.Perm (keysP s)) (hn : (s.map (fun q => q.1)).Nodup) :
  (∃ A c, v = .slice A (sortP s).length c) ∧ Kd.R Kd.string 9 w b (fun _ => True) v ((sortP s).map (fun q => q.1)) := by
 have hR : Kd.R Kd.string 9 w b (fun _ => True) v ((sortP s).map (fun q => q.1)) := by
  refine Kd.R_of_own ?_ (fun _ _ => trivial)
  rw [keys_sorted hn hp] at h
  have e1 : ss.length = ((sortP s).map (fun q => q.1)).length := by rw [hp.length_eq, List.length_map, sortP_len]; unfold keysP; rw [List.length_map]
  rw [e1] at h
  have e2 : (keysP (sortP s)).map encStr = encs Value.string ((sortP s).map (fun q => q.1)) := by
   unfold keysP encs
   rw [List.map_map, List.map_map]
   refine List.map_congr_left (fun q _ => ?_)
   simp [encStr]
  rw [e2] at h
  exact h
 obtain ⟨A, c, e⟩ := Kd.R_slice hR
 exact ⟨⟨A, c, by rw [e, List.length_map]⟩, hR⟩
end Go.Proofs.YtbngbefchobfnaaGreatDoor

namespace Go.Proofs.YtbngbefchobfnaaGreatDoor
open Go.RowKit Go.Maps Go.Proofs.YtbngbefchobfnaaGreatDoor.Print Go.Proofs.YtbngbefchobfnaaGreatDoorW.PrintWords Go.Proofs.YtbngbefchobfnaaGreatDoorW.PrintLast Go.Proofs.YtbngbefchobfnaaGreatDoorW.PrintMore
set_option linter.unusedVariables false
set_option linter.unusedSimpArgs false
def atL (s : PL) (k : List UInt8) : Option PEnt := s.find? (fun e => decide (e.path.data.toList = k))
theorem atL_at (s : PL) (p : ByteArray) : atL s p.data.toList = atE s p := by
 unfold atL atE
 congr 1
 funext e
 rw [Lib.toList_data, Lib.toList_data]
theorem atL_put (s : PL) (e : PEnt) (k : List UInt8) : atL (putE s e) k = if k = e.path.data.toList then some e else atL s k := by
 have h := atL_at (putE s e) ⟨k.toArray⟩
 have h2 := atL_at s ⟨k.toArray⟩
 simp only at h h2
 rw [h, atE_put, h2]
 by_cases hk : k = e.path.data.toList
 ·have : (⟨k.toArray⟩ : ByteArray) = e.path := ba_data.1 (by simpa using hk)
  rw [if_pos this, if_pos hk]
 ·have : (⟨k.toArray⟩ : ByteArray) ≠ e.path := fun e2 => hk (by rw [← e2])
  rw [if_neg this, if_neg hk]
def keyV (e : PEnt) : Value := .agg #[.int .i64 e.tree, .string e.node.f2]
def nodV (V : List UInt8 → Value) (s : PL) : List UInt8 → Option Value := fun k => (atL s k).map (fun e => Value.agg (nodeCells e.node (V k)))
def keyM (s : PL) : List UInt8 → Option Value := fun k => (atL s k).map keyV
def EntZ (e : PEnt) : Prop := e.path.size ≤ 140737488351232 ∧ NodeZ e.node ∧ (Lit.int .i64 e.tree).wf = true
structure PileAt (w : World) (base g d1 d2 n : Nat) (s : PL) : Prop where
 fence : base ≤ g ∧ base ≤ d1 ∧ base ≤ d2 ∧ d1 ≠ d2
 box : w.heap[g]? = some (.cells #[.map (some d1), .map (some d2)] 89 (0, 0))
 nodes : ∃ V : List UInt8 → Value, MapS Tryz.prog 9 w d1 n (nodV V s) ∧ ∀ k e, atL s k = some e → Kd.R (Kd.int .u8) 5 w base (fun _ => True) (V k) e.node.f5
 keys : MapS Tryz.prog 9 w d2 n (keyM s)
 nodup : NodupE s
 small : ∀ e ∈ s, EntZ e
theorem PileAt.below {w w1 : World} {base g d1 d2 n : Nat} {s : PL} (h : PileAt w base g d1 d2 n s) (hb : Below w.heap.size w w1) : PileAt w1 base g d1 d2 n s := by
 obtain ⟨V, h1, h2⟩ := h.nodes
 exact ⟨h.fence, (hb.block g (blk_lt' h.box)).trans h.box, ⟨V, h1.below hb, fun k e he => Kd.R_below (h2 k e he) hb⟩, h.keys.below hb, h.nodup, h.small⟩
theorem R_turned {w w1 : World} {base b : Nat} {v : Value} {xs : List Int} (h : Kd.R (Kd.int .u8) 5 w base (fun _ => True) v xs) (hm : w.mapTurned w1 b) : Kd.R (Kd.int .u8) 5 w1 base (fun _ => True) v xs := by
 obtain ⟨es, clock, _, _, hb, _⟩ := id hm
 refine Kd.R_mono (Kd.R_grown (Kd.R_bound h) (turned_grown hm) (fun k hk e => ?_)) (fun _ _ => trivial)
 injection e with e
 subst e
 obtain ⟨_, _, _, q, hq, cs, hc⟩ := hk
 rw [hb] at hc
 cases hc
theorem turned_box {w w1 : World} {b g : Nat} {cs : Array Value} {t : TypeId} (hm : w.mapTurned w1 b) (h : w.heap[g]? = some (.cells cs t (0, 0))) : w1.heap[g]? = some (.cells cs t (0, 0)) ∧ g ≠ b := by
 obtain ⟨es, clock, _, _, hb, _⟩ := id hm
 have hne : g ≠ b := fun e => by
  subst e
  rw [hb] at h
  cases h
 exact ⟨((turned_grown hm).block g (blk_lt' h) (fun e => hne (by injection e))).trans h, hne⟩
theorem turned_below {base : Nat} {w w1 : World} {b : Nat} (hm : w.mapTurned w1 b) (hb : base ≤ b) (hs : base ≤ w.heap.size) : Below base w w1 := by
 have hg := turned_grown hm
 exact ⟨hg.os, hg.tape, hg.output, hg.size, fun k hk => hg.block k (by omega) (fun e => by injection e with e; omega)⟩
theorem boxed2 {w : World} {g : Nat} {a b : Value} {t : TypeId} (h : w.heap[g]? = some (.cells #[a, b] t (0, 0))) : w.cell? ⟨g, 0, none⟩ = some a ∧ w.cell? ⟨g, 1, none⟩ = some b := by
 refine ⟨?_, ?_⟩ <;> · unfold World.cell?; dsimp only; rw [h]; rfl
theorem put_cells {w : World} {g b d1 d2 : Nat} {x : Node} {v : Value} {t t' : TypeId} (h1 : w.heap[g]? = some (.cells #[.map (some d1), .map (some d2)] t (0, 0))) (h2 : w.heap[b]? = some (.cells (nodeCells x v) t' (0, 0))) :
  w.cell? ⟨g, 0, none⟩ = some (.map (some d1)) ∧ w.cell? ⟨g, 1, none⟩ = some (.map (some d2)) ∧ w.cell? ⟨b, 0, none⟩ = some (.string x.f0) ∧ w.cell? ⟨b, 1, none⟩ = some (.string x.f1) ∧ w.cell? ⟨b, 2, none⟩ = some (.string x.f2) ∧ w.cell? ⟨b, 3, none⟩ = some (.int .u8 x.f3) ∧ w.cell? ⟨b, 4, none⟩ = some (.int .i64 x.f4.f0) ∧ w.cell? ⟨b, 5, none⟩ = some (.int .i64 x.f4.f1) ∧ w.cell? ⟨b, 6, none⟩ = some (.int .i64 x.f4.f2) ∧ w.cell? ⟨b, 7, none⟩ = some (.int .i64 x.f4.f3) ∧ w.cell? ⟨b, 8, none⟩ = some v := by
 obtain ⟨q0, q1⟩ := boxed2 h1
 refine ⟨q0, q1, ?_, ?_, ?_, ?_, ?_, ?_, ?_, ?_, ?_⟩ <;> · unfold World.cell?; dsimp only; rw [h2]; rfl
theorem zeroNode (w : World) : (zeroValue 42).run Tryz.prog w = .ok (.agg #[.string ⟨#[]⟩, .string ⟨#[]⟩, .string ⟨#[]⟩, .int .u8 0, .int .i64 0, .int .i64 0, .int .i64 0, .int .i64 0, .slice none 0 0]) w := by kernel_rfl
theorem zeroKey (w : World) : (zeroValue 94).run Tryz.prog w = .ok (.agg #[.int .i64 0, .string ⟨#[]⟩]) w := by kernel_rfl
set_option maxRecDepth 100000 in
theorem New_calls (base : Nat) (W : World) (hbase : base ≤ W.heap.size) : Calls Tryz.prog 36 #[] W fun e W' => ∃ g d1 d2, e = .returned (.pointer (some ⟨g, 0, none⟩)) ∧ PileAt W' base g d1 d2 0 [] ∧ Below W.heap.size W W' := by
 have hmm := @run_makeMap Tryz.prog
 generalize hpost : (fun (e : Ending) (W' : World) => ∃ g d1 d2, e = .returned (.pointer (some ⟨g, 0, none⟩)) ∧ PileAt W' base g d1 d2 0 [] ∧ Below W.heap.size W W') = Q
 have hQ := Aside0.mk hpost
 clear hpost
 go_enter Tryz.func36, Tryz.ntmps36
 go_wp2
 rw [← hQ.out]
 have hm1 : MapS Tryz.prog 9 (((W.alloc (.map #[] 0)).alloc (.map #[] 0)).alloc (.cells #[.map (some W.heap.size), .map (some (W.heap.size + 1))] 89)) W.heap.size 0 (fun _ => none) := ((MapS.made _ _ W).alloc _).alloc _
 have hm2 : MapS Tryz.prog 9 (((W.alloc (.map #[] 0)).alloc (.map #[] 0)).alloc (.cells #[.map (some W.heap.size), .map (some (W.heap.size + 1))] 89)) (W.heap.size + 1) 0 (fun _ => none) := by
  have := (MapS.made Tryz.prog 9 (W.alloc (.map #[] 0))).alloc (.cells #[.map (some W.heap.size), .map (some (W.heap.size + 1))] 89)
  rw [World.size_alloc] at this
  exact this
 have hb1 := blk_new ((W.alloc (.map #[] 0)).alloc (.map #[] 0)) (.cells #[.map (some W.heap.size), .map (some (W.heap.size + 1))] 89)
 rw [World.size_alloc, World.size_alloc] at hb1
 refine ⟨W.heap.size + 1 + 1, W.heap.size, W.heap.size + 1, rfl, ⟨⟨by omega, by omega, by omega, by omega⟩, hb1, ⟨fun _ => undef, hm1.ext (fun s => rfl), fun k e h => by cases h⟩, hm2.ext (fun s => rfl), List.nodup_nil, fun e he => by cases he⟩, below_alloc (below_alloc (below_alloc (Below.refl _ _) _) _) _⟩
end Go.Proofs.YtbngbefchobfnaaGreatDoor

namespace Go.Proofs.YtbngbefchobfnaaGreatDoor
open Go.RowKit Go.Maps Go.WideMaps Go.ChangeShapes Go.WideShapes Go.Proofs.YtbngbefchobfnaaGreatDoor.Print
set_option maxRecDepth 100000 in
theorem keyLaw : KeyLaw Tryz.prog 94 := deep_law_laid (by kernel_rfl) (m := 2) (by omega) (of_decide_eq_true (by kernel_rfl)) (by kernel_rfl) (by kernel_rfl)
set_option maxRecDepth 100000 in
theorem keyOf_key {e : PEnt} (hz : EntZ e) : ∃ l, keyOf Tryz.prog 94 (keyV e) = some l := by
 have hs : e.node.f2.size ≤ maxLen := by have := hz.2.1.2.2.1; exact Nat.le_trans this (by unfold maxLen; decide)
 have ht := hz.2.2
 have hkt : Tryz.prog.keyType 94 = true := by kernel_rfl
 have hsz : ∃ m, Tryz.prog.types.size = m + 2 := ⟨Tryz.prog.types.size - 2, by have : 2 ≤ Tryz.prog.types.size := of_decide_eq_true (by kernel_rfl); omega⟩
 obtain ⟨m, hm⟩ := hsz
 unfold keyOf keyV
 simp only [Tryz.underlying94]
 rw [if_pos (by simp [hkt, Value.formed, Tryz.underlying94]; kernel_rfl), hm]
 unfold Program.keyLits
 simp only [Tryz.underlying94, Value.cells]
 have c3 : Tryz.prog.cellsOf 3 = 1 := by kernel_rfl
 have c9 : Tryz.prog.cellsOf 9 = 1 := by kernel_rfl
 have c88 : Tryz.prog.cellsOf 94 = 2 := by kernel_rfl
 rw [if_pos ⟨by rw [c88]; rfl, by kernel_rfl⟩]
 simp only [List.mapM_cons, List.mapM_nil, c3, c9, List.drop_zero, List.drop_succ_cons, List.take_succ_cons, List.take_zero]
 simp [Program.keyLits, Tryz.underlying3, Tryz.underlying9, ht, hs]
end Go.Proofs.YtbngbefchobfnaaGreatDoor

namespace Go.Proofs.YtbngbefchobfnaaGreatDoor
open Go.RowKit Go.Maps Go.WideMaps Go.Proofs.YtbngbefchobfnaaGreatDoor.Print Go.Proofs.YtbngbefchobfnaaGreatDoorW.PrintWords Go.Proofs.YtbngbefchobfnaaGreatDoorW.PrintLast Go.Proofs.YtbngbefchobfnaaGreatDoorW.PrintMore
set_option linter.unusedVariables false
set_option linter.unusedSimpArgs false
def psE (s : PL) : PS := s.map (fun e => (e.path, 0))
theorem psE_keys (s : PL) : keysP (psE s) = s.map (fun e => e.path.data.toList) := by unfold keysP psE; rw [List.map_map]; rfl
theorem psE_paths (s : PL) : (psE s).map (fun q => q.1) = s.map (fun e => e.path) := by unfold psE; rw [List.map_map]; rfl
theorem psE_ins (q : PEnt) : ∀ s : PL, psE (insE q s) = insP (q.path, 0) (psE s)
 | [] => rfl
 | r :: s => by
  unfold insE psE
  by_cases h : lt q.path r.path = true
  ·rw [if_pos h]
   simp only [List.map_cons, insP]
   rw [if_pos h]
  ·rw [if_neg h]
   simp only [List.map_cons, insP]
   rw [if_neg h]
   have := psE_ins q s
   unfold psE at this
   rw [this]
theorem psE_sort : ∀ s : PL, psE (sortE s) = sortP (psE s)
 | [] => rfl
 | q :: s => by
  show psE (insE q (sortE s)) = insP (q.path, 0) (sortP (psE s))
  rw [psE_ins, psE_sort s]
theorem atL_is (s : PL) (k : List UInt8) : k ∈ s.map (fun e => e.path.data.toList) ↔ (atL s k).isSome = true := by
 unfold atL
 rw [List.find?_isSome, List.mem_map]
 exact ⟨fun ⟨e, h1, h2⟩ => ⟨e, h1, by simpa using h2⟩, fun ⟨e, h1, h2⟩ => ⟨e, h1, by simpa using h2⟩⟩
theorem nodupE_data {s : PL} (h : NodupE s) : (s.map (fun e => e.path.data.toList)).Nodup := by
 have := keysP_nodup (s := psE s) (by rw [psE_paths]; exact h)
 rw [psE_keys] at this
 exact this
theorem pile_keys {w : World} {d n : Nat} {s : PL} {V : List UInt8 → Value} (h : MapS Tryz.prog 9 w d n (nodV V s)) (hn : NodupE s) : ∃ D : DataW Value, w.ownsMap Tryz.prog 9 heldE d n D ∧ (keysP (psE s)).Perm (strKeys D) ∧ Maps.size D = s.length := by
 obtain ⟨D, h1, h2, h3⟩ := h.keys Tryz.underlying9 (nodupE_data hn) (fun k => by rw [atL_is]; unfold nodV; cases atL s k <;> rfl)
 exact ⟨D, h1, by rw [psE_keys]; exact h2, by rw [h3, List.length_map]⟩
set_option maxRecDepth 100000 in
theorem Len_calls (base g d1 d2 n : Nat) (s : PL) (W : World) (hP : PileAt W base g d1 d2 n s) : Calls Tryz.prog 29 #[.pointer (some ⟨g, 0, none⟩)] W fun e W' => e = .returned (.int .i64 s.length) ∧ Below W.heap.size W W' := by
 obtain ⟨V, hM, _⟩ := hP.nodes
 obtain ⟨D, hD, _, hsz⟩ := pile_keys hM hP.nodup
 obtain ⟨q0, q1⟩ := boxed2 hP.box
 have HD := Aside0.mk hD
 have HS := Aside0.mk hsz
 clear hM hD hsz hP
 generalize hpost : (fun (e : Ending) (W' : World) => e = .returned (.int .i64 s.length) ∧ Below W.heap.size W W') = Q
 have hQ := Aside0.mk hpost
 clear hpost
 go_enter Tryz.func29, Tryz.ntmps29
 go_wp2_with (at_len; refine wpList_len_own _ rfl _ 86 rfl 9 42 Tryz.underlying86 heldE d1 n D rfl HD.out ?_; rw [HS.out])
 rw [← hQ.out]
 exact ⟨rfl, Below.refl _ _⟩
open Classical in
noncomputable def isK (v : Value) (q : PEnt) : Bool := decide (q.node.f3 = 48 ∧ keyV q = v)
theorem isK_iff {v : Value} {q : PEnt} : isK v q = true ↔ q.node.f3 = 48 ∧ keyV q = v := by unfold isK; simp
theorem isK_not {v : Value} {q : PEnt} (h : ¬ (q.node.f3 = 48 ∧ keyV q = v)) : isK v q = false := by rw [Bool.eq_false_iff]; exact fun e => h (isK_iff.1 e)
noncomputable def fk (l : PL) : Value → Option Value := fun v => (l.find? (isK v)).map (fun q => .string q.path)
theorem keyV_eq {e q : PEnt} : keyV q = keyV e ↔ q.tree = e.tree ∧ q.node.f2 = e.node.f2 := by
 unfold keyV
 constructor
 ·intro h
  injection h with h
  have h := congrArg Array.toList h
  simp at h
  exact h
 ·rintro ⟨h1, h2⟩
  rw [h1, h2]
theorem fk_key (l : PL) (e : PEnt) : fk l (keyV e) = (l.find? (oneE e)).map (fun q => .string q.path) := by
 unfold fk
 congr 2
 funext q
 rw [Bool.eq_iff_iff, oneE_iff, isK_iff, keyV_eq]
theorem fk_snoc (l : PL) (e : PEnt) (v : Value) : fk (l ++ [e]) v = match fk l v with | some u => some u | none => if isK v e = true then some (.string e.path) else none := by
 unfold fk
 rw [List.find?_append]
 cases List.find? (isK v) l with
 | some q => rfl
 | none =>
  simp only [Option.none_or, Option.map_none]
  by_cases h : isK v e = true
  ·rw [List.find?_cons_of_pos h, if_pos h]; rfl
  ·rw [List.find?_cons_of_neg h, if_neg h]; rfl
theorem fk_other {l : PL} {e : PEnt} (h : ¬ e.node.f3 = 48) (v : Value) : fk (l ++ [e]) v = fk l v := by
 rw [fk_snoc, isK_not (fun h2 => h h2.1)]
 cases fk l v <;> rfl
theorem fk_old {l : PL} {e : PEnt} {u : Value} (h : fk l (keyV e) = some u) (v : Value) : fk (l ++ [e]) v = fk l v := by
 rw [fk_snoc]
 cases hf : fk l v with
 | some q => rfl
 | none =>
  rw [isK_not (fun h2 => by rw [h2.2, hf] at h; cases h)]
  rfl
theorem fk_new {l : PL} {e : PEnt} (h48 : e.node.f3 = 48) (h : fk l (keyV e) = none) (v : Value) : putK (fk l) (keyV e) (.string e.path) v = fk (l ++ [e]) v := by
 unfold putK
 rw [fk_snoc]
 by_cases hv : v = keyV e
 ·subst hv
  rw [if_pos rfl, h, isK_iff.2 ⟨h48, rfl⟩]
  rfl
 ·rw [if_neg hv, isK_not (fun h2 => hv h2.2.symm)]
  cases fk l v <;> rfl
theorem lead_old {sp : PL} {n : Nat} (hn : n < sp.length) {p : ByteArray} (h : fk (sp.take n) (keyV sp[n]) = some (.string p)) : leadE sp sp[n] = p := by
 rw [fk_key] at h
 obtain ⟨q, hq, e⟩ := Option.map_eq_some_iff.1 h
 injection e with e
 unfold leadE
 have h2 : sp.find? (oneE sp[n]) = some q := by
  have h4 : (sp.take n ++ sp.drop n).find? (oneE sp[n]) = some q := by rw [List.find?_append, hq]; rfl
  rw [List.take_append_drop] at h4
  exact h4
 rw [h2]
 exact e
theorem lead_new {sp : PL} {n : Nat} (hn : n < sp.length) (h48 : sp[n].node.f3 = 48) (h : fk (sp.take n) (keyV sp[n]) = none) : leadE sp sp[n] = sp[n].path := by
 rw [fk_key, Option.map_eq_none_iff] at h
 unfold leadE
 have h2 : sp.find? (oneE sp[n]) = some sp[n] := by
  have h4 : (sp.take n ++ sp.drop n).find? (oneE sp[n]) = some sp[n] := by
   rw [List.find?_append, h, List.drop_eq_getElem_cons hn, List.find?_cons_of_pos (oneE_iff.2 ⟨h48, rfl, rfl⟩)]
   rfl
  rw [List.take_append_drop] at h4
  exact h4
 rw [h2]
end Go.Proofs.YtbngbefchobfnaaGreatDoor

namespace Go.Proofs.YtbngbefchobfnaaGreatDoor
open Go.RowKit Go.Maps Go.WideMaps Go.Proofs.YtbngbefchobfnaaGreatDoor.Print Go.Proofs.YtbngbefchobfnaaGreatDoorW.PrintWords Go.Proofs.YtbngbefchobfnaaGreatDoorW.PrintLast Go.Proofs.YtbngbefchobfnaaGreatDoorW.PrintMore
set_option linter.unusedVariables false
set_option linter.unusedSimpArgs false
theorem S_turned {w w1 : World} {base b : Nat} {v : Value} {xs : List ByteArray} (h : Kd.R Kd.string 9 w base (fun _ => True) v xs) (hm : w.mapTurned w1 b) : Kd.R Kd.string 9 w1 base (fun _ => True) v xs := by
 obtain ⟨es, clock, _, _, hb, _⟩ := id hm
 refine Kd.R_mono (Kd.R_grown (Kd.R_bound h) (turned_grown hm) (fun k hk e => ?_)) (fun _ _ => trivial)
 injection e with e
 subst e
 obtain ⟨_, _, _, q, hq, cs, hc⟩ := hk
 rw [hb] at hc
 cases hc
abbrev NN (w : World) (base : Nat) (ok : Nat → Prop) (v : Value) (xs : List Node) : Prop := Kd.N k42 42 w base ok v xs
def TreRel (s : PL) (W : World) (vq : Value) (i : Int) (v : Value) (wr : World) : Prop :=
 0 ≤ i ∧ i ≤ (sortE s).length ∧ MapK Tryz.prog 94 wr W.heap.size i.toNat (fk ((sortE s).take i.toNat)) ∧ NN wr W.heap.size (fun k => W.heap.size + 1 ≤ k) v (((sortE s).take i.toNat).map (outE (sortE s))) ∧
  Kd.R Kd.string 9 wr W.heap.size (fun _ => True) vq ((sortE s).map (fun e => e.path)) ∧ Below W.heap.size W wr
structure TreMid (s : PL) (W : World) (vq : Value) (n : Int) (out : List Node) (v : Value) (z : Nat) (w : World) : Prop where
 M : MapK Tryz.prog 94 w W.heap.size (n.toNat + 1) (fk ((sortE s).take (n.toNat + 1)))
 N : NN w W.heap.size (fun k => W.heap.size + 1 ≤ k ∧ k < z) v out
 R : Kd.R Kd.string 9 w W.heap.size (fun _ => True) vq ((sortE s).map (fun e => e.path))
 B : Below W.heap.size W w
theorem tre_next {s : PL} {W w w1 : World} {vq v v1 : Value} {n : Int} {z : Nat} (h0 : 0 ≤ n) (hn : n.toNat < (sortE s).length) {out : List Node} (hout : ((sortE s).take n.toNat).map (outE (sortE s)) = out) (h : TreMid s W vq n out v z w) (hg : w.grownBy w1 v.ownBlock)
  (hN : NN w1 W.heap.size (fun k => W.heap.size + 1 ≤ k) v1 (out ++ [outE (sortE s) (sortE s)[n.toNat]])) (hB : Below W.heap.size W w1) : TreRel s W vq (n + 1) v1 w1 := by
 have e1 : (n + 1).toNat = n.toNat + 1 := by omega
 refine ⟨by omega, by omega, ?_, ?_, ?_, hB⟩
 ·rw [e1]
  obtain ⟨es, clock, hm⟩ := h.M.isMap
  refine h.M.kept hg (fun e => ?_)
  obtain ⟨cs, hc⟩ := Kd.N_typed h.N _ e.symm
  rw [hm] at hc
  cases hc
 ·rw [e1, List.take_succ_eq_append_getElem hn, List.map_append, hout]
  exact hN
 ·refine Kd.R_mono (Kd.R_grown (Kd.R_bound h.R) hg (fun k hk e => ?_)) (fun _ _ => trivial)
  obtain ⟨_, _, _, q, hq, cs, hc⟩ := hk
  obtain ⟨cs', hc'⟩ := Kd.N_typed h.N k e.symm
  rw [hc'] at hc
  injection hc with hc
  injection hc with _ hc
  rcases List.mem_cons.1 hq with h | h
  ·rw [h] at hc; exact absurd hc (by decide)
  ·cases h
structure TrePre (s : PL) (W : World) (vq : Value) (n : Int) (out : List Node) (v : Value) (z : Nat) (w : World) : Prop where
 M : MapK Tryz.prog 94 w W.heap.size n.toNat (fk ((sortE s).take n.toNat))
 N : NN w W.heap.size (fun k => W.heap.size + 1 ≤ k ∧ k < z) v out
 R : Kd.R Kd.string 9 w W.heap.size (fun _ => True) vq ((sortE s).map (fun e => e.path))
 B : Below W.heap.size W w
theorem TrePre.of {s : PL} {W wr : World} {vq v : Value} {n : Int} (h : TreRel s W vq n v wr) {out : List Node} (hout : ((sortE s).take n.toNat).map (outE (sortE s)) = out) : TrePre s W vq n out v wr.heap.size wr := by
 obtain ⟨_, _, h1, h2, h3, h4⟩ := h
 rw [hout] at h2
 exact ⟨h1, Kd.N_bound h2, h3, h4⟩
section
variable {s : PL} {W w w1 : World} {vq v : Value} {n : Int} {out : List Node} {z : Nat}
theorem TrePre.below (h : TrePre s W vq n out v z w) (hb : Below w.heap.size w w1) : TrePre s W vq n out v z w1 :=
 ⟨h.M.below hb, Kd.N_below h.N hb, Kd.R_below h.R hb, h.B.trans (hb.mono h.B.size)⟩
theorem TreMid.below (h : TreMid s W vq n out v z w) (hb : Below w.heap.size w w1) : TreMid s W vq n out v z w1 :=
 ⟨h.M.below hb, Kd.N_below h.N hb, Kd.R_below h.R hb, h.B.trans (hb.mono h.B.size)⟩
theorem TrePre.stay (h : TrePre s W vq n out v z w) (hf : ∀ u, fk ((sortE s).take (n.toNat + 1)) u = fk ((sortE s).take n.toNat) u) : TreMid s W vq n out v z w :=
 ⟨by rw [show fk ((sortE s).take (n.toNat + 1)) = fk ((sortE s).take n.toNat) from funext hf]; exact h.M.mono (Nat.le_succ _), h.N, h.R, h.B⟩
theorem TrePre.turn (h : TrePre s W vq n out v z w) {k u : Value} (hM : MapK Tryz.prog 94 w1 W.heap.size (n.toNat + 1) (putK (fk ((sortE s).take n.toNat)) k u)) (hm : w.mapTurned w1 W.heap.size) (hf : ∀ v, putK (fk ((sortE s).take n.toNat)) k u v = fk ((sortE s).take (n.toNat + 1)) v) : TreMid s W vq n out v z w1 :=
 ⟨by rw [show fk ((sortE s).take (n.toNat + 1)) = putK (fk ((sortE s).take n.toNat)) k u from (funext hf).symm]; exact hM, Kd.N_grown h.N (turned_grown hm) (fun k hk e => by injection e with e; have := hk.1; omega), S_turned h.R hm, h.B.trans (turned_below hm (Nat.le_refl _) h.B.size)⟩
theorem TreMid.set (h : TreMid s W vq n out v z w) {b j : Nat} {cs : Array Value} (hb : w.heap[b]? = some (.cells cs 42 (0, 0))) (hz : z ≤ b) (hW : W.heap.size ≤ b) (u : Value) : TreMid s W vq n out v z (w.setCell ⟨b, j, none⟩ u) := by
 obtain ⟨es, clock, hm⟩ := h.M.isMap
 refine ⟨h.M.kept (row := some b) ?_ ?_, Kd.N_far h.N (p := ⟨b, j, none⟩) (fun k hk e => ?_) u, Kd.R_set h.R hb (fun k hk => ?_) j u, h.B.setCell hW u⟩
 ·exact ⟨rfl, rfl, rfl, by rw [World.size_setCell]; exact Nat.le_refl _, fun i hi hne => Below.heap_setCell w ⟨b, j, none⟩ u i (fun e => hne (by rw [e]))⟩
 ·intro e
  injection e with e
  rw [← e, hm] at hb
  cases hb
 ·have := hk.2
  have e' : k = b := e
  omega
 ·rcases List.mem_cons.1 hk with rfl | hk
  ·decide
  ·cases hk
end
theorem fk_str {l : PL} {v u : Value} (h : fk l v = some u) : ∃ p, u = .string p := by
 unfold fk at h
 obtain ⟨q, _, rfl⟩ := Option.map_eq_some_iff.1 h
 exact ⟨_, rfl⟩
theorem node_cells9 {w : World} {b : Nat} {t : TypeId} {a0 a1 a2 a3 a4 a5 a6 a7 a8 : Value} (h : w.heap[b]? = some (.cells #[a0, a1, a2, a3, a4, a5, a6, a7, a8] t (0, 0))) :
  w.cell? ⟨b, 0, none⟩ = some a0 ∧ w.cell? ⟨b, 1, none⟩ = some a1 ∧ w.cell? ⟨b, 2, none⟩ = some a2 ∧ w.cell? ⟨b, 3, none⟩ = some a3 ∧ w.cell? ⟨b, 4, none⟩ = some a4 ∧ w.cell? ⟨b, 5, none⟩ = some a5 ∧ w.cell? ⟨b, 6, none⟩ = some a6 ∧ w.cell? ⟨b, 7, none⟩ = some a7 ∧ w.cell? ⟨b, 8, none⟩ = some a8 := by
 refine ⟨?_, ?_, ?_, ?_, ?_, ?_, ?_, ?_, ?_⟩ <;> · unfold World.cell?; dsimp only; rw [h]; rfl
theorem start_row {w : World} {b : Nat} {v : Value} {ss : List (List UInt8)} {s : PL} (hn : NodupE s) (h : w.ownsRow b 9 1 v ss.length ((ss.mergeSort (fun x y => decide (x ≤ y))).map encStr)) (hp : ss.Perm (keysP (psE s))) :
  (∃ A c, v = .slice A (sortE s).length c) ∧ Kd.R Kd.string 9 w b (fun _ => True) v ((sortE s).map (fun e => e.path)) := by
 obtain ⟨⟨A, c, e⟩, hR⟩ := sorted_row h hp (by rw [psE_paths]; exact hn)
 rw [← psE_sort, psE_paths] at hR
 exact ⟨⟨A, c, by rw [e, ← psE_sort]; unfold psE; rw [List.length_map]⟩, hR⟩
set_option maxRecDepth 100000 in
set_option maxHeartbeats 8000000 in
theorem Tree_calls (base g d1 d2 n0 : Nat) (s : PL) (W : World) (hP : PileAt W base g d1 d2 n0 s) (hlen : s.length ≤ 1000000) :
  Calls Tryz.prog 30 #[.pointer (some ⟨g, 0, none⟩)] W fun e W' => ∃ v, e = .returned v ∧ NN W' W.heap.size (fun k => W.heap.size + 1 ≤ k) v (treeE s) ∧ Below W.heap.size W W' := by
 have hmm := @run_makeMap Tryz.prog
 obtain ⟨V0, hM0, _⟩ := hP.nodes
 have hbA := below_alloc (Below.refl W.heap.size W) (.map #[] 0)
 obtain ⟨D1, hown1, hperm1, hsz1⟩ := pile_keys (hM0.alloc (.map #[] 0)) hP.nodup
 have hcS := callsIn_wide.1 (Tryz.slices_Sorted_keys_39_44 d1 n0 D1 heldE _ hown1 (by rw [hsz1]; unfold maxLen; omega) (by rw [hsz1]; omega))
 simp only [World.size_alloc] at hcS
 have HCS := Aside0.mk hcS
 have HKK := Aside0.mk hperm1
 have HP := Aside0.mk hP
 have hsl : ((sortE s).length : Int) ≤ 1000000 := by rw [(sortE_perm s).length_eq]; omega
 obtain ⟨q0, q1⟩ := boxed2 ((hbA.block g (blk_lt' hP.box)).trans hP.box)
 clear hP hown1 hperm1 hsz1 hcS hM0
 generalize hpost : (fun (e : Ending) (W' : World) => ∃ v, e = .returned v ∧ NN W' W.heap.size (fun k => W.heap.size + 1 ≤ k) v (treeE s) ∧ Below W.heap.size W W') = Q
 have hQ := Aside0.mk hpost
 clear hpost
 go_enter Tryz.func30, Tryz.ntmps30
 go_wp2_with (first
  | (go_at_call 44; refine (callsIn_wide.1 (Tryz.maps_Keys_44 _ _)).mono ?_; rintro e w' ⟨rfl, rfl⟩)
  | (go_at_call 39; refine HCS.out.mono ?_; rintro e w2 ⟨vq, ss, rfl, hS, hrow, hnil, hb2⟩; obtain ⟨⟨Aq, cq, rfl⟩, hRq⟩ := start_row HP.out.nodup hrow (hS.trans HKK.out.symm); have HRq := Aside0.mk hRq; have HB2 := Aside0.mk hb2; clear hS hrow hnil hb2 hRq))
 have hBA := below_alloc (below_alloc (Below.refl W.heap.size W) (Obj.map #[] 0)) (Obj.cells #[Value.map (some d1)] 86)
 have hB2 : Below W.heap.size W w2 := hBA.trans (HB2.out.mono (by omega))
 have hstart : TreRel s W (.slice Aq (sortE s).length cq) 0 (.slice none 0 0) w2 := by
  refine ⟨by omega, by omega, ?_, Kd.N_nil _ _ _ _ _, Kd.R_lower HRq.out (by omega), hB2⟩
  have h1 := ((MapK.made Tryz.prog 94 W).alloc (Obj.cells #[Value.map (some d1)] 86)).below (w' := w2) (by rw [World.size_alloc, World.size_alloc]; exact HB2.out)
  have e : (fun _ => none : Value → Option Value) = fk ((sortE s).take (0 : Int).toNat) := by funext v; rfl
  rw [← e]
  exact h1
 have HST := Aside0.mk hstart
 clear hstart hB2 hBA HRq HB2 q0 q1 hbA HCS HKK
 go_loopw [21, 4] (fun i o wr => ∃ n : Int, i = .int .i64 n ∧ Aside0 (TreRel s W (.slice Aq (sortE s).length cq) n o wr)) (fun i _ _ => ((sortE s).length - (intOf i)).toNat)
 case atStart => exact ⟨0, rfl, HST⟩
 case round =>
  obtain ⟨n, rfl, HR⟩ := hrel
  have h0 := HR.out.1
  have h1 := HR.out.2.1
  have HW1 : Aside0 (W.heap.size + 1 ≤ wr.heap.size) := ⟨by have := HR.out.2.2.1.lt; omega⟩
  have hNv := HR.out.2.2.2.1
  generalize hout : ((sortE s).take n.toNat).map (outE (sortE s)) = out at hNv
  obtain ⟨Ao, co, rfl⟩ := Kd.N_slice hNv
  have hol : out.length = n.toNat := by rw [← hout, List.length_map, List.length_take]; omega
  have HOL : Aside0 (out.length ≤ 1000000) := ⟨by omega⟩
  have HOUT := Aside0.mk hout
  have HPR := Aside0.mk (TrePre.of HR.out hout)
  have HNV := Aside0.mk hNv
  clear hol hout hNv
  by_cases hlt : n < ((sortE s).length : Int)
  ·have c1b : decide (n < ((sortE s).length : Int)) = true := decide_eq_true hlt
   have hnl : n.toNat < (sortE s).length := by omega
   have HNL := Aside0.mk hnl
   have hem : (sortE s)[n.toNat] ∈ s := sortE_mem.1 (List.getElem_mem _)
   have hCq := (Kd.R_reads' HR.out.2.2.2.2.1).2.2
   rw [List.length_map] at hCq
   obtain ⟨ad, hAq, x0⟩ := Kd.at_string hCq n h0 hlt
   have hx : rdOf ByteArray.empty ((sortE s).map (fun q => q.path)) n = (sortE s)[n.toNat].path := by
    unfold rdOf
    rw [List.getD_eq_getElem?_getD, List.getElem?_map, List.getElem?_eq_getElem hnl]
    rfl
   rw [hx] at x0
   cases hAq
   have hez := HP.out.small _ hem
   have hat : atL s (sortE s)[n.toNat].path.data.toList = some (sortE s)[n.toNat] := by rw [atL_at]; exact atE_of HP.out.nodup hem
   have htk := List.take_succ_eq_append_getElem hnl
   have hlo : ∀ p, fk ((sortE s).take n.toNat) (keyV (sortE s)[n.toNat]) = some (.string p) → leadE (sortE s) (sortE s)[n.toNat] = p := fun p => lead_old hnl
   have hln : (sortE s)[n.toNat].node.f3 = 48 → fk ((sortE s).take n.toNat) (keyV (sortE s)[n.toNat]) = none → leadE (sortE s) (sortE s)[n.toNat] = (sortE s)[n.toNat].path := fun h => lead_new hnl h
   generalize hqe : (sortE s)[n.toNat] = e at hem x0 hez hat htk hlo hln hx
   have HQE := Aside0.mk hqe
   have HTK := Aside0.mk htk
   have HLO := Aside0.mk hlo
   have HLN := Aside0.mk hln
   have HAT := Aside0.mk hat
   have HEZ := Aside0.mk hez
   have hps : e.path.size ≤ maxLen := Nat.le_trans hez.1 (by unfold maxLen; decide)
   have HPS := Aside0.mk hps
   have hPw := HP.out.below HPR.out.B
   obtain ⟨V, hM, hV⟩ := hPw.nodes
   have hRb := hV _ _ hat
   obtain ⟨Ab, cb, hvb, hlb, hCb⟩ := Kd.R_reads hRb
   have hlook := hM.look Tryz.underlying9 Tryz.underlying86 (zeroNode _) hps
   have hnv : nodV V s e.path.data.toList = some (.agg (nodeCells e.node (.slice Ab e.node.f5.length cb))) := by unfold nodV; rw [hat, Option.map_some, hvb]
   rw [hnv, Option.getD_some] at hlook
   unfold nodeCells at hlook
   obtain ⟨q0, q1⟩ := boxed2 hPw.box
   have HCB := Aside0.mk hCb
   clear hqe htk hlo hln hat hez hps hM hV hRb hvb hlb hCb hnv hPw hem hx hCq
   go_upto_region 9 with (fail)
   go_upto_region 10 with (first
    | (go_at_call 45; refine (Clone_calls Ab cb e.node.f5 _ (Kd.C_alloc HCB.out _) HEZ.out.2.1.2.2.2).mono ?_; rintro e1 w1 ⟨vc, rfl, hRc, hB1⟩; obtain ⟨A8, c8, rfl, hl8, hC8⟩ := Kd.R_reads hRc; have HL8 := Aside0.mk hl8; clear hl8 hC8; have hq := (hB1.block wr.heap.size (by rw [World.size_alloc]; omega)).trans (blk_new wr (.cells #[.string e.node.f0, .string e.node.f1, .string e.node.f2, .int .u8 e.node.f3, .int .i64 e.node.f4.f0, .int .i64 e.node.f4.f1, .int .i64 e.node.f4.f2, .int .i64 e.node.f4.f3, .slice Ab e.node.f5.length cb] 42)); have hfz := blk_frozen hq 8; have hfz0 := blk_frozen hq 0; have hc8 : w1.cell? ⟨wr.heap.size, 8, none⟩ = some (.slice Ab e.node.f5.length cb) := (blk_cell hq 8).trans rfl; have hc0 : w1.cell? ⟨wr.heap.size, 0, none⟩ = some (.string e.node.f0) := (blk_cell hq 0).trans rfl; have HRC := Aside0.mk hRc; have HB1 := Aside0.mk hB1; have HQ1 := Aside0.mk hq; clear hq hRc hB1)
    | fail)
   have f7 : ∃ w7 b7, w7 = (w1.setCell ⟨wr.heap.size, 0, none⟩ (.string e.path)).setCell ⟨wr.heap.size, 8, none⟩ (.slice A8 e.node.f5.length c8) ∧ b7 = wr.heap.size ∧ Below wr.heap.size wr w7 ∧ w7.heap[b7]? = some (.cells #[.string e.path, .string e.node.f1, .string e.node.f2, .int .u8 e.node.f3, .int .i64 e.node.f4.f0, .int .i64 e.node.f4.f1, .int .i64 e.node.f4.f2, .int .i64 e.node.f4.f3, .slice A8 e.node.f5.length c8] 42 (0, 0)) ∧ Kd.R (Kd.int .u8) 5 w7 wr.heap.size (fun _ => True) (.slice A8 e.node.f5.length c8) e.node.f5 := by
    have hbA : Below wr.heap.size wr w1 := (below_alloc (Below.refl wr.heap.size wr) (.cells #[.string e.node.f0, .string e.node.f1, .string e.node.f2, .int .u8 e.node.f3, .int .i64 e.node.f4.f0, .int .i64 e.node.f4.f1, .int .i64 e.node.f4.f2, .int .i64 e.node.f4.f3, .slice Ab e.node.f5.length cb] 42)).trans (HB1.out.mono (by rw [World.size_alloc]; omega))
    have hq1 := blk_put (cs' := #[.string e.path, .string e.node.f1, .string e.node.f2, .int .u8 e.node.f3, .int .i64 e.node.f4.f0, .int .i64 e.node.f4.f1, .int .i64 e.node.f4.f2, .int .i64 e.node.f4.f3, .slice Ab e.node.f5.length cb]) HQ1.out 0 (.string e.path) rfl
    refine ⟨_, _, rfl, rfl, (hbA.setCell (Nat.le_refl _) _).setCell (Nat.le_refl _) _, blk_put (cs' := #[.string e.path, .string e.node.f1, .string e.node.f2, .int .u8 e.node.f3, .int .i64 e.node.f4.f0, .int .i64 e.node.f4.f1, .int .i64 e.node.f4.f2, .int .i64 e.node.f4.f3, .slice A8 e.node.f5.length c8]) hq1 8 _ rfl, ?_⟩
    exact Kd.R_set (Kd.R_set (Kd.R_lower HRC.out (by rw [World.size_alloc]; omega)) HQ1.out (fun k hk => by rcases List.mem_cons.1 hk with rfl | hk; decide; cases hk) 0 _) hq1 (fun k hk => by rcases List.mem_cons.1 hk with rfl | hk; decide; cases hk) 8 _
   obtain ⟨w7, b7, e7, eb7, hB7, hN7, hR7⟩ := f7
   rw [← e7, ← eb7]
   have hPw7 := HP.out.below (HPR.out.B.trans (hB7.mono HPR.out.B.size))
   obtain ⟨q0, q1⟩ := boxed2 hPw7.box
   have hlook2 := hPw7.keys.look Tryz.underlying9 Tryz.underlying87 (zeroKey _) HPS.out
   have hkm : keyM s e.path.data.toList = some (keyV e) := by unfold keyM; rw [HAT.out]; rfl
   rw [hkm, Option.getD_some] at hlook2
   unfold keyV at hlook2
   have HP7 := Aside0.mk (HPR.out.below hB7)
   have HB7 := Aside0.mk hB7
   have HN7 := Aside0.mk hN7
   have HR7 := Aside0.mk hR7
   have HE7 := Aside0.mk eb7
   clear e7 eb7 hPw7 hkm hB7 hN7 hR7 hlook HQ1 HRC HB1 hfz hfz0 hc8 hc0 x0
   go_upto_region 11 with (fail)
   have f8 : ∃ w8 b8, w8 = w7.alloc (.cells #[.int .i64 e.tree, .string e.node.f2] 94) ∧ b8 = w7.heap.size ∧ Below w7.heap.size w7 w8 ∧ w8.heap[b8]? = some (.cells #[.int .i64 e.tree, .string e.node.f2] 94 (0, 0)) :=
    ⟨_, _, rfl, rfl, below_alloc (Below.refl _ _) _, blk_new _ _⟩
   obtain ⟨w8, b8, e8, eb8, hB8, hN8⟩ := f8
   rw [← e8, ← eb8]
   have HP8 := Aside0.mk (HP7.out.below hB8)
   have HBX8 := Aside0.mk ((hB8.block b7 (blk_lt' HN7.out)).trans HN7.out)
   have HRX8 := Aside0.mk (Kd.R_below HR7.out hB8)
   have HSX8 : Aside0 (wr.heap.size ≤ w8.heap.size) := ⟨Nat.le_trans HB7.out.size hB8.size⟩
   have HZ7 : Aside0 (wr.heap.size ≤ b7 ∧ W.heap.size ≤ b7) := ⟨by have := HE7.out; have := HW1.out; omega⟩
   have HN8 := Aside0.mk hN8
   clear e8 eb8 hB8 hN8 hlook2 q0 q1 HP7 HN7 HR7 HB7 HE7
   obtain ⟨k0, k1, k2, k3, k4, k5, k6, k7, k8⟩ := node_cells9 HBX8.out
   by_cases h48 : e.node.f3 = 48
   ·have e48 : (e.node.f3 == 48) = true := beq_iff_eq.2 h48
    have H48 := Aside0.mk h48
    clear h48
    obtain ⟨j0, j1⟩ := boxed2 HN8.out
    obtain ⟨l, hl⟩ := keyOf_key HEZ.out
    have hlk := HP8.out.M.look_ok keyLaw Tryz.underlying90 (zeroStr w8) hl
    have HL := Aside0.mk hl
    have hfz2 := blk_frozen HBX8.out 2
    clear hl
    cases hf : fk ((sortE s).take n.toNat) (keyV e) with
    | some u =>
     obtain ⟨p, rfl⟩ := fk_str hf
     have hlk2 := HP8.out.M.look keyLaw Tryz.underlying90 (zeroStr w8) HL.out
     rw [hf] at hlk hlk2
     simp only [Option.getD_some, Option.isSome_some] at hlk hlk2
     unfold keyV at hlk hlk2
     have HF := Aside0.mk hf
     clear hf
     go_upto_region 16 with (fail)
     have f10 : ∃ wx, wx = w8.setCell ⟨b7, 2, none⟩ (.string p) ∧ TreMid s W (.slice (some ad) (sortE s).length cq) n out (.slice Ao out.length co) wr.heap.size wx ∧ wx.heap[b7]? = some (.cells #[.string e.path, .string e.node.f1, .string p, .int .u8 e.node.f3, .int .i64 e.node.f4.f0, .int .i64 e.node.f4.f1, .int .i64 e.node.f4.f2, .int .i64 e.node.f4.f3, .slice A8 e.node.f5.length c8] 42 (0, 0)) ∧ Kd.R (Kd.int .u8) 5 wx wr.heap.size (fun _ => True) (.slice A8 e.node.f5.length c8) e.node.f5 ∧ wr.heap.size ≤ wx.heap.size :=
      ⟨_, rfl, (HP8.out.stay (fun v => by rw [HTK.out]; exact fk_old HF.out v)).set HBX8.out HZ7.out.1 HZ7.out.2 _, blk_put (cs' := #[.string e.path, .string e.node.f1, .string p, .int .u8 e.node.f3, .int .i64 e.node.f4.f0, .int .i64 e.node.f4.f1, .int .i64 e.node.f4.f2, .int .i64 e.node.f4.f3, .slice A8 e.node.f5.length c8]) HBX8.out 2 _ rfl, Kd.R_set HRX8.out HBX8.out (fun k hk => by rcases List.mem_cons.1 hk with rfl | hk; decide; cases hk) 2 _, by rw [World.size_setCell]; exact HSX8.out⟩
     have HOE : Aside0 (outE (sortE s) e = ⟨e.path, e.node.f1, p, e.node.f3, e.node.f4, e.node.f5⟩) := ⟨by unfold outE; rw [if_pos H48.out, HLO.out p HF.out]⟩
     obtain ⟨wx, ex, hMX, hBX, hRX, hSX⟩ := f10
     rw [← ex]
     have HM := Aside0.mk hMX
     have HBX := Aside0.mk hBX
     have HRX := Aside0.mk hRX
     have HSX := Aside0.mk hSX
     clear ex hMX hBX hRX hSX k0 k1 k2 k3 k4 k5 k6 k7 k8
     obtain ⟨k0, k1, k2, k3, k4, k5, k6, k7, k8⟩ := node_cells9 HBX.out
     go_wp2_with (first
      | (at_builtin; have hFK : Kd.FK k42 wx (fun k => wr.heap.size ≤ k) (outE (sortE s) e) [.string e.path, .string e.node.f1, .string p, .int .u8 e.node.f3, .int .i64 e.node.f4.f0, .int .i64 e.node.f4.f1, .int .i64 e.node.f4.f2, .int .i64 e.node.f4.f3, .slice A8 e.node.f5.length c8] := (by rw [HOE.out]; exact k42_mkF wx _ ⟨e.path, e.node.f1, p, e.node.f3, e.node.f4, e.node.f5⟩ HL8.out (Kd.R_F (Kd.R_mono (Kd.R_bound HRX.out) (fun k hk => hk.2.1)))); refine Kd.N_append k42 (w0 := W) W.heap.size rfl _ _ 22 42 _ 112 rfl Tryz.underlying22 infoNode rfl (by decide) (by decide) (.slice Ao out.length co) out (outE (sortE s) e) [.string e.path, .string e.node.f1, .string p, .int .u8 e.node.f3, .int .i64 e.node.f4.f0, .int .i64 e.node.f4.f1, .int .i64 e.node.f4.f2, .int .i64 e.node.f4.f3, .slice A8 e.node.f5.length c8] (fun k => W.heap.size + 1 ≤ k) (fun k => wr.heap.size ≤ k) rfl rfl hFK (fun k hk => ⟨by have := HW1.out; omega, fun e2 => by have := HM.out.N.1 k e2.symm; omega⟩) (fun k hk => by have := HW1.out; have := HSX.out; omega) (Kd.N_mono HM.out.N (fun k hk => hk.1)) HM.out.B (by have := HM.out.B.size; omega) (by have := HOL.out; omega) ?_; intro v4 w4 hN4 hB4 hg4 hat4; have HN4 := Aside0.mk hN4; have HB4 := Aside0.mk hB4; have HG4 := Aside0.mk hg4; clear hN4 hB4 hg4 hat4 hFK k0 k1 k2 k3 k4 k5 k6 k7 k8)
      | fail)
     have hfin : TreRel s W (.slice (some ad) (sortE s).length cq) (n + 1) v4 w4 := tre_next h0 HNL.out HOUT.out HM.out HG4.out (by rw [HQE.out]; exact HN4.out) HB4.out
     have HFIN := Aside0.mk hfin
     clear hfin
     go_roundw
     case rel => exact ⟨n + 1, by go_num, HFIN⟩
     case measure => simp [intOf]; omega
    | none =>
     rw [hf] at hlk
     simp only [Option.getD_none, Option.isSome_none] at hlk
     unfold keyV at hlk
     have HF := Aside0.mk hf
     clear hf
     go_upto_region 16 with (first
      | (at_mapUpdate; refine MapK.wpput (k := keyV e) (u := .string e.path) HP8.out.M rfl _ _ _ rfl keyLaw Tryz.underlying90 (by unfold maxLen; omega) rfl rfl HL.out rfl ?_; intro w9 hM9 hT9; have hlk3 := hM9.look keyLaw Tryz.underlying90 (zeroStr w9) HL.out; have hpk : putK (fk ((sortE s).take n.toNat)) (keyV e) (.string e.path) (keyV e) = some (.string e.path) := (by unfold putK; rw [if_pos rfl]); rw [hpk, Option.getD_some] at hlk3; unfold keyV at hlk3; obtain ⟨hb7, _⟩ := turned_box hT9 HBX8.out; obtain ⟨hb8, _⟩ := turned_box hT9 HN8.out; have HBX9 := Aside0.mk hb7; have HM9 := Aside0.mk (HP8.out.turn hM9 hT9 (fun v => by rw [HTK.out]; exact fk_new H48.out HF.out v)); have HRX9 := Aside0.mk (R_turned HRX8.out hT9); have HSX9 := Aside0.mk (Nat.le_trans HSX8.out (turned_grown hT9).size); clear hM9 hT9 hpk k0 k1 k2 k3 k4 k5 k6 k7 k8 j0 j1 hfz2 hlk; obtain ⟨k0, k1, k2, k3, k4, k5, k6, k7, k8⟩ := node_cells9 hb7; obtain ⟨j0, j1⟩ := boxed2 hb8; have hfz2 := blk_frozen hb7 2; clear hb7 hb8)
      | fail)
     have f10 : ∃ wx, wx = w9.setCell ⟨b7, 2, none⟩ (.string e.path) ∧ TreMid s W (.slice (some ad) (sortE s).length cq) n out (.slice Ao out.length co) wr.heap.size wx ∧ wx.heap[b7]? = some (.cells #[.string e.path, .string e.node.f1, .string e.path, .int .u8 e.node.f3, .int .i64 e.node.f4.f0, .int .i64 e.node.f4.f1, .int .i64 e.node.f4.f2, .int .i64 e.node.f4.f3, .slice A8 e.node.f5.length c8] 42 (0, 0)) ∧ Kd.R (Kd.int .u8) 5 wx wr.heap.size (fun _ => True) (.slice A8 e.node.f5.length c8) e.node.f5 ∧ wr.heap.size ≤ wx.heap.size :=
      ⟨_, rfl, HM9.out.set HBX9.out HZ7.out.1 HZ7.out.2 _, blk_put (cs' := #[.string e.path, .string e.node.f1, .string e.path, .int .u8 e.node.f3, .int .i64 e.node.f4.f0, .int .i64 e.node.f4.f1, .int .i64 e.node.f4.f2, .int .i64 e.node.f4.f3, .slice A8 e.node.f5.length c8]) HBX9.out 2 _ rfl, Kd.R_set HRX9.out HBX9.out (fun k hk => by rcases List.mem_cons.1 hk with rfl | hk; decide; cases hk) 2 _, by rw [World.size_setCell]; exact HSX9.out⟩
     have HOE : Aside0 (outE (sortE s) e = ⟨e.path, e.node.f1, e.path, e.node.f3, e.node.f4, e.node.f5⟩) := ⟨by unfold outE; rw [if_pos H48.out, HLN.out H48.out HF.out]⟩
     obtain ⟨wx, ex, hMX, hBX, hRX, hSX⟩ := f10
     rw [← ex]
     have HM := Aside0.mk hMX
     have HBX := Aside0.mk hBX
     have HRX := Aside0.mk hRX
     have HSX := Aside0.mk hSX
     clear ex hMX hBX hRX hSX k0 k1 k2 k3 k4 k5 k6 k7 k8
     obtain ⟨k0, k1, k2, k3, k4, k5, k6, k7, k8⟩ := node_cells9 HBX.out
     go_wp2_with (first
      | (at_builtin; have hFK : Kd.FK k42 wx (fun k => wr.heap.size ≤ k) (outE (sortE s) e) [.string e.path, .string e.node.f1, .string e.path, .int .u8 e.node.f3, .int .i64 e.node.f4.f0, .int .i64 e.node.f4.f1, .int .i64 e.node.f4.f2, .int .i64 e.node.f4.f3, .slice A8 e.node.f5.length c8] := (by rw [HOE.out]; exact k42_mkF wx _ ⟨e.path, e.node.f1, e.path, e.node.f3, e.node.f4, e.node.f5⟩ HL8.out (Kd.R_F (Kd.R_mono (Kd.R_bound HRX.out) (fun k hk => hk.2.1)))); refine Kd.N_append k42 (w0 := W) W.heap.size rfl _ _ 22 42 _ 112 rfl Tryz.underlying22 infoNode rfl (by decide) (by decide) (.slice Ao out.length co) out (outE (sortE s) e) [.string e.path, .string e.node.f1, .string e.path, .int .u8 e.node.f3, .int .i64 e.node.f4.f0, .int .i64 e.node.f4.f1, .int .i64 e.node.f4.f2, .int .i64 e.node.f4.f3, .slice A8 e.node.f5.length c8] (fun k => W.heap.size + 1 ≤ k) (fun k => wr.heap.size ≤ k) rfl rfl hFK (fun k hk => ⟨by have := HW1.out; omega, fun e2 => by have := HM.out.N.1 k e2.symm; omega⟩) (fun k hk => by have := HW1.out; have := HSX.out; omega) (Kd.N_mono HM.out.N (fun k hk => hk.1)) HM.out.B (by have := HM.out.B.size; omega) (by have := HOL.out; omega) ?_; intro v4 w4 hN4 hB4 hg4 hat4; have HN4 := Aside0.mk hN4; have HB4 := Aside0.mk hB4; have HG4 := Aside0.mk hg4; clear hN4 hB4 hg4 hat4 hFK k0 k1 k2 k3 k4 k5 k6 k7 k8)
      | fail)
     have hfin : TreRel s W (.slice (some ad) (sortE s).length cq) (n + 1) v4 w4 := tre_next h0 HNL.out HOUT.out HM.out HG4.out (by rw [HQE.out]; exact HN4.out) HB4.out
     have HFIN := Aside0.mk hfin
     clear hfin
     go_roundw
     case rel => exact ⟨n + 1, by go_num, HFIN⟩
     case measure => simp [intOf]; omega
   ·have e48 : (e.node.f3 == 48) = false := beq_eq_false_iff_ne.2 h48
    have H48 := Aside0.mk h48
    clear h48
    go_upto_region 16 with (fail)
    have f10 : ∃ wx, wx = w8 ∧ TreMid s W (.slice (some ad) (sortE s).length cq) n out (.slice Ao out.length co) wr.heap.size wx ∧ wx.heap[b7]? = some (.cells #[.string e.path, .string e.node.f1, .string e.node.f2, .int .u8 e.node.f3, .int .i64 e.node.f4.f0, .int .i64 e.node.f4.f1, .int .i64 e.node.f4.f2, .int .i64 e.node.f4.f3, .slice A8 e.node.f5.length c8] 42 (0, 0)) ∧ Kd.R (Kd.int .u8) 5 wx wr.heap.size (fun _ => True) (.slice A8 e.node.f5.length c8) e.node.f5 ∧ wr.heap.size ≤ wx.heap.size :=
     ⟨_, rfl, HP8.out.stay (fun v => by rw [HTK.out]; exact fk_other H48.out v), HBX8.out, HRX8.out, HSX8.out⟩
    have HOE : Aside0 (outE (sortE s) e = ⟨e.path, e.node.f1, e.node.f2, e.node.f3, e.node.f4, e.node.f5⟩) := ⟨by unfold outE; rw [if_neg H48.out]⟩
    obtain ⟨wx, ex, hMX, hBX, hRX, hSX⟩ := f10
    rw [← ex]
    have HM := Aside0.mk hMX
    have HBX := Aside0.mk hBX
    have HRX := Aside0.mk hRX
    have HSX := Aside0.mk hSX
    clear ex hMX hBX hRX hSX k0 k1 k2 k3 k4 k5 k6 k7 k8
    obtain ⟨k0, k1, k2, k3, k4, k5, k6, k7, k8⟩ := node_cells9 HBX.out
    go_wp2_with (first
     | (at_builtin; have hFK : Kd.FK k42 wx (fun k => wr.heap.size ≤ k) (outE (sortE s) e) [.string e.path, .string e.node.f1, .string e.node.f2, .int .u8 e.node.f3, .int .i64 e.node.f4.f0, .int .i64 e.node.f4.f1, .int .i64 e.node.f4.f2, .int .i64 e.node.f4.f3, .slice A8 e.node.f5.length c8] := (by rw [HOE.out]; exact k42_mkF wx _ ⟨e.path, e.node.f1, e.node.f2, e.node.f3, e.node.f4, e.node.f5⟩ HL8.out (Kd.R_F (Kd.R_mono (Kd.R_bound HRX.out) (fun k hk => hk.2.1)))); refine Kd.N_append k42 (w0 := W) W.heap.size rfl _ _ 22 42 _ 112 rfl Tryz.underlying22 infoNode rfl (by decide) (by decide) (.slice Ao out.length co) out (outE (sortE s) e) [.string e.path, .string e.node.f1, .string e.node.f2, .int .u8 e.node.f3, .int .i64 e.node.f4.f0, .int .i64 e.node.f4.f1, .int .i64 e.node.f4.f2, .int .i64 e.node.f4.f3, .slice A8 e.node.f5.length c8] (fun k => W.heap.size + 1 ≤ k) (fun k => wr.heap.size ≤ k) rfl rfl hFK (fun k hk => ⟨by have := HW1.out; omega, fun e2 => by have := HM.out.N.1 k e2.symm; omega⟩) (fun k hk => by have := HW1.out; have := HSX.out; omega) (Kd.N_mono HM.out.N (fun k hk => hk.1)) HM.out.B (by have := HM.out.B.size; omega) (by have := HOL.out; omega) ?_; intro v4 w4 hN4 hB4 hg4 hat4; have HN4 := Aside0.mk hN4; have HB4 := Aside0.mk hB4; have HG4 := Aside0.mk hg4; clear hN4 hB4 hg4 hat4 hFK k0 k1 k2 k3 k4 k5 k6 k7 k8)
     | fail)
    have hfin : TreRel s W (.slice (some ad) (sortE s).length cq) (n + 1) v4 w4 := tre_next h0 HNL.out HOUT.out HM.out HG4.out (by rw [HQE.out]; exact HN4.out) HB4.out
    have HFIN := Aside0.mk hfin
    clear hfin
    go_roundw
    case rel => exact ⟨n + 1, by go_num, HFIN⟩
    case measure => simp [intOf]; omega
  ·have c1b : decide (n < ((sortE s).length : Int)) = false := decide_eq_false hlt
   have hend : n = (sortE s).length := by omega
   go_wp2
   rw [← hQ.out]
   refine ⟨_, rfl, ?_, HPR.out.B⟩
   have e : out = treeE s := by
    rw [← HOUT.out, hend, Int.toNat_natCast, List.take_length]
    rfl
   rw [← e]
   exact HNV.out
end Go.Proofs.YtbngbefchobfnaaGreatDoor

namespace Go.Proofs.YtbngbefchobfnaaGreatDoor
open Go.RowKit Go.Proofs.YtbngbefchobfnaaGreatDoor.Print Go.Proofs.YtbngbefchobfnaaGreatDoorW.PrintWords
set_option linter.unusedVariables false
structure FromT {κ : Type} (U : List Node) (src : ByteArray → Option (κ × Node)) : Prop where
 good : goodTree U = true
 no : ∀ p, src p = none → findF U p = none
 yes : ∀ p k x, src p = some (k, x) → ∃ y, findF U p = some y ∧ equalB y x = true
 cls : ∀ p q k k' x x' y y', src p = some (k, x) → src q = some (k', x') → findF U p = some y → findF U q = some y' → x.f3 = 48 → x'.f3 = 48 → (y.f2 = y'.f2 ↔ k = k')
structure SameSrc {κ κ' : Type} (s : ByteArray → Option (κ × Node)) (t : ByteArray → Option (κ' × Node)) : Prop where
 data : ∀ p, (s p = none ∧ t p = none) ∨ ∃ k x k' x', s p = some (k, x) ∧ t p = some (k', x') ∧ equalB x x' = true
 cls : ∀ p q k x k' x' l y l' y', s p = some (k, x) → t p = some (k', x') → s q = some (l, y) → t q = some (l', y') → x.f3 = 48 → y.f3 = 48 → (k = l ↔ k' = l')
theorem fromT_same {κ κ' : Type} {U V : List Node} {s : ByteArray → Option (κ × Node)} {t : ByteArray → Option (κ' × Node)} (hU : FromT U s) (hV : FromT V t) (h : SameSrc s t) : sameB U V = true := by
 refine agree_same hU.good hV.good ⟨fun p => ?_, fun p q x y x' y' f1 f2 f3 f4 g1 g2 => ?_⟩
 ·rcases h.data p with ⟨a, b⟩ | ⟨k, x, k', x', a, b, c⟩
  ·exact .inl ⟨hU.no p a, hV.no p b⟩
  ·obtain ⟨y, hy, e1⟩ := hU.yes p k x a
   obtain ⟨z, hz, e2⟩ := hV.yes p k' x' b
   exact .inr ⟨y, z, hy, hz, equalB_trans e1 (equalB_trans c (equalB_symm e2))⟩
 ·rcases h.data p with ⟨a, _⟩ | ⟨k, xs, k', xt, a, b, c⟩
  ·rw [hU.no p a] at f1; cases f1
  ·rcases h.data q with ⟨a2, _⟩ | ⟨l, ys, l', yt, a2, b2, c2⟩
   ·rw [hU.no q a2] at f2; cases f2
   ·obtain ⟨x1, hx1, e1⟩ := hU.yes p k xs a
    obtain ⟨y1, hy1, e2⟩ := hU.yes q l ys a2
    rw [hx1] at f1; cases f1
    rw [hy1] at f2; cases f2
    have h48 : xs.f3 = 48 := by rw [← (equalB_iff.1 e1).2.2.1]; exact g1
    have h48' : ys.f3 = 48 := by rw [← (equalB_iff.1 e2).2.2.1]; exact g2
    have ht48 : xt.f3 = 48 := by rw [← (equalB_iff.1 c).2.2.1]; exact h48
    have ht48' : yt.f3 = 48 := by rw [← (equalB_iff.1 c2).2.2.1]; exact h48'
    rw [hU.cls p q k l xs ys _ _ a a2 hx1 hy1 h48 h48', hV.cls p q k' l' xt yt _ _ b b2 f3 f4 ht48 ht48']
    exact h.cls p q k xs k' xt l ys l' yt a b a2 b2 h48 h48'
theorem sameSrc_of_eq {κ : Type} {s t : ByteArray → Option (κ × Node)} (h : ∀ p, s p = t p) : SameSrc s t := by
 have : s = t := funext h
 subst this
 refine ⟨fun p => ?_, fun p q k x k' x' l y l' y' a b c d _ _ => ?_⟩
 ·cases hs : s p with
  | none => exact .inl ⟨rfl, rfl⟩
  | some z => exact .inr ⟨z.1, z.2, z.1, z.2, rfl, rfl, equalB_iff.2 ⟨rfl, rfl, rfl, rfl, rfl⟩⟩
 ·rw [a] at b; cases b
  rw [c] at d; cases d
  exact Iff.rfl
def srcT (T : List Node) : ByteArray → Option (ByteArray × Node) := fun p => (findF T p).map (fun x => (x.f2, x))
theorem fromT_self {T : List Node} (h : goodTree T = true) : FromT T (srcT T) := by
 refine ⟨h, fun p hp => ?_, fun p k x hp => ?_, fun p q k k' x x' y y' a b c d _ _ => ?_⟩
 ·unfold srcT at hp
  cases hf : findF T p with
  | none => rfl
  | some x => rw [hf] at hp; cases hp
 ·unfold srcT at hp
  cases hf : findF T p with
  | none => rw [hf] at hp; cases hp
  | some y =>
   rw [hf] at hp
   cases hp
   exact ⟨_, rfl, equalB_iff.2 ⟨rfl, rfl, rfl, rfl, rfl⟩⟩
 ·unfold srcT at a b
  rw [c] at a
  rw [d] at b
  cases a
  cases b
  exact Iff.rfl
def nodeE (e : PEnt) : Node := ⟨e.path, e.node.f1, e.node.f2, e.node.f3, e.node.f4, e.node.f5⟩
def srcE (s : PL) : ByteArray → Option ((Int × ByteArray) × Node) := fun p => (atE s p).map (fun e => ((e.tree, e.node.f2), nodeE e))
theorem fromT_pile {s : PL} (h : EntsOk s) : FromT (treeE s) (srcE s) := by
 have hR := sortE_rise h.nodup
 refine ⟨treeE_good h, fun p hp => ?_, fun p k x hp => ?_, fun p q k k' x x' y y' a b c d h48 h48' => ?_⟩
 ·rw [find_treeE h.nodup]
  unfold srcE at hp
  cases hf : atE s p with
  | none => rfl
  | some x => rw [hf] at hp; cases hp
 ·rw [find_treeE h.nodup]
  unfold srcE at hp
  cases hf : atE s p with
  | none => rw [hf] at hp; cases hp
  | some e =>
   rw [hf] at hp
   cases hp
   exact ⟨_, rfl, equalB_iff.2 ⟨rfl, rfl, rfl, rfl, rfl⟩⟩
 ·rw [find_treeE h.nodup] at c d
  unfold srcE at a b
  cases hf : atE s p with
  | none => rw [hf] at a; cases a
  | some e =>
   cases hg : atE s q with
   | none => rw [hg] at b; cases b
   | some f =>
    rw [hf] at a c
    rw [hg] at b d
    cases a
    cases b
    cases c
    cases d
    have e1 := sortE_mem.2 (atE_mem hf).1
    have e2 := sortE_mem.2 (atE_mem hg).1
    have h48e : e.node.f3 = 48 := h48
    have h48f : f.node.f3 = 48 := h48'
    unfold outE
    dsimp only
    rw [if_pos h48e, if_pos h48f, leadE_inj hR e1 e2 h48e h48f]
    exact ⟨fun h => by rw [h.1, h.2], fun h => by injection h with h1 h2; exact ⟨h1, h2⟩⟩
theorem led_file {l : List Node} {x : Node} (h : ledB l x = true) (h48 : x.f3 = 48) : ∃ z, findF l x.f2 = some z ∧ z.f3 = 48 ∧ z.f2 = z.f0 ∧ z.f4 = x.f4 ∧ (strOfNums z.f5).toList = (strOfNums x.f5).toList := by
 unfold ledB at h
 rw [if_pos h48] at h
 cases hf : findF l x.f2 with
 | none => rw [hf] at h; cases h
 | some z =>
  rw [hf] at h
  dsimp only at h
  rw [decide_eq_true_iff] at h
  exact ⟨z, rfl, h.1, ba_ext h.2.1, met_ext h.2.2.2.1 h.2.2.2.2.1 h.2.2.2.2.2.1 h.2.2.2.2.2.2.1, h.2.2.2.2.2.2.2⟩
theorem ents_ok {s : PL} {tr : Int → List Node} (hn : NodupE s) (hl : s.length ≤ 4096) (hg : ∀ e ∈ s, goodTree (tr e.tree) = true ∧ e.node ∈ tr e.tree ∧ cleanOk e.path = true) : EntsOk s := by
 refine ⟨hn, hl, fun e he => ?_, fun e he h48 => ?_, fun e he f hf h48 ho => ?_⟩
 ·obtain ⟨h1, h2, h3⟩ := hg e he
  obtain ⟨g1, g2⟩ := (good_parts h1).2.1 _ h2
  refine ⟨g1, ?_⟩
  unfold goodM memOf at g2
  unfold goodM
  dsimp only at g2 ⊢
  simp only [Bool.and_eq_true] at g2 ⊢
  exact ⟨⟨⟨⟨h3, g2.1.1.1.2⟩, g2.1.1.2⟩, g2.1.2⟩, g2.2⟩
 ·obtain ⟨h1, h2, h3⟩ := hg e he
  have := (good_parts h1).2.2.2 _ h2
  unfold ledB at this
  rw [if_neg h48] at this
  exact of_decide_eq_true this
 ·obtain ⟨h1, h2, _⟩ := hg e he
  obtain ⟨k1, k2, _⟩ := hg f hf
  obtain ⟨o1, o2, o3⟩ := oneE_iff.1 ho
  rw [o2] at k1 k2
  obtain ⟨z, z1, _, _, z4, z5⟩ := led_file ((good_parts h1).2.2.2 _ h2) h48
  obtain ⟨w, w1, _, _, w4, w5⟩ := led_file ((good_parts k1).2.2.2 _ k2) o1
  rw [o3, z1] at w1
  cases w1
  exact ⟨w4.symm.trans z4, w5.symm.trans z5⟩
theorem node_clean {T : List Node} (h : goodTree T = true) {x : Node} (hx : x ∈ T) : cleanOk x.f0 = true := (goodM_clean ((good_parts h).2.1 x hx).2).1
end Go.Proofs.YtbngbefchobfnaaGreatDoor

namespace Go.Proofs.YtbngbefchobfnaaGreatDoor.Print
open Go.RowKit Go.Proofs.YtbngbefchobfnaaGreatDoor Go.Proofs.YtbngbefchobfnaaGreatDoorW.PrintWords Go.Proofs.YtbngbefchobfnaaGreatDoorW.PrintLast Go.Proofs.YtbngbefchobfnaaGreatDoorW.PrintMore
set_option linter.unusedVariables false
def tree_Find.f (l : List S42) (p : ByteArray) : Option (ByteArray × ByteArray × ByteArray × Int × Int × Int × Int × Int × List Int × Bool) :=
 if riseB l = true ∧ nodesZ l = true then some (tupN (findF l p)) else none
theorem tree_Find.calls (A0 : Option Addr) (c0 : Nat) (l0 : List S42) (a1 : ByteArray) (r1 r2 r3 : ByteArray) (r4 r5 r6 r7 r8 : Int) (r9 : List Int) (r10 : Bool) (w : World) (hr0 : Kd.C k42 w A0 l0.length l0) (hc0 : l0.length ≤ c0) (h : tree_Find.f l0 a1 = some (r1, r2, r3, r4, r5, r6, r7, r8, r9, r10)) :
  Calls Tryz.prog 66 #[.slice A0 l0.length c0, .string a1] w fun e w' => ∃ v8_ : Value, e = .returned (.tuple #[.agg #[.string r1, .string r2, .string r3, .int .u8 r4, .int .i64 r5, .int .i64 r6, .int .i64 r7, .int .i64 r8, v8_], .bool r10]) ∧ Kd.V (Kd.int .u8) 5 w' w.heap.size (fun k_ => w.heap.size ≤ k_) v8_ r9 ∧ Below w.heap.size w w' := by
 unfold tree_Find.f at h
 split at h
 ·rename_i hc
  refine (Find_calls A0 c0 l0 a1 w hr0 hc.1 ((nodesZ_iff l0).1 hc.2)).mono ?_
  rintro e w' ⟨x, b, v, hm, rfl, hR, hB⟩
  have hV := Kd.R_V (base' := w.heap.size) (Kd.R_mono (ok' := fun k_ => w.heap.size ≤ k_) (Kd.R_bound hR) (fun k hk => hk.2.1))
  cases hf : findF l0 a1 with
  | none =>
   rw [hf] at hm h
   obtain ⟨rfl, rfl⟩ := hm
   simp only [tupN, Option.some.injEq, Prod.mk.injEq] at h
   obtain ⟨rfl, rfl, rfl, rfl, rfl, rfl, rfl, rfl, rfl, rfl⟩ := h
   exact ⟨v, rfl, hV, hB⟩
  | some y =>
   rw [hf] at hm h
   obtain ⟨rfl, rfl⟩ := hm
   simp only [tupN, Option.some.injEq, Prod.mk.injEq] at h
   obtain ⟨rfl, rfl, rfl, rfl, rfl, rfl, rfl, rfl, rfl, rfl⟩ := h
   exact ⟨v, rfl, hV, hB⟩
 ·cases h
end Go.Proofs.YtbngbefchobfnaaGreatDoor.Print

namespace Go.Proofs.YtbngbefchobfnaaGreatDoor
open Go.RowKit
theorem binOp_leq_less (t : TypeId) (a b : ByteArray) : binOp .leq t (.string a) (.string b) = pure (.bool !(Op.bytesLess b.toList a.toList)) := by
 rw [binOp_string_leq]
 congr 2
 rcases less_tri a.toList b.toList with h | h | h
 ·rw [h]
  cases h2 : Op.bytesLess b.toList a.toList with
  | false => rfl
  | true =>
   have := less_trans _ _ _ h h2
   rw [less_irr] at this
   cases this
 ·rw [h, less_irr]; simp
 ·rw [h]
  cases h2 : Op.bytesLess a.toList b.toList with
  | true =>
   have := less_trans _ _ _ h h2
   rw [less_irr] at this
   cases this
  | false =>
   cases h3 : (a.toList == b.toList) with
   | false => rfl
   | true =>
    rw [beq_iff_eq] at h3
    rw [h3, less_irr] at h
    cases h
end Go.Proofs.YtbngbefchobfnaaGreatDoor

namespace Go.Proofs.YtbngbefchobfnaaGreatDoor.Print
open Go.RowKit Go.Proofs.YtbngbefchobfnaaGreatDoorW.PrintWords Go.Proofs.YtbngbefchobfnaaGreatDoorW.PrintLast Go.Proofs.YtbngbefchobfnaaGreatDoorW.PrintMore
attribute [local go_sem] max2_int min2_int max_two min_two max_three min_three max_four min_four   -- for this text's walks alone
set_option linter.unusedVariables false
set_option linter.unusedSimpArgs false
theorem eqA39 (d : Nat) (w : World) (x0 y0 : Int) (x1 y1 : Int) (x2 y2 : Int) (x3 y3 : Int) :
  (Op.equalIn (d + 2) 39 (.agg #[.int .i64 x0, .int .i64 x1, .int .i64 x2, .int .i64 x3]) (.agg #[.int .i64 y0, .int .i64 y1, .int .i64 y2, .int .i64 y3])).run Tryz.prog w = .ok (x0 == y0 && (x1 == y1 && (x2 == y2 && (x3 == y3)))) w := by
 refine eqA_of Tryz.underlying39 (by kernel_rfl) ?_
 refine eqf_cons (by rfl) (by go_simp; rfl) (by go_simp; rfl) (by go_simp) ?_
 refine eqf_cons (by rfl) (by go_simp; rfl) (by go_simp; rfl) (by go_simp) ?_
 refine eqf_cons (by rfl) (by go_simp; rfl) (by go_simp; rfl) (by go_simp) ?_
 exact eqf_last (by rfl) (by go_simp; rfl) (by go_simp; rfl) (by go_simp)
end Go.Proofs.YtbngbefchobfnaaGreatDoor.Print

namespace Go.Proofs.YtbngbefchobfnaaGreatDoor.Print
open Go.RowKit Go.Proofs.YtbngbefchobfnaaGreatDoorW.PrintWords Go.Proofs.YtbngbefchobfnaaGreatDoorW.PrintLast Go.Proofs.YtbngbefchobfnaaGreatDoorW.PrintMore
attribute [local go_sem] max2_int min2_int max_two min_two max_three min_three max_four min_four   -- for this text's walks alone
set_option linter.unusedVariables false
set_option linter.unusedSimpArgs false
def bytes_Equal.f (l0 : List Int) (l1 : List Int) : Option (Bool) := some ((strOfNums l0).toList == (strOfNums l1).toList)
set_option maxHeartbeats 8000000 in
set_option maxRecDepth 100000 in
theorem bytes_Equal.calls (A0 : Option Addr) (c0 : Nat) (l0 : List Int) (A1 : Option Addr) (c1 : Nat) (l1 : List Int) (r : Bool) (w : World) (hr0 : Kd.C (Kd.int .u8) w A0 l0.length l0) (hc0 : l0.length ≤ c0) (hr1 : Kd.C (Kd.int .u8) w A1 l1.length l1) (hc1 : l1.length ≤ c1) (h : bytes_Equal.f l0 l1 = some r) :
  Calls Tryz.prog 67 #[.slice A0 l0.length c0, .slice A1 l1.length c1] w fun e w' => e = .returned (.bool r) ∧ Drawn0 w w' := by
 have HR0 := A0_ hr0
 have HC0 := A0_ hc0
 clear hr0 hc0
 have HR1 := A0_ hr1
 have HC1 := A0_ hc1
 clear hr1 hc1
 have H : (some ((strOfNums l0).toList == (strOfNums l1).toList)) = some r := h
 clear h
 obtain rfl := Option.some.inj H
 have hcv3 := Kd.C_string (P := Tryz.prog) (A := A0) (c := c0) Tryz.underlying40 Tryz.underlying5 Tryz.underlying9 HR0.out
 have hcv4 := Kd.C_string (P := Tryz.prog) (A := A1) (c := c1) Tryz.underlying40 Tryz.underlying5 Tryz.underlying9 HR1.out
 go_enter Tryz.func67, Tryz.ntmps67
 go_wp2
 go_ret
 exact ⟨by first | rfl | (simp; done) | (simp [*]; done), by repeat (first | exact Drawn0.refl _ | apply Drawn0.step)⟩
end Go.Proofs.YtbngbefchobfnaaGreatDoor.Print

namespace Go.Proofs.YtbngbefchobfnaaGreatDoor.Print
open Go.RowKit Go.Proofs.YtbngbefchobfnaaGreatDoorW.PrintWords Go.Proofs.YtbngbefchobfnaaGreatDoorW.PrintLast Go.Proofs.YtbngbefchobfnaaGreatDoorW.PrintMore
attribute [local go_sem] max2_int min2_int max_two min_two max_three min_three max_four min_four   -- for this text's walks alone
set_option linter.unusedVariables false
set_option linter.unusedSimpArgs false
attribute [local go_sem high] eqA39
attribute [local go_sem high] binOp_leq_less
def tree_led.f (l0 : List (S42)) (a1_0 : ByteArray) (a1_1 : ByteArray) (a1_2 : ByteArray) (a1_3 : Int) (a1_4 : Int) (a1_5 : Int) (a1_6 : Int) (a1_7 : Int) (l1_8 : List Int) : Option (Bool) := if a1_3 = 48 then ((tree_Find.f l0 a1_2).bind fun bt537 => (if bt537.2.2.2.2.2.2.2.2.2 = true then (if bt537.2.2.2.1 = 48 then (if bt537.2.2.1.toList = bt537.1.toList then (if ((Op.bytesLess a1_0.toList bt537.1.toList) = true) then (some false) else (if (bt537.2.2.2.2.1 == a1_4 && (bt537.2.2.2.2.2.1 == a1_5 && (bt537.2.2.2.2.2.2.1 == a1_6 && (bt537.2.2.2.2.2.2.2.1 == a1_7)))) = true then ((bytes_Equal.f bt537.2.2.2.2.2.2.2.2.1 l1_8).bind fun t550 => (some t550)) else (some false))) else (some false)) else (some false)) else (some false))) else (some (a1_2.toList == ([] : List UInt8)))
set_option maxHeartbeats 8000000 in
set_option maxRecDepth 100000 in
theorem tree_led.calls (A0 : Option Addr) (c0 : Nat) (l0 : List (S42)) (a1_0 : ByteArray) (a1_1 : ByteArray) (a1_2 : ByteArray) (a1_3 : Int) (a1_4 : Int) (a1_5 : Int) (a1_6 : Int) (a1_7 : Int) (A1_8 : Option Addr) (c1_8 : Nat) (l1_8 : List Int) (r : Bool) (w : World) (hr0 : Kd.C k42 w A0 l0.length l0) (hc0 : l0.length ≤ c0) (hr1_8 : Kd.C (Kd.int .u8) w A1_8 l1_8.length l1_8) (hc1_8 : l1_8.length ≤ c1_8) (h : tree_led.f l0 a1_0 a1_1 a1_2 a1_3 a1_4 a1_5 a1_6 a1_7 l1_8 = some r) :
  Calls Tryz.prog 53 #[.slice A0 l0.length c0, .agg #[.string a1_0, .string a1_1, .string a1_2, .int .u8 a1_3, .int .i64 a1_4, .int .i64 a1_5, .int .i64 a1_6, .int .i64 a1_7, .slice A1_8 l1_8.length c1_8]] w fun e w' => e = .returned (.bool r) ∧ Below w.heap.size w w' := by
 have hu42 := Tryz.underlying42
 have hu39 := Tryz.underlying39
 have HR0 := A0_ hr0
 have HC0 := A0_ hc0
 clear hr0 hc0
 have HR1_8 := A0_ hr1_8
 have HC1_8 := A0_ hc1_8
 clear hr1_8 hc1_8
 have HB := A0_ (Below.refl w.heap.size w)
 have H : (if a1_3 = 48 then ((tree_Find.f l0 a1_2).bind fun bt537 => (if bt537.2.2.2.2.2.2.2.2.2 = true then (if bt537.2.2.2.1 = 48 then (if bt537.2.2.1.toList = bt537.1.toList then (if ((Op.bytesLess a1_0.toList bt537.1.toList) = true) then (some false) else (if (bt537.2.2.2.2.1 == a1_4 && (bt537.2.2.2.2.2.1 == a1_5 && (bt537.2.2.2.2.2.2.1 == a1_6 && (bt537.2.2.2.2.2.2.2.1 == a1_7)))) = true then ((bytes_Equal.f bt537.2.2.2.2.2.2.2.2.1 l1_8).bind fun t550 => (some t550)) else (some false))) else (some false)) else (some false)) else (some false))) else (some (a1_2.toList == ([] : List UInt8)))) = some r := h
 clear h
 by_cases c3 : a1_3 = 48
 rotate_left
 ·rw [if_neg c3] at H
  have c3b0 : (a1_3 == 48) = false := beq_eq_false_iff_ne.mpr c3
  have c3b1 : (a1_3 != 48) = true := bne_iff_ne.mpr c3
  obtain rfl := Option.some.inj H
  go_enter Tryz.func53, Tryz.ntmps53
  go_wp2_with (first | ((with_reducible refine gate_dst (N := 3) rfl ?_); refine box_event ?hg (N := 3) ?hd (cs := #[.string a1_0, .string a1_1, .string a1_2, .int .u8 a1_3, .int .i64 a1_4, .int .i64 a1_5, .int .i64 a1_6, .int .i64 a1_7, .slice A1_8 l1_8.length c1_8]) (t := 42) ?hr ?_; (case hd => rfl); (case hg => rfl); (case hr => first | (go_simp; done) | (go_simp; rfl)); intro gb536 hg w56 hbox hb; have n0_ := A0_ (below_step (wb_ HB.out) hb); have n1_ := A0_ (hbox); have n2_ := A0_ ((by rw [hg]; exact (below_size (wb_ HB.out)) : w.heap.size ≤ gb536)); have n3_ := A0_ ((by rw [hg]; exact (below_size (wb_ HB.out)) : w.heap.size ≤ gb536)); clear HB; have HB := n0_; have BK536 := n1_; have GW536 := n2_; have GE536 := n3_; clear n0_ n1_ n2_ n3_; clear hb hbox hg; have hcz57_0 : w56.cell? ⟨gb536, 0, none⟩ = some (.string a1_0) := (bc_ BK536.out 0).trans rfl; have hcz57_1 : w56.cell? ⟨gb536, 1, none⟩ = some (.string a1_1) := (bc_ BK536.out 1).trans rfl; have hcz57_2 : w56.cell? ⟨gb536, 2, none⟩ = some (.string a1_2) := (bc_ BK536.out 2).trans rfl; have hcz57_3 : w56.cell? ⟨gb536, 3, none⟩ = some (.int .u8 a1_3) := (bc_ BK536.out 3).trans rfl; have hcz57_4 : w56.cell? ⟨gb536, 4, none⟩ = some (.int .i64 a1_4) := (bc_ BK536.out 4).trans rfl; have hcz57_5 : w56.cell? ⟨gb536, 5, none⟩ = some (.int .i64 a1_5) := (bc_ BK536.out 5).trans rfl; have hcz57_6 : w56.cell? ⟨gb536, 6, none⟩ = some (.int .i64 a1_6) := (bc_ BK536.out 6).trans rfl; have hcz57_7 : w56.cell? ⟨gb536, 7, none⟩ = some (.int .i64 a1_7) := (bc_ BK536.out 7).trans rfl; have hcz57_8 : w56.cell? ⟨gb536, 8, none⟩ = some (.slice A1_8 l1_8.length c1_8) := (bc_ BK536.out 8).trans rfl; have hfz57_0 := bf_ BK536.out 0; have hfz57_1 := bf_ BK536.out 1; have hfz57_2 := bf_ BK536.out 2; have hfz57_3 := bf_ BK536.out 3; have hfz57_4 := bf_ BK536.out 4; have hfz57_5 := bf_ BK536.out 5; have hfz57_6 := bf_ BK536.out 6; have hfz57_7 := bf_ BK536.out 7; have hfz57_8 := bf_ BK536.out 8))
  go_ret
  exact ⟨we_, wb1_ HB.out GE536.out⟩
 rw [if_pos c3] at H
 have c3b0 : (a1_3 == 48) = true := beq_iff_eq.mpr c3
 have c3b1 : (a1_3 != 48) = false := bne_eq_false_iff_eq.mpr c3
 clear c3
 replace H := Option.bind_eq_some_iff.mp H
 obtain ⟨⟨t537, t538, t539, t540, t541, t542, t543, t544, t545, t548⟩, A40, H⟩ := H
 replace H : (if t548 = true then (if t540 = 48 then (if t539.toList = t537.toList then (if ((Op.bytesLess a1_0.toList t537.toList) = true) then (some false) else (if (t541 == a1_4 && (t542 == a1_5 && (t543 == a1_6 && (t544 == a1_7)))) = true then ((bytes_Equal.f t545 l1_8).bind fun t550 => (some t550)) else (some false))) else (some false)) else (some false)) else (some false)) = some r := H
 have A4 := A0_ A40
 clear A40
 by_cases c5 : t548 = true
 rotate_left
 ·replace c5 := Bool.eq_false_iff.mpr c5
  subst c5
  have H1 : (some false) = some r := by rw [if_neg (show ¬ (false = true) by decide)] at H; exact H
  clear H
  have H := H1
  clear H1
  obtain rfl := Option.some.inj H
  go_enter Tryz.func53, Tryz.ntmps53
  go_wp2_with (first | ((with_reducible refine gate_dst (N := 3) rfl ?_); refine box_event ?hg (N := 3) ?hd (cs := #[.string a1_0, .string a1_1, .string a1_2, .int .u8 a1_3, .int .i64 a1_4, .int .i64 a1_5, .int .i64 a1_6, .int .i64 a1_7, .slice A1_8 l1_8.length c1_8]) (t := 42) ?hr ?_; (case hd => rfl); (case hg => rfl); (case hr => first | (go_simp; done) | (go_simp; rfl)); intro gb536 hg w49 hbox hb; have n0_ := A0_ (below_step (wb_ HB.out) hb); have n1_ := A0_ (hbox); have n2_ := A0_ ((by rw [hg]; exact (below_size (wb_ HB.out)) : w.heap.size ≤ gb536)); have n3_ := A0_ ((by rw [hg]; exact (below_size (wb_ HB.out)) : w.heap.size ≤ gb536)); clear HB; have HB := n0_; have BK536 := n1_; have GW536 := n2_; have GE536 := n3_; clear n0_ n1_ n2_ n3_; clear hb hbox hg; have hcz50_0 : w49.cell? ⟨gb536, 0, none⟩ = some (.string a1_0) := (bc_ BK536.out 0).trans rfl; have hcz50_1 : w49.cell? ⟨gb536, 1, none⟩ = some (.string a1_1) := (bc_ BK536.out 1).trans rfl; have hcz50_2 : w49.cell? ⟨gb536, 2, none⟩ = some (.string a1_2) := (bc_ BK536.out 2).trans rfl; have hcz50_3 : w49.cell? ⟨gb536, 3, none⟩ = some (.int .u8 a1_3) := (bc_ BK536.out 3).trans rfl; have hcz50_4 : w49.cell? ⟨gb536, 4, none⟩ = some (.int .i64 a1_4) := (bc_ BK536.out 4).trans rfl; have hcz50_5 : w49.cell? ⟨gb536, 5, none⟩ = some (.int .i64 a1_5) := (bc_ BK536.out 5).trans rfl; have hcz50_6 : w49.cell? ⟨gb536, 6, none⟩ = some (.int .i64 a1_6) := (bc_ BK536.out 6).trans rfl; have hcz50_7 : w49.cell? ⟨gb536, 7, none⟩ = some (.int .i64 a1_7) := (bc_ BK536.out 7).trans rfl; have hcz50_8 : w49.cell? ⟨gb536, 8, none⟩ = some (.slice A1_8 l1_8.length c1_8) := (bc_ BK536.out 8).trans rfl; have hfz50_0 := bf_ BK536.out 0; have hfz50_1 := bf_ BK536.out 1; have hfz50_2 := bf_ BK536.out 2; have hfz50_3 := bf_ BK536.out 3; have hfz50_4 := bf_ BK536.out 4; have hfz50_5 := bf_ BK536.out 5; have hfz50_6 := bf_ BK536.out 6; have hfz50_7 := bf_ BK536.out 7; have hfz50_8 := bf_ BK536.out 8) | ((with_reducible refine gate_callee (f := 66) rfl ?_); refine goesL_ (some 17) rfl rfl Tryz.func66 (by kernel_rfl) rfl #[.slice A0 l0.length c0, .string a1_2] rfl wm_ ?_; (with_reducible refine (tree_Find.calls _ _ l0 a1_2 t537 t538 t539 t540 t541 t542 t543 t544 t545 false _ ?side1 ?side2 A4.out).mono ?_); (case side1 => exact wc_ (Kd.C_below HR0.out HB.out)); (case side2 => exact HC0.out); rintro e w51 ⟨v546, rfl, ho0, hb⟩; refine ⟨_, rfl, ?_⟩; have n0_ := A0_ (Kd.V_lower (Kd.V_mono (ok' := fun k_ => k_ ≠ gb536) ho0 (fun k_ hk_ => (Kd.freshB (g := gb536) (o := .cells #[.string a1_0, .string a1_1, .string a1_2, .int .u8 a1_3, .int .i64 a1_4, .int .i64 a1_5, .int .i64 a1_6, .int .i64 a1_7, .slice A1_8 l1_8.length c1_8] 42 (0, 0)) (wB_ BK536.out) k_ hk_))) (below_size (wb1_ HB.out GE536.out))); have n1_ := A0_ (blk_below (g := gb536) (o := .cells #[.string a1_0, .string a1_1, .string a1_2, .int .u8 a1_3, .int .i64 a1_4, .int .i64 a1_5, .int .i64 a1_6, .int .i64 a1_7, .slice A1_8 l1_8.length c1_8] 42 (0, 0)) (wB_ BK536.out) hb); have n2_ := A0_ (below_step (wb1_ HB.out GE536.out) hb); clear BK536; clear HB; have HO547 := n0_; have BK536 := n1_; have HB := n2_; clear n0_ n1_ n2_; (try clear hb); (try clear hb2); (try clear hk); (try clear hi); (try clear ho0)) | ((with_reducible refine gate_dst (N := 5) rfl ?_); refine box_event ?hg (N := 5) ?hd (cs := #[.string (⟨#[]⟩ : ByteArray), .string (⟨#[]⟩ : ByteArray), .string (⟨#[]⟩ : ByteArray), .int .u8 0, .int .i64 0, .int .i64 0, .int .i64 0, .int .i64 0, .slice none 0 0]) (t := 42) ?hr ?_; (case hd => rfl); (case hg => rfl); (case hr => first | (go_simp; done) | (go_simp; rfl)); intro gb549 hg w52 hbox hb; have n0_ := A0_ (Vb_ (Kd.V_elderB (wV_ HO547.out) gb549 (Nat.le_of_eq hg.symm)) hb); have n1_ := A0_ (blk_below (g := gb536) (o := .cells #[.string a1_0, .string a1_1, .string a1_2, .int .u8 a1_3, .int .i64 a1_4, .int .i64 a1_5, .int .i64 a1_6, .int .i64 a1_7, .slice A1_8 l1_8.length c1_8] 42 (0, 0)) (wB_ BK536.out) hb); have n2_ := A0_ (below_step (wb1_ HB.out GE536.out) hb); have n3_ := A0_ (hbox); have n4_ := A0_ ((by rw [hg]; exact (below_size (wb1_ HB.out GE536.out)) : w.heap.size ≤ gb549)); have n5_ := A0_ ((by rw [hg]; exact (below_size (wb1_ HB.out GE536.out)) : w.heap.size ≤ gb549)); have n6_ := A0_ ((by rw [hg]; exact Nat.ne_of_lt (blk_lt (g := gb536) (o := .cells #[.string a1_0, .string a1_1, .string a1_2, .int .u8 a1_3, .int .i64 a1_4, .int .i64 a1_5, .int .i64 a1_6, .int .i64 a1_7, .slice A1_8 l1_8.length c1_8] 42 (0, 0)) (wB_ BK536.out)) : gb536 ≠ gb549)); have n7_ := A0_ ((by rw [hg]; exact Nat.ne_of_gt (blk_lt (g := gb536) (o := .cells #[.string a1_0, .string a1_1, .string a1_2, .int .u8 a1_3, .int .i64 a1_4, .int .i64 a1_5, .int .i64 a1_6, .int .i64 a1_7, .slice A1_8 l1_8.length c1_8] 42 (0, 0)) (wB_ BK536.out)) : gb549 ≠ gb536)); clear HO547; clear BK536; clear HB; have HO547 := n0_; have BK536 := n1_; have HB := n2_; have BK549 := n3_; have GW549 := n4_; have GE549 := n5_; have NB536_549 := n6_; have NB549_536 := n7_; clear n0_ n1_ n2_ n3_ n4_ n5_ n6_ n7_; clear hb hbox hg; have hnb53 := NB549_536.out; have hnc53 := NB536_549.out; have hcz54_0 : w52.cell? ⟨gb549, 0, none⟩ = some (.string (⟨#[]⟩ : ByteArray)) := (bc_ BK549.out 0).trans rfl; have hcz54_1 : w52.cell? ⟨gb549, 1, none⟩ = some (.string (⟨#[]⟩ : ByteArray)) := (bc_ BK549.out 1).trans rfl; have hcz54_2 : w52.cell? ⟨gb549, 2, none⟩ = some (.string (⟨#[]⟩ : ByteArray)) := (bc_ BK549.out 2).trans rfl; have hcz54_3 : w52.cell? ⟨gb549, 3, none⟩ = some (.int .u8 0) := (bc_ BK549.out 3).trans rfl; have hcz54_4 : w52.cell? ⟨gb549, 4, none⟩ = some (.int .i64 0) := (bc_ BK549.out 4).trans rfl; have hcz54_5 : w52.cell? ⟨gb549, 5, none⟩ = some (.int .i64 0) := (bc_ BK549.out 5).trans rfl; have hcz54_6 : w52.cell? ⟨gb549, 6, none⟩ = some (.int .i64 0) := (bc_ BK549.out 6).trans rfl; have hcz54_7 : w52.cell? ⟨gb549, 7, none⟩ = some (.int .i64 0) := (bc_ BK549.out 7).trans rfl; have hcz54_8 : w52.cell? ⟨gb549, 8, none⟩ = some (.slice none 0 0) := (bc_ BK549.out 8).trans rfl; have hfz54_0 := bf_ BK549.out 0; have hfz54_1 := bf_ BK549.out 1; have hfz54_2 := bf_ BK549.out 2; have hfz54_3 := bf_ BK549.out 3; have hfz54_4 := bf_ BK549.out 4; have hfz54_5 := bf_ BK549.out 5; have hfz54_6 := bf_ BK549.out 6; have hfz54_7 := bf_ BK549.out 7; have hfz54_8 := bf_ BK549.out 8; obtain ⟨Ao55, co55, eo55⟩ := Kd.V_slice HO547.out; subst eo55))
  go_ret
  exact ⟨we_, wb2_ HB.out GE536.out GE549.out⟩
 subst c5
 have H1 : (if t540 = 48 then (if t539.toList = t537.toList then (if ((Op.bytesLess a1_0.toList t537.toList) = true) then (some false) else (if (t541 == a1_4 && (t542 == a1_5 && (t543 == a1_6 && (t544 == a1_7)))) = true then ((bytes_Equal.f t545 l1_8).bind fun t550 => (some t550)) else (some false))) else (some false)) else (some false)) = some r := by rw [if_pos rfl] at H; exact H
 clear H
 have H := H1
 clear H1
 by_cases c6 : t540 = 48
 rotate_left
 ·rw [if_neg c6] at H
  have c6b0 : (t540 == 48) = false := beq_eq_false_iff_ne.mpr c6
  have c6b1 : (t540 != 48) = true := bne_iff_ne.mpr c6
  obtain rfl := Option.some.inj H
  go_enter Tryz.func53, Tryz.ntmps53
  go_wp2_with (first | ((with_reducible refine gate_dst (N := 3) rfl ?_); refine box_event ?hg (N := 3) ?hd (cs := #[.string a1_0, .string a1_1, .string a1_2, .int .u8 a1_3, .int .i64 a1_4, .int .i64 a1_5, .int .i64 a1_6, .int .i64 a1_7, .slice A1_8 l1_8.length c1_8]) (t := 42) ?hr ?_; (case hd => rfl); (case hg => rfl); (case hr => first | (go_simp; done) | (go_simp; rfl)); intro gb536 hg w42 hbox hb; have n0_ := A0_ (below_step (wb_ HB.out) hb); have n1_ := A0_ (hbox); have n2_ := A0_ ((by rw [hg]; exact (below_size (wb_ HB.out)) : w.heap.size ≤ gb536)); have n3_ := A0_ ((by rw [hg]; exact (below_size (wb_ HB.out)) : w.heap.size ≤ gb536)); clear HB; have HB := n0_; have BK536 := n1_; have GW536 := n2_; have GE536 := n3_; clear n0_ n1_ n2_ n3_; clear hb hbox hg; have hcz43_0 : w42.cell? ⟨gb536, 0, none⟩ = some (.string a1_0) := (bc_ BK536.out 0).trans rfl; have hcz43_1 : w42.cell? ⟨gb536, 1, none⟩ = some (.string a1_1) := (bc_ BK536.out 1).trans rfl; have hcz43_2 : w42.cell? ⟨gb536, 2, none⟩ = some (.string a1_2) := (bc_ BK536.out 2).trans rfl; have hcz43_3 : w42.cell? ⟨gb536, 3, none⟩ = some (.int .u8 a1_3) := (bc_ BK536.out 3).trans rfl; have hcz43_4 : w42.cell? ⟨gb536, 4, none⟩ = some (.int .i64 a1_4) := (bc_ BK536.out 4).trans rfl; have hcz43_5 : w42.cell? ⟨gb536, 5, none⟩ = some (.int .i64 a1_5) := (bc_ BK536.out 5).trans rfl; have hcz43_6 : w42.cell? ⟨gb536, 6, none⟩ = some (.int .i64 a1_6) := (bc_ BK536.out 6).trans rfl; have hcz43_7 : w42.cell? ⟨gb536, 7, none⟩ = some (.int .i64 a1_7) := (bc_ BK536.out 7).trans rfl; have hcz43_8 : w42.cell? ⟨gb536, 8, none⟩ = some (.slice A1_8 l1_8.length c1_8) := (bc_ BK536.out 8).trans rfl; have hfz43_0 := bf_ BK536.out 0; have hfz43_1 := bf_ BK536.out 1; have hfz43_2 := bf_ BK536.out 2; have hfz43_3 := bf_ BK536.out 3; have hfz43_4 := bf_ BK536.out 4; have hfz43_5 := bf_ BK536.out 5; have hfz43_6 := bf_ BK536.out 6; have hfz43_7 := bf_ BK536.out 7; have hfz43_8 := bf_ BK536.out 8) | ((with_reducible refine gate_callee (f := 66) rfl ?_); refine goesL_ (some 17) rfl rfl Tryz.func66 (by kernel_rfl) rfl #[.slice A0 l0.length c0, .string a1_2] rfl wm_ ?_; (with_reducible refine (tree_Find.calls _ _ l0 a1_2 t537 t538 t539 t540 t541 t542 t543 t544 t545 true _ ?side1 ?side2 A4.out).mono ?_); (case side1 => exact wc_ (Kd.C_below HR0.out HB.out)); (case side2 => exact HC0.out); rintro e w44 ⟨v546, rfl, ho0, hb⟩; refine ⟨_, rfl, ?_⟩; have n0_ := A0_ (Kd.V_lower (Kd.V_mono (ok' := fun k_ => k_ ≠ gb536) ho0 (fun k_ hk_ => (Kd.freshB (g := gb536) (o := .cells #[.string a1_0, .string a1_1, .string a1_2, .int .u8 a1_3, .int .i64 a1_4, .int .i64 a1_5, .int .i64 a1_6, .int .i64 a1_7, .slice A1_8 l1_8.length c1_8] 42 (0, 0)) (wB_ BK536.out) k_ hk_))) (below_size (wb1_ HB.out GE536.out))); have n1_ := A0_ (blk_below (g := gb536) (o := .cells #[.string a1_0, .string a1_1, .string a1_2, .int .u8 a1_3, .int .i64 a1_4, .int .i64 a1_5, .int .i64 a1_6, .int .i64 a1_7, .slice A1_8 l1_8.length c1_8] 42 (0, 0)) (wB_ BK536.out) hb); have n2_ := A0_ (below_step (wb1_ HB.out GE536.out) hb); clear BK536; clear HB; have HO547 := n0_; have BK536 := n1_; have HB := n2_; clear n0_ n1_ n2_; (try clear hb); (try clear hb2); (try clear hk); (try clear hi); (try clear ho0)) | ((with_reducible refine gate_dst (N := 5) rfl ?_); refine box_event ?hg (N := 5) ?hd (cs := #[.string (⟨#[]⟩ : ByteArray), .string (⟨#[]⟩ : ByteArray), .string (⟨#[]⟩ : ByteArray), .int .u8 0, .int .i64 0, .int .i64 0, .int .i64 0, .int .i64 0, .slice none 0 0]) (t := 42) ?hr ?_; (case hd => rfl); (case hg => rfl); (case hr => first | (go_simp; done) | (go_simp; rfl)); intro gb549 hg w45 hbox hb; have n0_ := A0_ (Vb_ (Kd.V_elderB (wV_ HO547.out) gb549 (Nat.le_of_eq hg.symm)) hb); have n1_ := A0_ (blk_below (g := gb536) (o := .cells #[.string a1_0, .string a1_1, .string a1_2, .int .u8 a1_3, .int .i64 a1_4, .int .i64 a1_5, .int .i64 a1_6, .int .i64 a1_7, .slice A1_8 l1_8.length c1_8] 42 (0, 0)) (wB_ BK536.out) hb); have n2_ := A0_ (below_step (wb1_ HB.out GE536.out) hb); have n3_ := A0_ (hbox); have n4_ := A0_ ((by rw [hg]; exact (below_size (wb1_ HB.out GE536.out)) : w.heap.size ≤ gb549)); have n5_ := A0_ ((by rw [hg]; exact (below_size (wb1_ HB.out GE536.out)) : w.heap.size ≤ gb549)); have n6_ := A0_ ((by rw [hg]; exact Nat.ne_of_lt (blk_lt (g := gb536) (o := .cells #[.string a1_0, .string a1_1, .string a1_2, .int .u8 a1_3, .int .i64 a1_4, .int .i64 a1_5, .int .i64 a1_6, .int .i64 a1_7, .slice A1_8 l1_8.length c1_8] 42 (0, 0)) (wB_ BK536.out)) : gb536 ≠ gb549)); have n7_ := A0_ ((by rw [hg]; exact Nat.ne_of_gt (blk_lt (g := gb536) (o := .cells #[.string a1_0, .string a1_1, .string a1_2, .int .u8 a1_3, .int .i64 a1_4, .int .i64 a1_5, .int .i64 a1_6, .int .i64 a1_7, .slice A1_8 l1_8.length c1_8] 42 (0, 0)) (wB_ BK536.out)) : gb549 ≠ gb536)); clear HO547; clear BK536; clear HB; have HO547 := n0_; have BK536 := n1_; have HB := n2_; have BK549 := n3_; have GW549 := n4_; have GE549 := n5_; have NB536_549 := n6_; have NB549_536 := n7_; clear n0_ n1_ n2_ n3_ n4_ n5_ n6_ n7_; clear hb hbox hg; have hnb46 := NB549_536.out; have hnc46 := NB536_549.out; have hcz47_0 : w45.cell? ⟨gb549, 0, none⟩ = some (.string (⟨#[]⟩ : ByteArray)) := (bc_ BK549.out 0).trans rfl; have hcz47_1 : w45.cell? ⟨gb549, 1, none⟩ = some (.string (⟨#[]⟩ : ByteArray)) := (bc_ BK549.out 1).trans rfl; have hcz47_2 : w45.cell? ⟨gb549, 2, none⟩ = some (.string (⟨#[]⟩ : ByteArray)) := (bc_ BK549.out 2).trans rfl; have hcz47_3 : w45.cell? ⟨gb549, 3, none⟩ = some (.int .u8 0) := (bc_ BK549.out 3).trans rfl; have hcz47_4 : w45.cell? ⟨gb549, 4, none⟩ = some (.int .i64 0) := (bc_ BK549.out 4).trans rfl; have hcz47_5 : w45.cell? ⟨gb549, 5, none⟩ = some (.int .i64 0) := (bc_ BK549.out 5).trans rfl; have hcz47_6 : w45.cell? ⟨gb549, 6, none⟩ = some (.int .i64 0) := (bc_ BK549.out 6).trans rfl; have hcz47_7 : w45.cell? ⟨gb549, 7, none⟩ = some (.int .i64 0) := (bc_ BK549.out 7).trans rfl; have hcz47_8 : w45.cell? ⟨gb549, 8, none⟩ = some (.slice none 0 0) := (bc_ BK549.out 8).trans rfl; have hfz47_0 := bf_ BK549.out 0; have hfz47_1 := bf_ BK549.out 1; have hfz47_2 := bf_ BK549.out 2; have hfz47_3 := bf_ BK549.out 3; have hfz47_4 := bf_ BK549.out 4; have hfz47_5 := bf_ BK549.out 5; have hfz47_6 := bf_ BK549.out 6; have hfz47_7 := bf_ BK549.out 7; have hfz47_8 := bf_ BK549.out 8; obtain ⟨Ao48, co48, eo48⟩ := Kd.V_slice HO547.out; subst eo48))
  go_ret
  exact ⟨we_, wb2_ HB.out GE536.out GE549.out⟩
 rw [if_pos c6] at H
 have c6b0 : (t540 == 48) = true := beq_iff_eq.mpr c6
 have c6b1 : (t540 != 48) = false := bne_eq_false_iff_eq.mpr c6
 clear c6
 by_cases c7 : t539.toList = t537.toList
 rotate_left
 ·rw [if_neg c7] at H
  have c7b0 : (t539.toList == t537.toList) = false := beq_eq_false_iff_ne.mpr c7
  have c7b1 : (t539.toList != t537.toList) = true := bne_iff_ne.mpr c7
  obtain rfl := Option.some.inj H
  go_enter Tryz.func53, Tryz.ntmps53
  go_wp2_with (first | ((with_reducible refine gate_dst (N := 3) rfl ?_); refine box_event ?hg (N := 3) ?hd (cs := #[.string a1_0, .string a1_1, .string a1_2, .int .u8 a1_3, .int .i64 a1_4, .int .i64 a1_5, .int .i64 a1_6, .int .i64 a1_7, .slice A1_8 l1_8.length c1_8]) (t := 42) ?hr ?_; (case hd => rfl); (case hg => rfl); (case hr => first | (go_simp; done) | (go_simp; rfl)); intro gb536 hg w35 hbox hb; have n0_ := A0_ (below_step (wb_ HB.out) hb); have n1_ := A0_ (hbox); have n2_ := A0_ ((by rw [hg]; exact (below_size (wb_ HB.out)) : w.heap.size ≤ gb536)); have n3_ := A0_ ((by rw [hg]; exact (below_size (wb_ HB.out)) : w.heap.size ≤ gb536)); clear HB; have HB := n0_; have BK536 := n1_; have GW536 := n2_; have GE536 := n3_; clear n0_ n1_ n2_ n3_; clear hb hbox hg; have hcz36_0 : w35.cell? ⟨gb536, 0, none⟩ = some (.string a1_0) := (bc_ BK536.out 0).trans rfl; have hcz36_1 : w35.cell? ⟨gb536, 1, none⟩ = some (.string a1_1) := (bc_ BK536.out 1).trans rfl; have hcz36_2 : w35.cell? ⟨gb536, 2, none⟩ = some (.string a1_2) := (bc_ BK536.out 2).trans rfl; have hcz36_3 : w35.cell? ⟨gb536, 3, none⟩ = some (.int .u8 a1_3) := (bc_ BK536.out 3).trans rfl; have hcz36_4 : w35.cell? ⟨gb536, 4, none⟩ = some (.int .i64 a1_4) := (bc_ BK536.out 4).trans rfl; have hcz36_5 : w35.cell? ⟨gb536, 5, none⟩ = some (.int .i64 a1_5) := (bc_ BK536.out 5).trans rfl; have hcz36_6 : w35.cell? ⟨gb536, 6, none⟩ = some (.int .i64 a1_6) := (bc_ BK536.out 6).trans rfl; have hcz36_7 : w35.cell? ⟨gb536, 7, none⟩ = some (.int .i64 a1_7) := (bc_ BK536.out 7).trans rfl; have hcz36_8 : w35.cell? ⟨gb536, 8, none⟩ = some (.slice A1_8 l1_8.length c1_8) := (bc_ BK536.out 8).trans rfl; have hfz36_0 := bf_ BK536.out 0; have hfz36_1 := bf_ BK536.out 1; have hfz36_2 := bf_ BK536.out 2; have hfz36_3 := bf_ BK536.out 3; have hfz36_4 := bf_ BK536.out 4; have hfz36_5 := bf_ BK536.out 5; have hfz36_6 := bf_ BK536.out 6; have hfz36_7 := bf_ BK536.out 7; have hfz36_8 := bf_ BK536.out 8) | ((with_reducible refine gate_callee (f := 66) rfl ?_); refine goesL_ (some 17) rfl rfl Tryz.func66 (by kernel_rfl) rfl #[.slice A0 l0.length c0, .string a1_2] rfl wm_ ?_; (with_reducible refine (tree_Find.calls _ _ l0 a1_2 t537 t538 t539 t540 t541 t542 t543 t544 t545 true _ ?side1 ?side2 A4.out).mono ?_); (case side1 => exact wc_ (Kd.C_below HR0.out HB.out)); (case side2 => exact HC0.out); rintro e w37 ⟨v546, rfl, ho0, hb⟩; refine ⟨_, rfl, ?_⟩; have n0_ := A0_ (Kd.V_lower (Kd.V_mono (ok' := fun k_ => k_ ≠ gb536) ho0 (fun k_ hk_ => (Kd.freshB (g := gb536) (o := .cells #[.string a1_0, .string a1_1, .string a1_2, .int .u8 a1_3, .int .i64 a1_4, .int .i64 a1_5, .int .i64 a1_6, .int .i64 a1_7, .slice A1_8 l1_8.length c1_8] 42 (0, 0)) (wB_ BK536.out) k_ hk_))) (below_size (wb1_ HB.out GE536.out))); have n1_ := A0_ (blk_below (g := gb536) (o := .cells #[.string a1_0, .string a1_1, .string a1_2, .int .u8 a1_3, .int .i64 a1_4, .int .i64 a1_5, .int .i64 a1_6, .int .i64 a1_7, .slice A1_8 l1_8.length c1_8] 42 (0, 0)) (wB_ BK536.out) hb); have n2_ := A0_ (below_step (wb1_ HB.out GE536.out) hb); clear BK536; clear HB; have HO547 := n0_; have BK536 := n1_; have HB := n2_; clear n0_ n1_ n2_; (try clear hb); (try clear hb2); (try clear hk); (try clear hi); (try clear ho0)) | ((with_reducible refine gate_dst (N := 5) rfl ?_); refine box_event ?hg (N := 5) ?hd (cs := #[.string (⟨#[]⟩ : ByteArray), .string (⟨#[]⟩ : ByteArray), .string (⟨#[]⟩ : ByteArray), .int .u8 0, .int .i64 0, .int .i64 0, .int .i64 0, .int .i64 0, .slice none 0 0]) (t := 42) ?hr ?_; (case hd => rfl); (case hg => rfl); (case hr => first | (go_simp; done) | (go_simp; rfl)); intro gb549 hg w38 hbox hb; have n0_ := A0_ (Vb_ (Kd.V_elderB (wV_ HO547.out) gb549 (Nat.le_of_eq hg.symm)) hb); have n1_ := A0_ (blk_below (g := gb536) (o := .cells #[.string a1_0, .string a1_1, .string a1_2, .int .u8 a1_3, .int .i64 a1_4, .int .i64 a1_5, .int .i64 a1_6, .int .i64 a1_7, .slice A1_8 l1_8.length c1_8] 42 (0, 0)) (wB_ BK536.out) hb); have n2_ := A0_ (below_step (wb1_ HB.out GE536.out) hb); have n3_ := A0_ (hbox); have n4_ := A0_ ((by rw [hg]; exact (below_size (wb1_ HB.out GE536.out)) : w.heap.size ≤ gb549)); have n5_ := A0_ ((by rw [hg]; exact (below_size (wb1_ HB.out GE536.out)) : w.heap.size ≤ gb549)); have n6_ := A0_ ((by rw [hg]; exact Nat.ne_of_lt (blk_lt (g := gb536) (o := .cells #[.string a1_0, .string a1_1, .string a1_2, .int .u8 a1_3, .int .i64 a1_4, .int .i64 a1_5, .int .i64 a1_6, .int .i64 a1_7, .slice A1_8 l1_8.length c1_8] 42 (0, 0)) (wB_ BK536.out)) : gb536 ≠ gb549)); have n7_ := A0_ ((by rw [hg]; exact Nat.ne_of_gt (blk_lt (g := gb536) (o := .cells #[.string a1_0, .string a1_1, .string a1_2, .int .u8 a1_3, .int .i64 a1_4, .int .i64 a1_5, .int .i64 a1_6, .int .i64 a1_7, .slice A1_8 l1_8.length c1_8] 42 (0, 0)) (wB_ BK536.out)) : gb549 ≠ gb536)); clear HO547; clear BK536; clear HB; have HO547 := n0_; have BK536 := n1_; have HB := n2_; have BK549 := n3_; have GW549 := n4_; have GE549 := n5_; have NB536_549 := n6_; have NB549_536 := n7_; clear n0_ n1_ n2_ n3_ n4_ n5_ n6_ n7_; clear hb hbox hg; have hnb39 := NB549_536.out; have hnc39 := NB536_549.out; have hcz40_0 : w38.cell? ⟨gb549, 0, none⟩ = some (.string (⟨#[]⟩ : ByteArray)) := (bc_ BK549.out 0).trans rfl; have hcz40_1 : w38.cell? ⟨gb549, 1, none⟩ = some (.string (⟨#[]⟩ : ByteArray)) := (bc_ BK549.out 1).trans rfl; have hcz40_2 : w38.cell? ⟨gb549, 2, none⟩ = some (.string (⟨#[]⟩ : ByteArray)) := (bc_ BK549.out 2).trans rfl; have hcz40_3 : w38.cell? ⟨gb549, 3, none⟩ = some (.int .u8 0) := (bc_ BK549.out 3).trans rfl; have hcz40_4 : w38.cell? ⟨gb549, 4, none⟩ = some (.int .i64 0) := (bc_ BK549.out 4).trans rfl; have hcz40_5 : w38.cell? ⟨gb549, 5, none⟩ = some (.int .i64 0) := (bc_ BK549.out 5).trans rfl; have hcz40_6 : w38.cell? ⟨gb549, 6, none⟩ = some (.int .i64 0) := (bc_ BK549.out 6).trans rfl; have hcz40_7 : w38.cell? ⟨gb549, 7, none⟩ = some (.int .i64 0) := (bc_ BK549.out 7).trans rfl; have hcz40_8 : w38.cell? ⟨gb549, 8, none⟩ = some (.slice none 0 0) := (bc_ BK549.out 8).trans rfl; have hfz40_0 := bf_ BK549.out 0; have hfz40_1 := bf_ BK549.out 1; have hfz40_2 := bf_ BK549.out 2; have hfz40_3 := bf_ BK549.out 3; have hfz40_4 := bf_ BK549.out 4; have hfz40_5 := bf_ BK549.out 5; have hfz40_6 := bf_ BK549.out 6; have hfz40_7 := bf_ BK549.out 7; have hfz40_8 := bf_ BK549.out 8; obtain ⟨Ao41, co41, eo41⟩ := Kd.V_slice HO547.out; subst eo41))
  go_ret
  exact ⟨we_, wb2_ HB.out GE536.out GE549.out⟩
 rw [if_pos c7] at H
 have c7b0 : (t539.toList == t537.toList) = true := beq_iff_eq.mpr c7
 have c7b1 : (t539.toList != t537.toList) = false := bne_eq_false_iff_eq.mpr c7
 clear c7
 by_cases c8 : ((Op.bytesLess a1_0.toList t537.toList) = true)
 ·rw [if_pos c8] at H
  have c8b0 : (Op.bytesLess a1_0.toList t537.toList) = true := c8
  clear c8
  obtain rfl := Option.some.inj H
  go_enter Tryz.func53, Tryz.ntmps53
  go_wp2_with (first | ((with_reducible refine gate_dst (N := 3) rfl ?_); refine box_event ?hg (N := 3) ?hd (cs := #[.string a1_0, .string a1_1, .string a1_2, .int .u8 a1_3, .int .i64 a1_4, .int .i64 a1_5, .int .i64 a1_6, .int .i64 a1_7, .slice A1_8 l1_8.length c1_8]) (t := 42) ?hr ?_; (case hd => rfl); (case hg => rfl); (case hr => first | (go_simp; done) | (go_simp; rfl)); intro gb536 hg w9 hbox hb; have n0_ := A0_ (below_step (wb_ HB.out) hb); have n1_ := A0_ (hbox); have n2_ := A0_ ((by rw [hg]; exact (below_size (wb_ HB.out)) : w.heap.size ≤ gb536)); have n3_ := A0_ ((by rw [hg]; exact (below_size (wb_ HB.out)) : w.heap.size ≤ gb536)); clear HB; have HB := n0_; have BK536 := n1_; have GW536 := n2_; have GE536 := n3_; clear n0_ n1_ n2_ n3_; clear hb hbox hg; have hcz10_0 : w9.cell? ⟨gb536, 0, none⟩ = some (.string a1_0) := (bc_ BK536.out 0).trans rfl; have hcz10_1 : w9.cell? ⟨gb536, 1, none⟩ = some (.string a1_1) := (bc_ BK536.out 1).trans rfl; have hcz10_2 : w9.cell? ⟨gb536, 2, none⟩ = some (.string a1_2) := (bc_ BK536.out 2).trans rfl; have hcz10_3 : w9.cell? ⟨gb536, 3, none⟩ = some (.int .u8 a1_3) := (bc_ BK536.out 3).trans rfl; have hcz10_4 : w9.cell? ⟨gb536, 4, none⟩ = some (.int .i64 a1_4) := (bc_ BK536.out 4).trans rfl; have hcz10_5 : w9.cell? ⟨gb536, 5, none⟩ = some (.int .i64 a1_5) := (bc_ BK536.out 5).trans rfl; have hcz10_6 : w9.cell? ⟨gb536, 6, none⟩ = some (.int .i64 a1_6) := (bc_ BK536.out 6).trans rfl; have hcz10_7 : w9.cell? ⟨gb536, 7, none⟩ = some (.int .i64 a1_7) := (bc_ BK536.out 7).trans rfl; have hcz10_8 : w9.cell? ⟨gb536, 8, none⟩ = some (.slice A1_8 l1_8.length c1_8) := (bc_ BK536.out 8).trans rfl; have hfz10_0 := bf_ BK536.out 0; have hfz10_1 := bf_ BK536.out 1; have hfz10_2 := bf_ BK536.out 2; have hfz10_3 := bf_ BK536.out 3; have hfz10_4 := bf_ BK536.out 4; have hfz10_5 := bf_ BK536.out 5; have hfz10_6 := bf_ BK536.out 6; have hfz10_7 := bf_ BK536.out 7; have hfz10_8 := bf_ BK536.out 8) | ((with_reducible refine gate_callee (f := 66) rfl ?_); refine goesL_ (some 17) rfl rfl Tryz.func66 (by kernel_rfl) rfl #[.slice A0 l0.length c0, .string a1_2] rfl wm_ ?_; (with_reducible refine (tree_Find.calls _ _ l0 a1_2 t537 t538 t539 t540 t541 t542 t543 t544 t545 true _ ?side1 ?side2 A4.out).mono ?_); (case side1 => exact wc_ (Kd.C_below HR0.out HB.out)); (case side2 => exact HC0.out); rintro e w11 ⟨v546, rfl, ho0, hb⟩; refine ⟨_, rfl, ?_⟩; have n0_ := A0_ (Kd.V_lower (Kd.V_mono (ok' := fun k_ => k_ ≠ gb536) ho0 (fun k_ hk_ => (Kd.freshB (g := gb536) (o := .cells #[.string a1_0, .string a1_1, .string a1_2, .int .u8 a1_3, .int .i64 a1_4, .int .i64 a1_5, .int .i64 a1_6, .int .i64 a1_7, .slice A1_8 l1_8.length c1_8] 42 (0, 0)) (wB_ BK536.out) k_ hk_))) (below_size (wb1_ HB.out GE536.out))); have n1_ := A0_ (blk_below (g := gb536) (o := .cells #[.string a1_0, .string a1_1, .string a1_2, .int .u8 a1_3, .int .i64 a1_4, .int .i64 a1_5, .int .i64 a1_6, .int .i64 a1_7, .slice A1_8 l1_8.length c1_8] 42 (0, 0)) (wB_ BK536.out) hb); have n2_ := A0_ (below_step (wb1_ HB.out GE536.out) hb); clear BK536; clear HB; have HO547 := n0_; have BK536 := n1_; have HB := n2_; clear n0_ n1_ n2_; (try clear hb); (try clear hb2); (try clear hk); (try clear hi); (try clear ho0)) | ((with_reducible refine gate_dst (N := 5) rfl ?_); refine box_event ?hg (N := 5) ?hd (cs := #[.string (⟨#[]⟩ : ByteArray), .string (⟨#[]⟩ : ByteArray), .string (⟨#[]⟩ : ByteArray), .int .u8 0, .int .i64 0, .int .i64 0, .int .i64 0, .int .i64 0, .slice none 0 0]) (t := 42) ?hr ?_; (case hd => rfl); (case hg => rfl); (case hr => first | (go_simp; done) | (go_simp; rfl)); intro gb549 hg w12 hbox hb; have n0_ := A0_ (Vb_ (Kd.V_elderB (wV_ HO547.out) gb549 (Nat.le_of_eq hg.symm)) hb); have n1_ := A0_ (blk_below (g := gb536) (o := .cells #[.string a1_0, .string a1_1, .string a1_2, .int .u8 a1_3, .int .i64 a1_4, .int .i64 a1_5, .int .i64 a1_6, .int .i64 a1_7, .slice A1_8 l1_8.length c1_8] 42 (0, 0)) (wB_ BK536.out) hb); have n2_ := A0_ (below_step (wb1_ HB.out GE536.out) hb); have n3_ := A0_ (hbox); have n4_ := A0_ ((by rw [hg]; exact (below_size (wb1_ HB.out GE536.out)) : w.heap.size ≤ gb549)); have n5_ := A0_ ((by rw [hg]; exact (below_size (wb1_ HB.out GE536.out)) : w.heap.size ≤ gb549)); have n6_ := A0_ ((by rw [hg]; exact Nat.ne_of_lt (blk_lt (g := gb536) (o := .cells #[.string a1_0, .string a1_1, .string a1_2, .int .u8 a1_3, .int .i64 a1_4, .int .i64 a1_5, .int .i64 a1_6, .int .i64 a1_7, .slice A1_8 l1_8.length c1_8] 42 (0, 0)) (wB_ BK536.out)) : gb536 ≠ gb549)); have n7_ := A0_ ((by rw [hg]; exact Nat.ne_of_gt (blk_lt (g := gb536) (o := .cells #[.string a1_0, .string a1_1, .string a1_2, .int .u8 a1_3, .int .i64 a1_4, .int .i64 a1_5, .int .i64 a1_6, .int .i64 a1_7, .slice A1_8 l1_8.length c1_8] 42 (0, 0)) (wB_ BK536.out)) : gb549 ≠ gb536)); clear HO547; clear BK536; clear HB; have HO547 := n0_; have BK536 := n1_; have HB := n2_; have BK549 := n3_; have GW549 := n4_; have GE549 := n5_; have NB536_549 := n6_; have NB549_536 := n7_; clear n0_ n1_ n2_ n3_ n4_ n5_ n6_ n7_; clear hb hbox hg; have hnb13 := NB549_536.out; have hnc13 := NB536_549.out; have hcz14_0 : w12.cell? ⟨gb549, 0, none⟩ = some (.string (⟨#[]⟩ : ByteArray)) := (bc_ BK549.out 0).trans rfl; have hcz14_1 : w12.cell? ⟨gb549, 1, none⟩ = some (.string (⟨#[]⟩ : ByteArray)) := (bc_ BK549.out 1).trans rfl; have hcz14_2 : w12.cell? ⟨gb549, 2, none⟩ = some (.string (⟨#[]⟩ : ByteArray)) := (bc_ BK549.out 2).trans rfl; have hcz14_3 : w12.cell? ⟨gb549, 3, none⟩ = some (.int .u8 0) := (bc_ BK549.out 3).trans rfl; have hcz14_4 : w12.cell? ⟨gb549, 4, none⟩ = some (.int .i64 0) := (bc_ BK549.out 4).trans rfl; have hcz14_5 : w12.cell? ⟨gb549, 5, none⟩ = some (.int .i64 0) := (bc_ BK549.out 5).trans rfl; have hcz14_6 : w12.cell? ⟨gb549, 6, none⟩ = some (.int .i64 0) := (bc_ BK549.out 6).trans rfl; have hcz14_7 : w12.cell? ⟨gb549, 7, none⟩ = some (.int .i64 0) := (bc_ BK549.out 7).trans rfl; have hcz14_8 : w12.cell? ⟨gb549, 8, none⟩ = some (.slice none 0 0) := (bc_ BK549.out 8).trans rfl; have hfz14_0 := bf_ BK549.out 0; have hfz14_1 := bf_ BK549.out 1; have hfz14_2 := bf_ BK549.out 2; have hfz14_3 := bf_ BK549.out 3; have hfz14_4 := bf_ BK549.out 4; have hfz14_5 := bf_ BK549.out 5; have hfz14_6 := bf_ BK549.out 6; have hfz14_7 := bf_ BK549.out 7; have hfz14_8 := bf_ BK549.out 8; obtain ⟨Ao15, co15, eo15⟩ := Kd.V_slice HO547.out; subst eo15; have hcz16_0 : w12.cell? ⟨gb536, 0, none⟩ = some (.string a1_0) := (bc_ BK536.out 0).trans rfl; have hcz16_1 : w12.cell? ⟨gb536, 1, none⟩ = some (.string a1_1) := (bc_ BK536.out 1).trans rfl; have hcz16_2 : w12.cell? ⟨gb536, 2, none⟩ = some (.string a1_2) := (bc_ BK536.out 2).trans rfl; have hcz16_3 : w12.cell? ⟨gb536, 3, none⟩ = some (.int .u8 a1_3) := (bc_ BK536.out 3).trans rfl; have hcz16_4 : w12.cell? ⟨gb536, 4, none⟩ = some (.int .i64 a1_4) := (bc_ BK536.out 4).trans rfl; have hcz16_5 : w12.cell? ⟨gb536, 5, none⟩ = some (.int .i64 a1_5) := (bc_ BK536.out 5).trans rfl; have hcz16_6 : w12.cell? ⟨gb536, 6, none⟩ = some (.int .i64 a1_6) := (bc_ BK536.out 6).trans rfl; have hcz16_7 : w12.cell? ⟨gb536, 7, none⟩ = some (.int .i64 a1_7) := (bc_ BK536.out 7).trans rfl; have hcz16_8 : w12.cell? ⟨gb536, 8, none⟩ = some (.slice A1_8 l1_8.length c1_8) := (bc_ BK536.out 8).trans rfl; have hfz16_0 := bf_ BK536.out 0; have hfz16_1 := bf_ BK536.out 1; have hfz16_2 := bf_ BK536.out 2; have hfz16_3 := bf_ BK536.out 3; have hfz16_4 := bf_ BK536.out 4; have hfz16_5 := bf_ BK536.out 5; have hfz16_6 := bf_ BK536.out 6; have hfz16_7 := bf_ BK536.out 7; have hfz16_8 := bf_ BK536.out 8))
  go_ret
  exact ⟨we_, wb2_ HB.out GE536.out GE549.out⟩
 rw [if_neg c8] at H
 have c8b0 : (Op.bytesLess a1_0.toList t537.toList) = false := by simpa using c8
 clear c8
 by_cases c17 : (t541 == a1_4 && (t542 == a1_5 && (t543 == a1_6 && (t544 == a1_7)))) = true
 rotate_left
 ·rw [if_neg c17] at H
  have c17b0 : (t541 == a1_4 && (t542 == a1_5 && (t543 == a1_6 && (t544 == a1_7)))) = false := by simpa using c17
  (try (have c17b1 : decide (t541 = a1_4 && (t542 == a1_5 && (t543 == a1_6 && (t544 == a1_7)))) = false := by simpa using c17))
  (try (have c17b2 : (t541 == a1_4 && (t542 == a1_5 && (t543 == a1_6 && (t544 == a1_7)))) = false := by simpa using c17))
  (try (have c17b3 : ¬ (t541 = a1_4 && (t542 == a1_5 && (t543 == a1_6 && (t544 == a1_7)))) := by simpa using c17))
  clear c17
  obtain rfl := Option.some.inj H
  go_enter Tryz.func53, Tryz.ntmps53
  go_wp2_with (first | ((with_reducible refine gate_dst (N := 3) rfl ?_); refine box_event ?hg (N := 3) ?hd (cs := #[.string a1_0, .string a1_1, .string a1_2, .int .u8 a1_3, .int .i64 a1_4, .int .i64 a1_5, .int .i64 a1_6, .int .i64 a1_7, .slice A1_8 l1_8.length c1_8]) (t := 42) ?hr ?_; (case hd => rfl); (case hg => rfl); (case hr => first | (go_simp; done) | (go_simp; rfl)); intro gb536 hg w27 hbox hb; have n0_ := A0_ (below_step (wb_ HB.out) hb); have n1_ := A0_ (hbox); have n2_ := A0_ ((by rw [hg]; exact (below_size (wb_ HB.out)) : w.heap.size ≤ gb536)); have n3_ := A0_ ((by rw [hg]; exact (below_size (wb_ HB.out)) : w.heap.size ≤ gb536)); clear HB; have HB := n0_; have BK536 := n1_; have GW536 := n2_; have GE536 := n3_; clear n0_ n1_ n2_ n3_; clear hb hbox hg; have hcz28_0 : w27.cell? ⟨gb536, 0, none⟩ = some (.string a1_0) := (bc_ BK536.out 0).trans rfl; have hcz28_1 : w27.cell? ⟨gb536, 1, none⟩ = some (.string a1_1) := (bc_ BK536.out 1).trans rfl; have hcz28_2 : w27.cell? ⟨gb536, 2, none⟩ = some (.string a1_2) := (bc_ BK536.out 2).trans rfl; have hcz28_3 : w27.cell? ⟨gb536, 3, none⟩ = some (.int .u8 a1_3) := (bc_ BK536.out 3).trans rfl; have hcz28_4 : w27.cell? ⟨gb536, 4, none⟩ = some (.int .i64 a1_4) := (bc_ BK536.out 4).trans rfl; have hcz28_5 : w27.cell? ⟨gb536, 5, none⟩ = some (.int .i64 a1_5) := (bc_ BK536.out 5).trans rfl; have hcz28_6 : w27.cell? ⟨gb536, 6, none⟩ = some (.int .i64 a1_6) := (bc_ BK536.out 6).trans rfl; have hcz28_7 : w27.cell? ⟨gb536, 7, none⟩ = some (.int .i64 a1_7) := (bc_ BK536.out 7).trans rfl; have hcz28_8 : w27.cell? ⟨gb536, 8, none⟩ = some (.slice A1_8 l1_8.length c1_8) := (bc_ BK536.out 8).trans rfl; have hfz28_0 := bf_ BK536.out 0; have hfz28_1 := bf_ BK536.out 1; have hfz28_2 := bf_ BK536.out 2; have hfz28_3 := bf_ BK536.out 3; have hfz28_4 := bf_ BK536.out 4; have hfz28_5 := bf_ BK536.out 5; have hfz28_6 := bf_ BK536.out 6; have hfz28_7 := bf_ BK536.out 7; have hfz28_8 := bf_ BK536.out 8) | ((with_reducible refine gate_callee (f := 66) rfl ?_); refine goesL_ (some 17) rfl rfl Tryz.func66 (by kernel_rfl) rfl #[.slice A0 l0.length c0, .string a1_2] rfl wm_ ?_; (with_reducible refine (tree_Find.calls _ _ l0 a1_2 t537 t538 t539 t540 t541 t542 t543 t544 t545 true _ ?side1 ?side2 A4.out).mono ?_); (case side1 => exact wc_ (Kd.C_below HR0.out HB.out)); (case side2 => exact HC0.out); rintro e w29 ⟨v546, rfl, ho0, hb⟩; refine ⟨_, rfl, ?_⟩; have n0_ := A0_ (Kd.V_lower (Kd.V_mono (ok' := fun k_ => k_ ≠ gb536) ho0 (fun k_ hk_ => (Kd.freshB (g := gb536) (o := .cells #[.string a1_0, .string a1_1, .string a1_2, .int .u8 a1_3, .int .i64 a1_4, .int .i64 a1_5, .int .i64 a1_6, .int .i64 a1_7, .slice A1_8 l1_8.length c1_8] 42 (0, 0)) (wB_ BK536.out) k_ hk_))) (below_size (wb1_ HB.out GE536.out))); have n1_ := A0_ (blk_below (g := gb536) (o := .cells #[.string a1_0, .string a1_1, .string a1_2, .int .u8 a1_3, .int .i64 a1_4, .int .i64 a1_5, .int .i64 a1_6, .int .i64 a1_7, .slice A1_8 l1_8.length c1_8] 42 (0, 0)) (wB_ BK536.out) hb); have n2_ := A0_ (below_step (wb1_ HB.out GE536.out) hb); clear BK536; clear HB; have HO547 := n0_; have BK536 := n1_; have HB := n2_; clear n0_ n1_ n2_; (try clear hb); (try clear hb2); (try clear hk); (try clear hi); (try clear ho0)) | ((with_reducible refine gate_dst (N := 5) rfl ?_); refine box_event ?hg (N := 5) ?hd (cs := #[.string (⟨#[]⟩ : ByteArray), .string (⟨#[]⟩ : ByteArray), .string (⟨#[]⟩ : ByteArray), .int .u8 0, .int .i64 0, .int .i64 0, .int .i64 0, .int .i64 0, .slice none 0 0]) (t := 42) ?hr ?_; (case hd => rfl); (case hg => rfl); (case hr => first | (go_simp; done) | (go_simp; rfl)); intro gb549 hg w30 hbox hb; have n0_ := A0_ (Vb_ (Kd.V_elderB (wV_ HO547.out) gb549 (Nat.le_of_eq hg.symm)) hb); have n1_ := A0_ (blk_below (g := gb536) (o := .cells #[.string a1_0, .string a1_1, .string a1_2, .int .u8 a1_3, .int .i64 a1_4, .int .i64 a1_5, .int .i64 a1_6, .int .i64 a1_7, .slice A1_8 l1_8.length c1_8] 42 (0, 0)) (wB_ BK536.out) hb); have n2_ := A0_ (below_step (wb1_ HB.out GE536.out) hb); have n3_ := A0_ (hbox); have n4_ := A0_ ((by rw [hg]; exact (below_size (wb1_ HB.out GE536.out)) : w.heap.size ≤ gb549)); have n5_ := A0_ ((by rw [hg]; exact (below_size (wb1_ HB.out GE536.out)) : w.heap.size ≤ gb549)); have n6_ := A0_ ((by rw [hg]; exact Nat.ne_of_lt (blk_lt (g := gb536) (o := .cells #[.string a1_0, .string a1_1, .string a1_2, .int .u8 a1_3, .int .i64 a1_4, .int .i64 a1_5, .int .i64 a1_6, .int .i64 a1_7, .slice A1_8 l1_8.length c1_8] 42 (0, 0)) (wB_ BK536.out)) : gb536 ≠ gb549)); have n7_ := A0_ ((by rw [hg]; exact Nat.ne_of_gt (blk_lt (g := gb536) (o := .cells #[.string a1_0, .string a1_1, .string a1_2, .int .u8 a1_3, .int .i64 a1_4, .int .i64 a1_5, .int .i64 a1_6, .int .i64 a1_7, .slice A1_8 l1_8.length c1_8] 42 (0, 0)) (wB_ BK536.out)) : gb549 ≠ gb536)); clear HO547; clear BK536; clear HB; have HO547 := n0_; have BK536 := n1_; have HB := n2_; have BK549 := n3_; have GW549 := n4_; have GE549 := n5_; have NB536_549 := n6_; have NB549_536 := n7_; clear n0_ n1_ n2_ n3_ n4_ n5_ n6_ n7_; clear hb hbox hg; have hnb31 := NB549_536.out; have hnc31 := NB536_549.out; have hcz32_0 : w30.cell? ⟨gb549, 0, none⟩ = some (.string (⟨#[]⟩ : ByteArray)) := (bc_ BK549.out 0).trans rfl; have hcz32_1 : w30.cell? ⟨gb549, 1, none⟩ = some (.string (⟨#[]⟩ : ByteArray)) := (bc_ BK549.out 1).trans rfl; have hcz32_2 : w30.cell? ⟨gb549, 2, none⟩ = some (.string (⟨#[]⟩ : ByteArray)) := (bc_ BK549.out 2).trans rfl; have hcz32_3 : w30.cell? ⟨gb549, 3, none⟩ = some (.int .u8 0) := (bc_ BK549.out 3).trans rfl; have hcz32_4 : w30.cell? ⟨gb549, 4, none⟩ = some (.int .i64 0) := (bc_ BK549.out 4).trans rfl; have hcz32_5 : w30.cell? ⟨gb549, 5, none⟩ = some (.int .i64 0) := (bc_ BK549.out 5).trans rfl; have hcz32_6 : w30.cell? ⟨gb549, 6, none⟩ = some (.int .i64 0) := (bc_ BK549.out 6).trans rfl; have hcz32_7 : w30.cell? ⟨gb549, 7, none⟩ = some (.int .i64 0) := (bc_ BK549.out 7).trans rfl; have hcz32_8 : w30.cell? ⟨gb549, 8, none⟩ = some (.slice none 0 0) := (bc_ BK549.out 8).trans rfl; have hfz32_0 := bf_ BK549.out 0; have hfz32_1 := bf_ BK549.out 1; have hfz32_2 := bf_ BK549.out 2; have hfz32_3 := bf_ BK549.out 3; have hfz32_4 := bf_ BK549.out 4; have hfz32_5 := bf_ BK549.out 5; have hfz32_6 := bf_ BK549.out 6; have hfz32_7 := bf_ BK549.out 7; have hfz32_8 := bf_ BK549.out 8; obtain ⟨Ao33, co33, eo33⟩ := Kd.V_slice HO547.out; subst eo33; have hcz34_0 : w30.cell? ⟨gb536, 0, none⟩ = some (.string a1_0) := (bc_ BK536.out 0).trans rfl; have hcz34_1 : w30.cell? ⟨gb536, 1, none⟩ = some (.string a1_1) := (bc_ BK536.out 1).trans rfl; have hcz34_2 : w30.cell? ⟨gb536, 2, none⟩ = some (.string a1_2) := (bc_ BK536.out 2).trans rfl; have hcz34_3 : w30.cell? ⟨gb536, 3, none⟩ = some (.int .u8 a1_3) := (bc_ BK536.out 3).trans rfl; have hcz34_4 : w30.cell? ⟨gb536, 4, none⟩ = some (.int .i64 a1_4) := (bc_ BK536.out 4).trans rfl; have hcz34_5 : w30.cell? ⟨gb536, 5, none⟩ = some (.int .i64 a1_5) := (bc_ BK536.out 5).trans rfl; have hcz34_6 : w30.cell? ⟨gb536, 6, none⟩ = some (.int .i64 a1_6) := (bc_ BK536.out 6).trans rfl; have hcz34_7 : w30.cell? ⟨gb536, 7, none⟩ = some (.int .i64 a1_7) := (bc_ BK536.out 7).trans rfl; have hcz34_8 : w30.cell? ⟨gb536, 8, none⟩ = some (.slice A1_8 l1_8.length c1_8) := (bc_ BK536.out 8).trans rfl; have hfz34_0 := bf_ BK536.out 0; have hfz34_1 := bf_ BK536.out 1; have hfz34_2 := bf_ BK536.out 2; have hfz34_3 := bf_ BK536.out 3; have hfz34_4 := bf_ BK536.out 4; have hfz34_5 := bf_ BK536.out 5; have hfz34_6 := bf_ BK536.out 6; have hfz34_7 := bf_ BK536.out 7; have hfz34_8 := bf_ BK536.out 8))
  go_ret
  exact ⟨we_, wb2_ HB.out GE536.out GE549.out⟩
 rw [if_pos c17] at H
 have c17b0 : (t541 == a1_4 && (t542 == a1_5 && (t543 == a1_6 && (t544 == a1_7)))) = true := c17
 (try (have c17b1 : decide (t541 = a1_4 && (t542 == a1_5 && (t543 == a1_6 && (t544 == a1_7)))) = true := by simpa using c17))
 (try (have c17b2 : (t541 == a1_4 && (t542 == a1_5 && (t543 == a1_6 && (t544 == a1_7)))) = true := by simpa using c17))
 clear c17
 replace H := Option.bind_eq_some_iff.mp H
 obtain ⟨t550, A180, H⟩ := H
 replace H : (some t550) = some r := H
 have A18 := A0_ A180
 clear A180
 obtain rfl := Option.some.inj H
 go_enter Tryz.func53, Tryz.ntmps53
 go_wp2_with (first | ((with_reducible refine gate_dst (N := 3) rfl ?_); refine box_event ?hg (N := 3) ?hd (cs := #[.string a1_0, .string a1_1, .string a1_2, .int .u8 a1_3, .int .i64 a1_4, .int .i64 a1_5, .int .i64 a1_6, .int .i64 a1_7, .slice A1_8 l1_8.length c1_8]) (t := 42) ?hr ?_; (case hd => rfl); (case hg => rfl); (case hr => first | (go_simp; done) | (go_simp; rfl)); intro gb536 hg w19 hbox hb; have n0_ := A0_ (below_step (wb_ HB.out) hb); have n1_ := A0_ (hbox); have n2_ := A0_ ((by rw [hg]; exact (below_size (wb_ HB.out)) : w.heap.size ≤ gb536)); have n3_ := A0_ ((by rw [hg]; exact (below_size (wb_ HB.out)) : w.heap.size ≤ gb536)); clear HB; have HB := n0_; have BK536 := n1_; have GW536 := n2_; have GE536 := n3_; clear n0_ n1_ n2_ n3_; clear hb hbox hg; have hcz20_0 : w19.cell? ⟨gb536, 0, none⟩ = some (.string a1_0) := (bc_ BK536.out 0).trans rfl; have hcz20_1 : w19.cell? ⟨gb536, 1, none⟩ = some (.string a1_1) := (bc_ BK536.out 1).trans rfl; have hcz20_2 : w19.cell? ⟨gb536, 2, none⟩ = some (.string a1_2) := (bc_ BK536.out 2).trans rfl; have hcz20_3 : w19.cell? ⟨gb536, 3, none⟩ = some (.int .u8 a1_3) := (bc_ BK536.out 3).trans rfl; have hcz20_4 : w19.cell? ⟨gb536, 4, none⟩ = some (.int .i64 a1_4) := (bc_ BK536.out 4).trans rfl; have hcz20_5 : w19.cell? ⟨gb536, 5, none⟩ = some (.int .i64 a1_5) := (bc_ BK536.out 5).trans rfl; have hcz20_6 : w19.cell? ⟨gb536, 6, none⟩ = some (.int .i64 a1_6) := (bc_ BK536.out 6).trans rfl; have hcz20_7 : w19.cell? ⟨gb536, 7, none⟩ = some (.int .i64 a1_7) := (bc_ BK536.out 7).trans rfl; have hcz20_8 : w19.cell? ⟨gb536, 8, none⟩ = some (.slice A1_8 l1_8.length c1_8) := (bc_ BK536.out 8).trans rfl; have hfz20_0 := bf_ BK536.out 0; have hfz20_1 := bf_ BK536.out 1; have hfz20_2 := bf_ BK536.out 2; have hfz20_3 := bf_ BK536.out 3; have hfz20_4 := bf_ BK536.out 4; have hfz20_5 := bf_ BK536.out 5; have hfz20_6 := bf_ BK536.out 6; have hfz20_7 := bf_ BK536.out 7; have hfz20_8 := bf_ BK536.out 8) | ((with_reducible refine gate_callee (f := 66) rfl ?_); refine goesL_ (some 17) rfl rfl Tryz.func66 (by kernel_rfl) rfl #[.slice A0 l0.length c0, .string a1_2] rfl wm_ ?_; (with_reducible refine (tree_Find.calls _ _ l0 a1_2 t537 t538 t539 t540 t541 t542 t543 t544 t545 true _ ?side1 ?side2 A4.out).mono ?_); (case side1 => exact wc_ (Kd.C_below HR0.out HB.out)); (case side2 => exact HC0.out); rintro e w21 ⟨v546, rfl, ho0, hb⟩; refine ⟨_, rfl, ?_⟩; have n0_ := A0_ (Kd.V_lower (Kd.V_mono (ok' := fun k_ => k_ ≠ gb536) ho0 (fun k_ hk_ => (Kd.freshB (g := gb536) (o := .cells #[.string a1_0, .string a1_1, .string a1_2, .int .u8 a1_3, .int .i64 a1_4, .int .i64 a1_5, .int .i64 a1_6, .int .i64 a1_7, .slice A1_8 l1_8.length c1_8] 42 (0, 0)) (wB_ BK536.out) k_ hk_))) (below_size (wb1_ HB.out GE536.out))); have n1_ := A0_ (blk_below (g := gb536) (o := .cells #[.string a1_0, .string a1_1, .string a1_2, .int .u8 a1_3, .int .i64 a1_4, .int .i64 a1_5, .int .i64 a1_6, .int .i64 a1_7, .slice A1_8 l1_8.length c1_8] 42 (0, 0)) (wB_ BK536.out) hb); have n2_ := A0_ (below_step (wb1_ HB.out GE536.out) hb); clear BK536; clear HB; have HO547 := n0_; have BK536 := n1_; have HB := n2_; clear n0_ n1_ n2_; (try clear hb); (try clear hb2); (try clear hk); (try clear hi); (try clear ho0)) | ((with_reducible refine gate_dst (N := 5) rfl ?_); refine box_event ?hg (N := 5) ?hd (cs := #[.string (⟨#[]⟩ : ByteArray), .string (⟨#[]⟩ : ByteArray), .string (⟨#[]⟩ : ByteArray), .int .u8 0, .int .i64 0, .int .i64 0, .int .i64 0, .int .i64 0, .slice none 0 0]) (t := 42) ?hr ?_; (case hd => rfl); (case hg => rfl); (case hr => first | (go_simp; done) | (go_simp; rfl)); intro gb549 hg w22 hbox hb; have n0_ := A0_ (Vb_ (Kd.V_elderB (wV_ HO547.out) gb549 (Nat.le_of_eq hg.symm)) hb); have n1_ := A0_ (blk_below (g := gb536) (o := .cells #[.string a1_0, .string a1_1, .string a1_2, .int .u8 a1_3, .int .i64 a1_4, .int .i64 a1_5, .int .i64 a1_6, .int .i64 a1_7, .slice A1_8 l1_8.length c1_8] 42 (0, 0)) (wB_ BK536.out) hb); have n2_ := A0_ (below_step (wb1_ HB.out GE536.out) hb); have n3_ := A0_ (hbox); have n4_ := A0_ ((by rw [hg]; exact (below_size (wb1_ HB.out GE536.out)) : w.heap.size ≤ gb549)); have n5_ := A0_ ((by rw [hg]; exact (below_size (wb1_ HB.out GE536.out)) : w.heap.size ≤ gb549)); have n6_ := A0_ ((by rw [hg]; exact Nat.ne_of_lt (blk_lt (g := gb536) (o := .cells #[.string a1_0, .string a1_1, .string a1_2, .int .u8 a1_3, .int .i64 a1_4, .int .i64 a1_5, .int .i64 a1_6, .int .i64 a1_7, .slice A1_8 l1_8.length c1_8] 42 (0, 0)) (wB_ BK536.out)) : gb536 ≠ gb549)); have n7_ := A0_ ((by rw [hg]; exact Nat.ne_of_gt (blk_lt (g := gb536) (o := .cells #[.string a1_0, .string a1_1, .string a1_2, .int .u8 a1_3, .int .i64 a1_4, .int .i64 a1_5, .int .i64 a1_6, .int .i64 a1_7, .slice A1_8 l1_8.length c1_8] 42 (0, 0)) (wB_ BK536.out)) : gb549 ≠ gb536)); clear HO547; clear BK536; clear HB; have HO547 := n0_; have BK536 := n1_; have HB := n2_; have BK549 := n3_; have GW549 := n4_; have GE549 := n5_; have NB536_549 := n6_; have NB549_536 := n7_; clear n0_ n1_ n2_ n3_ n4_ n5_ n6_ n7_; clear hb hbox hg; have hnb23 := NB549_536.out; have hnc23 := NB536_549.out; have hcz24_0 : w22.cell? ⟨gb549, 0, none⟩ = some (.string (⟨#[]⟩ : ByteArray)) := (bc_ BK549.out 0).trans rfl; have hcz24_1 : w22.cell? ⟨gb549, 1, none⟩ = some (.string (⟨#[]⟩ : ByteArray)) := (bc_ BK549.out 1).trans rfl; have hcz24_2 : w22.cell? ⟨gb549, 2, none⟩ = some (.string (⟨#[]⟩ : ByteArray)) := (bc_ BK549.out 2).trans rfl; have hcz24_3 : w22.cell? ⟨gb549, 3, none⟩ = some (.int .u8 0) := (bc_ BK549.out 3).trans rfl; have hcz24_4 : w22.cell? ⟨gb549, 4, none⟩ = some (.int .i64 0) := (bc_ BK549.out 4).trans rfl; have hcz24_5 : w22.cell? ⟨gb549, 5, none⟩ = some (.int .i64 0) := (bc_ BK549.out 5).trans rfl; have hcz24_6 : w22.cell? ⟨gb549, 6, none⟩ = some (.int .i64 0) := (bc_ BK549.out 6).trans rfl; have hcz24_7 : w22.cell? ⟨gb549, 7, none⟩ = some (.int .i64 0) := (bc_ BK549.out 7).trans rfl; have hcz24_8 : w22.cell? ⟨gb549, 8, none⟩ = some (.slice none 0 0) := (bc_ BK549.out 8).trans rfl; have hfz24_0 := bf_ BK549.out 0; have hfz24_1 := bf_ BK549.out 1; have hfz24_2 := bf_ BK549.out 2; have hfz24_3 := bf_ BK549.out 3; have hfz24_4 := bf_ BK549.out 4; have hfz24_5 := bf_ BK549.out 5; have hfz24_6 := bf_ BK549.out 6; have hfz24_7 := bf_ BK549.out 7; have hfz24_8 := bf_ BK549.out 8; obtain ⟨Ao25, co25, eo25⟩ := Kd.V_slice HO547.out; subst eo25; have hcz26_0 : w22.cell? ⟨gb536, 0, none⟩ = some (.string a1_0) := (bc_ BK536.out 0).trans rfl; have hcz26_1 : w22.cell? ⟨gb536, 1, none⟩ = some (.string a1_1) := (bc_ BK536.out 1).trans rfl; have hcz26_2 : w22.cell? ⟨gb536, 2, none⟩ = some (.string a1_2) := (bc_ BK536.out 2).trans rfl; have hcz26_3 : w22.cell? ⟨gb536, 3, none⟩ = some (.int .u8 a1_3) := (bc_ BK536.out 3).trans rfl; have hcz26_4 : w22.cell? ⟨gb536, 4, none⟩ = some (.int .i64 a1_4) := (bc_ BK536.out 4).trans rfl; have hcz26_5 : w22.cell? ⟨gb536, 5, none⟩ = some (.int .i64 a1_5) := (bc_ BK536.out 5).trans rfl; have hcz26_6 : w22.cell? ⟨gb536, 6, none⟩ = some (.int .i64 a1_6) := (bc_ BK536.out 6).trans rfl; have hcz26_7 : w22.cell? ⟨gb536, 7, none⟩ = some (.int .i64 a1_7) := (bc_ BK536.out 7).trans rfl; have hcz26_8 : w22.cell? ⟨gb536, 8, none⟩ = some (.slice A1_8 l1_8.length c1_8) := (bc_ BK536.out 8).trans rfl; have hfz26_0 := bf_ BK536.out 0; have hfz26_1 := bf_ BK536.out 1; have hfz26_2 := bf_ BK536.out 2; have hfz26_3 := bf_ BK536.out 3; have hfz26_4 := bf_ BK536.out 4; have hfz26_5 := bf_ BK536.out 5; have hfz26_6 := bf_ BK536.out 6; have hfz26_7 := bf_ BK536.out 7; have hfz26_8 := bf_ BK536.out 8) | (go_at_call 67; (with_reducible refine (bytes_Equal.calls _ _ t545 _ _ l1_8 t550 _ ?side1 ?side2 ?side3 ?side4 A18.out).mono ?_); (case side1 => refine (Kd.V_reads' (e := 5) (base := w.heap.size) (ok := fun k_ => (k_ ≠ gb536 ∧ k_ ≠ gb549)) (n := t545.length) (c := co25) ?_).2.2; exact (by (with_reducible repeat (first | apply Va_ | apply VN_ | apply V1_)); exact (Kd.V_mono (Kd.V_far (p := ⟨gb549, 8, none⟩) (Kd.V_far (p := ⟨gb549, 7, none⟩) (Kd.V_far (p := ⟨gb549, 6, none⟩) (Kd.V_far (p := ⟨gb549, 5, none⟩) (Kd.V_far (p := ⟨gb549, 4, none⟩) (Kd.V_far (p := ⟨gb549, 3, none⟩) (Kd.V_far (p := ⟨gb549, 2, none⟩) (Kd.V_far (p := ⟨gb549, 1, none⟩) (Kd.V_far (p := ⟨gb549, 0, none⟩) (Kd.V_mono HO547.out (fun k_ hk => (⟨hk, hk.2⟩ : _ ∧ k_ ≠ gb549))) (fun _ hk => hk.2) (.string t537)) (fun _ hk => hk.2) (.string t538)) (fun _ hk => hk.2) (.string t539)) (fun _ hk => hk.2) (.int .u8 t540)) (fun _ hk => hk.2) (.int .i64 t541)) (fun _ hk => hk.2) (.int .i64 t542)) (fun _ hk => hk.2) (.int .i64 t543)) (fun _ hk => hk.2) (.int .i64 t544)) (fun _ hk => hk.2) (.slice Ao25 t545.length co25)) (fun _ h_ => h_.1)))); (case side2 => exact (Kd.V_reads' HO547.out).2.1); (case side3 => exact Kd.C_below HR1_8.out (wb2_ HB.out GE536.out GE549.out)); (case side4 => exact HC1_8.out); rintro e w' ⟨rfl, ⟨nd, rfl⟩⟩))
 go_ret
 exact ⟨we_, wb2_ HB.out GE536.out GE549.out⟩
end Go.Proofs.YtbngbefchobfnaaGreatDoor.Print

namespace Go.Proofs.YtbngbefchobfnaaGreatDoor
open Go.RowKit Go.Proofs.YtbngbefchobfnaaGreatDoor.Print Go.Proofs.YtbngbefchobfnaaGreatDoorW.PrintWords
theorem led_f {l : List Node} (hr : riseB l = true) (hz : nodesZ l = true) (x : Node) : tree_led.f l x.f0 x.f1 x.f2 x.f3 x.f4.f0 x.f4.f1 x.f4.f2 x.f4.f3 x.f5 = some (ledB l x) := by
 unfold tree_led.f ledB
 by_cases h48 : x.f3 = 48
 ·rw [if_pos h48, if_pos h48]
  have hF : tree_Find.f l x.f2 = some (tupN (findF l x.f2)) := by unfold tree_Find.f; rw [if_pos ⟨hr, hz⟩]
  rw [hF, Option.bind_some]
  cases hf : findF l x.f2 with
  | none => rfl
  | some y =>
   refine (if_pos (c := (tupN (some y)).2.2.2.2.2.2.2.2.2 = true) rfl).trans ?_
   show (if y.f3 = 48 then (if y.f2.toList = y.f0.toList then (if Op.bytesLess x.f0.toList y.f0.toList = true then some false else (if (y.f4.f0 == x.f4.f0 && (y.f4.f1 == x.f4.f1 && (y.f4.f2 == x.f4.f2 && (y.f4.f3 == x.f4.f3)))) = true then (bytes_Equal.f y.f5 x.f5).bind fun t => some t else some false)) else some false) else some false) = some (decide (y.f3 = 48 ∧ y.f2.toList = y.f0.toList ∧ lt x.f0 y.f0 = false ∧ y.f4.f0 = x.f4.f0 ∧ y.f4.f1 = x.f4.f1 ∧ y.f4.f2 = x.f4.f2 ∧ y.f4.f3 = x.f4.f3 ∧ (strOfNums y.f5).toList = (strOfNums x.f5).toList))
   by_cases a : y.f3 = 48
   ·rw [if_pos a]
    by_cases b : y.f2.toList = y.f0.toList
    ·rw [if_pos b]
     by_cases c : Op.bytesLess x.f0.toList y.f0.toList = true
     ·rw [if_pos c, decide_eq_false]
      intro h
      have h2 := h.2.2.1
      unfold lt at h2
      rw [c] at h2
      cases h2
     ·rw [if_neg c]
      have c' : lt x.f0 y.f0 = false := by unfold lt; cases hb : Op.bytesLess x.f0.toList y.f0.toList with | true => exact absurd hb c | false => rfl
      by_cases d : (y.f4.f0 == x.f4.f0 && (y.f4.f1 == x.f4.f1 && (y.f4.f2 == x.f4.f2 && (y.f4.f3 == x.f4.f3)))) = true
      ·rw [if_pos d]
       simp only [Bool.and_eq_true, beq_iff_eq] at d
       unfold bytes_Equal.f
       rw [Option.bind_some]
       congr 1
       rw [Bool.eq_iff_iff, beq_iff_eq, decide_eq_true_iff]
       exact ⟨fun h => ⟨a, b, c', d.1, d.2.1, d.2.2.1, d.2.2.2, h⟩, fun h => h.2.2.2.2.2.2.2⟩
      ·rw [if_neg d, decide_eq_false]
       intro h
       apply d
       simp only [Bool.and_eq_true, beq_iff_eq]
       exact ⟨h.2.2.2.1, h.2.2.2.2.1, h.2.2.2.2.2.1, h.2.2.2.2.2.2.1⟩
    ·rw [if_neg b, decide_eq_false]
     exact fun h => b h.2.1
   ·rw [if_neg a, decide_eq_false]
    exact fun h => a h.1
 ·rw [if_neg h48, if_neg h48]
  congr 1
  rw [Bool.eq_iff_iff, beq_iff_eq, decide_eq_true_iff]
end Go.Proofs.YtbngbefchobfnaaGreatDoor

namespace Go.Proofs.YtbngbefchobfnaaGreatDoor
open Go.RowKit Go.Maps Go.Proofs.YtbngbefchobfnaaGreatDoor.Print Go.Proofs.YtbngbefchobfnaaGreatDoorW.PrintWords Go.Proofs.YtbngbefchobfnaaGreatDoorW.PrintLast Go.Proofs.YtbngbefchobfnaaGreatDoorW.PrintMore
set_option linter.unusedVariables false
set_option linter.unusedSimpArgs false
abbrev goodpwA_0 : Array Bool := #[false, false, false, false, false, false, false, false, false, false, false, false, false, false, false, false, false, false, false, false, false, false, false, false, false, false, false, false, false, false, false, false, false]
abbrev goodpwA_1 : Array Bool := tb_ 33 1
abbrev goodpwA_2 : Array Bool := tb_ 33 3
abbrev goodpwA_3 : Array Bool := tb_ 33 7
abbrev goodpwA_4 : Array Bool := tb_ 33 15
abbrev goodpwA_5 : Array Bool := tb_ 33 31
abbrev goodpwA_6 : Array Bool := tb_ 33 63
abbrev goodpwA_7 : Array Bool := tb_ 33 127
abbrev goodpwA_8 : Array Bool := tb_ 33 255
abbrev goodpwA_9 : Array Bool := tb_ 33 511
abbrev goodpwA_10 : Array Bool := tb_ 33 1023
abbrev goodpwA_11 : Array Bool := tb_ 33 2047
abbrev goodpwA_12 : Array Bool := tb_ 33 4095
abbrev goodpwA_13 : Array Bool := tb_ 33 8191
abbrev goodpwA_14 : Array Bool := tb_ 33 16383
abbrev goodpwA_15 : Array Bool := tb_ 33 32767
abbrev goodpwA_16 : Array Bool := tb_ 33 65535
abbrev goodpwA_17 : Array Bool := tb_ 33 131071
abbrev goodpwA_18 : Array Bool := tb_ 33 262143
abbrev goodpwA_19 : Array Bool := tb_ 33 524287
abbrev goodpwA_20 : Array Bool := tb_ 33 1048575
abbrev goodpwA_21 : Array Bool := tb_ 33 2097151
abbrev goodpwA_22 : Array Bool := tb_ 33 4194303
abbrev goodpwA_23 : Array Bool := tb_ 33 8388607
abbrev goodpwA_24 : Array Bool := tb_ 33 16777215
abbrev goodpwA_25 : Array Bool := tb_ 33 33554431
abbrev goodpwA_26 : Array Bool := tb_ 33 67108863
abbrev goodpwA_27 : Array Bool := tb_ 33 134217727
abbrev goodpwA_28 : Array Bool := tb_ 33 268435455
abbrev goodpwA_29 : Array Bool := tb_ 33 536870911
abbrev goodpwA_30 : Array Bool := tb_ 33 1073741823
abbrev goodpwA_31 : Array Bool := tb_ 33 2147483647
abbrev goodpwA_32 : Array Bool := tb_ 33 4294967295
abbrev goodpwA_33 : Array Bool := tb_ 33 8589934591
theorem acell {w : World} {p : Addr} {v : Value} (h : w.cell? p = some v) (o : Obj) : (w.alloc o).cell? p = some v := ((below_alloc (Below.refl _ _) o).cell (World.block_lt_of_cell? w _ h)).trans h
theorem bkeep {w w1 : World} {p : Addr} {v : Value} (hb : Below w.heap.size w w1) (h : w.cell? p = some v) : w1.cell? p = some v := (hb.cell (World.block_lt_of_cell? w _ h)).trans h
theorem Good1_calls (l : List Node) (hr : riseB l = true) (hz : nodesZ l = true) (A0 : Option Addr) (c0 : Nat) (hc0 : l.length ≤ c0) (B : Nat) (x : Node) (A : Option Addr) (c : Nat) (W : World) (hbox : W.cell? ⟨B, 0, none⟩ = some (.slice A0 l.length c0)) (hC : Kd.C k42 W A0 l.length l) (hx : Kd.C (Kd.int .u8) W A x.f5.length x.f5) (hc : x.f5.length ≤ c) :
  Calls Tryz.prog 52 #[.agg (nodeCells x (.slice A x.f5.length c)), .pointer (some ⟨B, 0, none⟩)] W fun e W' => e = .returned (.bool (!ledB l x)) ∧ Below W.heap.size W W' := by
 have hl := led_f hr hz x
 generalize ledB l x = b at hl
 have HL := Aside0.mk hl
 have HC := Aside0.mk hC
 have HX := Aside0.mk hx
 have hBlt : B < W.heap.size := World.block_lt_of_cell? W ⟨B, 0, none⟩ hbox
 have hbn := World.new_ne W ⟨B, 0, none⟩ hbox
 clear hl hC hx hr hz
 unfold nodeCells
 go_enter Tryz.func52, Tryz.ntmps52
 go_wp2_with (go_at_call 53; refine (tree_led.calls A0 c0 l x.f0 x.f1 x.f2 x.f3 x.f4.f0 x.f4.f1 x.f4.f2 x.f4.f3 A c x.f5 b _ (by first | exact Kd.C_alloc HC.out _ | exact HC.out) hc0 (by first | exact Kd.C_alloc HX.out _ | exact HX.out) hc HL.out).mono ?_; rintro e w1 ⟨rfl, hb⟩)
 go_ret
 exact ⟨rfl, by first | exact ((Below.refl _ _).alloc (Nat.le_refl _) _).trans (hb.mono (by simp)) | exact hb⟩
def IdxRel (l : List Node) (W : World) (i : Int) (wr : World) : Prop := 0 ≤ i ∧ i ≤ l.length ∧ (∀ (j : Nat) (hj : j < l.length), (j : Int) < i → ledB l l[j] = true) ∧ Below W.heap.size W wr
theorem all_led {l : List Node} (h : ∀ (j : Nat) (hj : j < l.length), ledB l l[j] = true) : l.all (ledB l) = true := by
 rw [List.all_eq_true]
 intro x hx
 obtain ⟨i, hi, rfl⟩ := List.getElem_of_mem hx
 exact h i hi
theorem not_led {l : List Node} {j : Nat} {hj : j < l.length} (h : ledB l l[j] = false) : l.all (ledB l) = false := by
 rw [Bool.eq_false_iff]
 intro h2
 rw [List.all_eq_true] at h2
 rw [h2 _ (List.getElem_mem hj)] at h
 cases h
set_option maxRecDepth 100000 in
set_option maxHeartbeats 2000000 in
theorem Index_calls (l : List Node) (hr : riseB l = true) (hz : nodesZ l = true) (A0 : Option Addr) (c0 : Nat) (hc0 : l.length ≤ c0) (B : Nat) (W : World) (hbox : W.cell? ⟨B, 0, none⟩ = some (.slice A0 l.length c0)) (hC : Kd.C k42 W A0 l.length l) :
  Calls Tryz.prog 65 #[.slice A0 l.length c0, .func (.func 52) #[] #[.pointer (some ⟨B, 0, none⟩)]] W fun e W' => ∃ n : Int, e = .returned (.int .i64 n) ∧ decide (n ≥ 0) = !(l.all (ledB l)) ∧ Below W.heap.size W W' := by
 have hcl := fun x A c W2 (hb : Below W.heap.size W W2) (h1 : Kd.C (Kd.int .u8) W2 A x.f5.length x.f5) (h2 : x.f5.length ≤ c) => Good1_calls l hr hz A0 c0 hc0 B x A c W2 (bkeep hb hbox) (Kd.C_below hC hb) h1 h2
 have HCL := Aside0.mk hcl
 have HC := Aside0.mk hC
 have hlen : (l.length : Int) ≤ 1000000000000 := by have := ((nodesZ_iff l).1 hz).1; omega
 clear hcl hC hr hz
 generalize hpost : (fun (e : Ending) (W' : World) => ∃ n : Int, e = .returned (.int .i64 n) ∧ decide (n ≥ 0) = !(l.all (ledB l)) ∧ Below W.heap.size W W') = Q
 have hQ := Aside0.mk hpost
 clear hpost
 go_enter Tryz.func65, Tryz.ntmps65
 go_wp2
 go_loopw [8] (fun i wr => ∃ n : Int, i = .int .i64 n ∧ Aside0 (IdxRel l W n wr)) (fun i _ => (l.length - (intOf i)).toNat)
 case atStart => exact ⟨0, rfl, ⟨⟨by omega, by omega, fun j hj h => absurd h (by omega), Below.refl _ _⟩⟩⟩
 case round =>
  obtain ⟨n, rfl, HR⟩ := hrel
  have h0 := HR.out.1
  have h1 := HR.out.2.1
  have HB := Aside0.mk HR.out.2.2.2
  by_cases hlt : n < (l.length : Int)
  ·have c1 : decide (n < (l.length : Int)) = true := decide_eq_true hlt
   have hnl : n.toNat < l.length := by omega
   obtain ⟨ad, A7, c7, rfl, x0, x1, x2, x3, x4, x5, x6, x7, x8, hl7, hC7⟩ := at_T42 (Kd.C_below HC.out HB.out) n h0 hlt
   have hx := rdN_at l n h0 hlt
   generalize rd_T42 l n = x at hx x0 x1 x2 x3 x4 x5 x6 x7 x8 hl7 hC7
   have HX := Aside0.mk hx
   have HC7 := Aside0.mk hC7
   have HL7 := Aside0.mk hl7
   have HNL := Aside0.mk hnl
   clear hx hC7 hl7 hnl
   have hcl2 := HCL.out x A7 c7 wr HB.out HC7.out HL7.out
   cases hb : ledB l x with
   | true =>
    rw [hb, Bool.not_true] at hcl2
    unfold nodeCells at hcl2
    have HC2 := Aside0.mk hcl2
    have HLB := Aside0.mk hb
    clear hcl2 hb
    go_wp2_with (go_at_call 52; refine HC2.out.mono ?_; rintro e w1 ⟨rfl, hb1⟩)
    have hfin : IdxRel l W (n + 1) w1 := by
     refine ⟨by omega, by omega, fun j hj hjn => ?_, HB.out.trans (hb1.mono HB.out.size)⟩
     rcases Nat.lt_or_ge j n.toNat with h | h
     ·exact HR.out.2.2.1 j hj (by omega)
     ·obtain rfl : j = n.toNat := by omega
      rw [← HX.out]; exact HLB.out
    clear hb1
    go_roundw
    case rel => exact ⟨n + 1, by go_num, ⟨hfin⟩⟩
    case measure => simp [intOf]; omega
   | false =>
    rw [hb, Bool.not_false] at hcl2
    unfold nodeCells at hcl2
    have HC2 := Aside0.mk hcl2
    have HLB := Aside0.mk hb
    clear hcl2 hb
    go_wp2_with (go_at_call 52; refine HC2.out.mono ?_; rintro e w1 ⟨rfl, hb1⟩)
    rw [← hQ.out]
    refine ⟨n, rfl, ?_, HB.out.trans (hb1.mono HB.out.size)⟩
    rw [not_led (j := n.toNat) (hj := HNL.out) (by rw [← HX.out]; exact HLB.out), decide_eq_true (show n ≥ 0 from h0)]
    rfl
  ·have c1 : decide (n < (l.length : Int)) = false := decide_eq_false hlt
   go_wp2
   rw [← hQ.out]
   refine ⟨-1, rfl, ?_, HB.out⟩
   rw [all_led (fun j hj => HR.out.2.2.1 j hj (by omega))]
   rfl
theorem Contains_calls (l : List Node) (hr : riseB l = true) (hz : nodesZ l = true) (A0 : Option Addr) (c0 : Nat) (hc0 : l.length ≤ c0) (B : Nat) (W : World) (hbox : W.cell? ⟨B, 0, none⟩ = some (.slice A0 l.length c0)) (hC : Kd.C k42 W A0 l.length l) :
  Calls Tryz.prog 51 #[.slice A0 l.length c0, .func (.func 52) #[] #[.pointer (some ⟨B, 0, none⟩)]] W fun e W' => e = .returned (.bool (!(l.all (ledB l)))) ∧ Below W.heap.size W W' := by
 have HI := Aside0.mk (Index_calls l hr hz A0 c0 hc0 B W hbox hC)
 clear hr hz hC
 go_enter Tryz.func51, Tryz.ntmps51
 go_wp2_with (go_at_call 65; refine HI.out.mono ?_; rintro e w1 ⟨n, rfl, hn, hb⟩; have HN := Aside0.mk hn; clear hn)
 go_ret
 exact ⟨by rw [← HN.out]; rfl, hb⟩
def headOk' (l : List Node) (i : Nat) (h : i < l.length) : Bool := (decide (i = 0) || lt (l[i - 1]'(by omega)).f0 l[i].f0) && !decide (l[i].f3 = 49) && goodM (memOf l[i])
def GRel (l : List Node) (W : World) (A0 : Option Addr) (c0 : Nat) (i : Int) (wr : World) : Prop := 0 ≤ i ∧ i ≤ l.length ∧ (∀ (j : Nat) (hj : j < l.length), (j : Int) < i → headOk' l j hj = true) ∧ Below W.heap.size W wr ∧ wr.cell? ⟨W.heap.size, 0, none⟩ = some (.slice A0 l.length c0)
theorem goodTree_head {l : List Node} (h : ∀ (i : Nat) (hi : i < l.length), headOk' l i hi = true) : riseB l = true ∧ goodTree l = (decide (l.length ≤ 4096) && l.all (ledB l)) := by
 have hp : ∀ (i : Nat) (hi : i < l.length), (i = 0 ∨ lt (l[i - 1]'(by omega)).f0 l[i].f0 = true) ∧ ¬ l[i].f3 = 49 ∧ goodM (memOf l[i]) = true := fun i hi => by
  have := h i hi
  unfold headOk' at this
  simp only [Bool.and_eq_true, Bool.or_eq_true, decide_eq_true_iff, Bool.not_eq_true', decide_eq_false_iff_not] at this
  exact ⟨this.1.1, this.1.2, this.2⟩
 have hr : riseB l = true := riseB_step (fun i hi => by
  have := (hp (i + 1) hi).1
  rcases this with h | h
  ·cases h
  ·exact h)
 refine ⟨hr, ?_⟩
 unfold goodTree
 have h1 : (l.all (fun x => !decide (x.f3 = 49) && goodM (memOf x))) = true := by
  rw [List.all_eq_true]
  intro x hx
  obtain ⟨i, hi, rfl⟩ := List.getElem_of_mem hx
  rw [Bool.and_eq_true, Bool.not_eq_true', decide_eq_false_iff_not]
  exact ⟨(hp i hi).2.1, (hp i hi).2.2⟩
 rw [hr, h1]
 rfl
theorem goodTree_nothead {l : List Node} (i : Nat) (hi : i < l.length) (h : headOk' l i hi = false) : goodTree l = false :=
 goodTree_not i hi (by show (headOk' l i hi && ledB (l.take (i + 1)) l[i]) = false; rw [h]; rfl)
theorem prev_lt' {l : List Node} {n j : Int} {h : j.toNat < l.length} {h' : n.toNat - 1 < l.length} {y0 x0 : ByteArray} {b : Bool} (hy : l[j.toNat].f0 = y0) (hj : j = n - 1) (hl : Op.bytesLess y0.toList x0.toList = b) : lt (l[n.toNat - 1]).f0 x0 = b := by
 subst hj
 unfold lt
 rw [← hl, ← hy]
 congr 4
 omega
theorem gRel_next {l : List Node} {W wr w1 : World} {A0 : Option Addr} {c0 : Nat} {n : Int} (h : GRel l W A0 c0 n wr) (hn : n.toNat < l.length) (h1 : headOk' l n.toNat hn = true) (hB : Below wr.heap.size wr w1) : GRel l W A0 c0 (n + 1) w1 := by
 have h0 := h.1
 refine ⟨by omega, by omega, fun q hq hqn => ?_, h.2.2.2.1.trans (hB.mono h.2.2.2.1.size), bkeep hB h.2.2.2.2⟩
 rcases Nat.lt_or_ge q n.toNat with hh | hh
 ·exact h.2.2.1 q hq (by omega)
 ·obtain rfl : q = n.toNat := by omega
  exact h1
def Mid4 (l : List Node) (n : Nat) (h : n < l.length) (b : Bool) (wr wx : World) : Prop := b = !(headOk' l n h) ∧ Below wr.heap.size wr wx
set_option maxRecDepth 100000 in
set_option maxHeartbeats 8000000 in
theorem Good_calls (A0 : Option Addr) (c0 : Nat) (l : List Node) (W : World) (hT : Tabs W) (hC : Kd.C k42 W A0 l.length l) (hc0 : l.length ≤ c0) (hz : NodesG l) :
  Calls Tryz.prog 37 #[.slice A0 l.length c0] W fun e W' => e = .returned (.bool (goodTree l)) ∧ Below W.heap.size W W' := by
 have HC := Aside0.mk hC
 have HZ := Aside0.mk hz
 have HC0 := Aside0.mk hc0
 have HT := Aside0.mk hT
 have hlen : (l.length : Int) ≤ 1000000000000 := by have := hz.1.1; omega
 clear hC hz hc0 hT
 generalize hpost : (fun (e : Ending) (W' : World) => e = .returned (.bool (goodTree l)) ∧ Below W.heap.size W W') = Q
 have hQ := Aside0.mk hpost
 clear hpost
 go_enter Tryz.func37, Tryz.ntmps37
 go_wp2
 go_loopg [7] (l.length) (fun g i wr => ∃ n : Int, i = .int .i64 n ∧ Aside0 (GRel l W A0 c0 n wr) ∧ Aside0 ((g : Int) + n = l.length))
 case atStart => exact ⟨0, rfl, ⟨⟨by omega, by omega, fun j hj h => absurd h (by omega), (Below.refl _ _).alloc (Nat.le_refl _) _, by simp⟩⟩, ⟨by omega⟩⟩
 case round =>
  obtain ⟨n, rfl, HR, HG⟩ := hrel
  have h0 := HR.out.1
  have h1 := HR.out.2.1
  have HB := Aside0.mk HR.out.2.2.2.1
  have hbox := HR.out.2.2.2.2
  by_cases hlt : n < (l.length : Int)
  ·have hnl : n.toNat < l.length := by omega
   obtain ⟨ad, A7, c7, rfl, x0, x1, x2, x3, x4, x5, x6, x7, x8, hl7, hC7⟩ := at_T42 (Kd.C_below HC.out HB.out) n h0 hlt
   have hx := rdN_at l n h0 hlt
   have hxz : NodeZ (rd_T42 l n) ∧ (rd_T42 l n).f0.size ≤ 8000000000000 ∧ (rd_T42 l n).f1.size ≤ 8000000000000 := by rw [hx]; exact ⟨HZ.out.1.2 _ (List.getElem_mem _), HZ.out.2 _ (List.getElem_mem _)⟩
   generalize rd_T42 l n = x at hx hxz x0 x1 x2 x3 x4 x5 x6 x7 x8 hl7 hC7
   have HX := Aside0.mk hx
   have HXZ := Aside0.mk hxz
   have HC7 := Aside0.mk hC7
   have c1b : decide (n < (l.length : Int)) = true := decide_eq_true hlt
   clear hx hxz hC7
   have hmr : MemZ (memOf x) := ⟨HXZ.out.2.1, HXZ.out.2.2, HXZ.out.1.2.2.2⟩
   obtain ⟨kg, hkg⟩ := Ev.rounds (member_Good_eq (memOf x) hmr)
   generalize hgd : goodM (memOf x) = gd at hkg
   have HGD := Aside0.mk hgd
   have HKG : Aside0 (member_Good.f kg x.f0 x.f1 x.f3 x.f4.f0 x.f4.f1 x.f4.f2 x.f4.f3 x.f5 = some gd) := ⟨hkg⟩
   have HCA := Aside0.mk (fun o => Kd.C_alloc HC7.out o)
   have HTA := Aside0.mk (Tabs.below HT.out HB.out)
   have hl7' : x.f5.length ≤ c7 := hl7
   have HNL := Aside0.mk hnl
   have hbn := World.new_ne wr ⟨W.heap.size, 0, none⟩ hbox
   clear hkg hmr hl7 hgd hnl
   go_upto_region 4 with (fail)
   go_cut [44] (fun v wx => ∃ b, v = .bool b ∧ Aside0 (Mid4 l n.toNat HNL.out b wr wx))
   case first =>
    by_cases h49 : x.f3 = 49
    ·have e49 : (x.f3 == 49) = true := beq_iff_eq.2 h49
     have H49 := Aside0.mk h49
     clear h49
     refine start_ (n := 33) (S := fun w' => w'.cell? ⟨wr.heap.size, 0, none⟩ = some (.string x.f0) ∧ w'.cell? ⟨wr.heap.size, 1, none⟩ = some (.string x.f1) ∧ w'.cell? ⟨wr.heap.size, 2, none⟩ = some (.string x.f2) ∧ w'.cell? ⟨wr.heap.size, 3, none⟩ = some (.int .u8 x.f3) ∧ w'.cell? ⟨wr.heap.size, 4, none⟩ = some (.int .i64 x.f4.f0) ∧ w'.cell? ⟨wr.heap.size, 5, none⟩ = some (.int .i64 x.f4.f1) ∧ w'.cell? ⟨wr.heap.size, 6, none⟩ = some (.int .i64 x.f4.f2) ∧ w'.cell? ⟨wr.heap.size, 7, none⟩ = some (.int .i64 x.f4.f3) ∧ w'.cell? ⟨wr.heap.size, 8, none⟩ = some (.slice A7 x.f5.length c7) ∧ w'.cell? ⟨W.heap.size, 0, none⟩ = some (.slice (some ad) l.length c0)) (ds := []) goodpwA_0 (by kernel_rfl) rfl rfl ⟨by simp, by simp, by simp, by simp, by simp, by simp, by simp, by simp, by simp, acell hbox _⟩ (fun hHeld => ?_)
     generalize hwq : (wr.alloc (.cells #[.string x.f0, .string x.f1, .string x.f2, .int .u8 x.f3, .int .i64 x.f4.f0, .int .i64 x.f4.f1, .int .i64 x.f4.f2, .int .i64 x.f4.f3, .slice A7 x.f5.length c7] 42)).drew = wq at hHeld ⊢
     refine pur_ (i := 0) (N := some 12) goodpwA_1 (by kernel_rfl) ?_
     refine tak_ (i := 1) (N := some 13) goodpwA_2 (by kernel_rfl) hHeld ?_
     refine pur_ (i := 2) (N := some 14) goodpwA_3 (by kernel_rfl) ?_
     refine pur_ (i := 3) (N := some 15) goodpwA_4 (by kernel_rfl) ?_
     refine puu_ (i := 4) (N := some 16) goodpwA_5 (by kernel_rfl) ?_
     refine puu_ (i := 5) (N := some 17) goodpwA_6 (by kernel_rfl) ?_
     refine puu_ (i := 6) (N := some 18) goodpwA_7 (by kernel_rfl) ?_
     refine puu_ (i := 7) (N := some 19) goodpwA_8 (by kernel_rfl) ?_
     refine puu_ (i := 8) (N := some 20) goodpwA_9 (by kernel_rfl) ?_
     refine puu_ (i := 9) (N := some 21) goodpwA_10 (by kernel_rfl) ?_
     refine puu_ (i := 10) (N := some 22) goodpwA_11 (by kernel_rfl) ?_
     refine puu_ (i := 11) (N := some 23) goodpwA_12 (by kernel_rfl) ?_
     refine puu_ (i := 12) (N := some 24) goodpwA_13 (by kernel_rfl) ?_
     refine puu_ (i := 13) (N := some 25) goodpwA_14 (by kernel_rfl) ?_
     refine puu_ (i := 14) (N := some 26) goodpwA_15 (by kernel_rfl) ?_
     refine puu_ (i := 15) (N := some 27) goodpwA_16 (by kernel_rfl) ?_
     refine puu_ (i := 16) (N := some 28) goodpwA_17 (by kernel_rfl) ?_
     refine pur_ (i := 17) (N := some 29) goodpwA_18 (by kernel_rfl) ?_
     refine pur_ (i := 18) (N := some 30) goodpwA_19 (by kernel_rfl) ?_
     refine puu_ (i := 19) (N := some 31) goodpwA_20 (by kernel_rfl) ?_
     refine puu_ (i := 20) (N := some 32) goodpwA_21 (by kernel_rfl) ?_
     refine puu_ (i := 21) (N := some 33) goodpwA_22 (by kernel_rfl) ?_
     refine puu_ (i := 22) (N := some 34) goodpwA_23 (by kernel_rfl) ?_
     refine puu_ (i := 23) (N := some 35) goodpwA_24 (by kernel_rfl) ?_
     refine puu_ (i := 24) (N := some 36) goodpwA_25 (by kernel_rfl) ?_
     refine puu_ (i := 25) (N := some 37) goodpwA_26 (by kernel_rfl) ?_
     refine puu_ (i := 26) (N := some 38) goodpwA_27 (by kernel_rfl) ?_
     refine puu_ (i := 27) (N := some 39) goodpwA_28 (by kernel_rfl) ?_
     refine puu_ (i := 28) (N := some 40) goodpwA_29 (by kernel_rfl) ?_
     refine puu_ (i := 29) (N := some 41) goodpwA_30 (by kernel_rfl) ?_
     refine puu_ (i := 30) (N := some 42) goodpwA_31 (by kernel_rfl) ?_
     refine puu_ (i := 31) (N := some 43) goodpwA_32 (by kernel_rfl) ?_
     refine pur_ (i := 32) (N := some 44) goodpwA_33 (by kernel_rfl) ?_
     refine done_ (by kernel_rfl) ?_
     go_wp2_with (fail)
     go_meet
     exact ⟨true, rfl, ⟨by unfold headOk'; rw [← HX.out, decide_eq_true H49.out]; simp, by rw [← hwq]; exact below_drew (below_alloc (Below.refl _ _) _)⟩⟩
    ·have e49 : (x.f3 == 49) = false := beq_eq_false_iff_ne.2 h49
     have H49 := Aside0.mk h49
     clear h49
     by_cases hn0 : n = 0
     ·have g1 : decide (0 < n) = false := decide_eq_false (by omega)
      have g2 : decide (n > 0) = false := decide_eq_false (by omega)
      have HN0 := Aside0.mk hn0
      clear hn0
      refine start_ (n := 33) (S := fun w' => w'.cell? ⟨wr.heap.size, 0, none⟩ = some (.string x.f0) ∧ w'.cell? ⟨wr.heap.size, 1, none⟩ = some (.string x.f1) ∧ w'.cell? ⟨wr.heap.size, 2, none⟩ = some (.string x.f2) ∧ w'.cell? ⟨wr.heap.size, 3, none⟩ = some (.int .u8 x.f3) ∧ w'.cell? ⟨wr.heap.size, 4, none⟩ = some (.int .i64 x.f4.f0) ∧ w'.cell? ⟨wr.heap.size, 5, none⟩ = some (.int .i64 x.f4.f1) ∧ w'.cell? ⟨wr.heap.size, 6, none⟩ = some (.int .i64 x.f4.f2) ∧ w'.cell? ⟨wr.heap.size, 7, none⟩ = some (.int .i64 x.f4.f3) ∧ w'.cell? ⟨wr.heap.size, 8, none⟩ = some (.slice A7 x.f5.length c7) ∧ w'.cell? ⟨W.heap.size, 0, none⟩ = some (.slice (some ad) l.length c0)) (ds := []) goodpwA_0 (by kernel_rfl) rfl rfl ⟨by simp, by simp, by simp, by simp, by simp, by simp, by simp, by simp, by simp, acell hbox _⟩ (fun hHeld => ?_)
      generalize hwq : (wr.alloc (.cells #[.string x.f0, .string x.f1, .string x.f2, .int .u8 x.f3, .int .i64 x.f4.f0, .int .i64 x.f4.f1, .int .i64 x.f4.f2, .int .i64 x.f4.f3, .slice A7 x.f5.length c7] 42)).drew = wq at hHeld ⊢
      refine pur_ (i := 0) (N := some 12) goodpwA_1 (by kernel_rfl) ?_
      refine tak_ (i := 1) (N := some 13) goodpwA_2 (by kernel_rfl) hHeld ?_
      refine pur_ (i := 2) (N := some 14) goodpwA_3 (by kernel_rfl) ?_
      refine pur_ (i := 3) (N := some 15) goodpwA_4 (by kernel_rfl) ?_
      refine pur_ (i := 4) (N := some 16) goodpwA_5 (by kernel_rfl) ?_
      refine pur_ (i := 5) (N := some 17) goodpwA_6 (by kernel_rfl) ?_
      refine pur_ (i := 6) (N := some 18) goodpwA_7 (by kernel_rfl) ?_
      refine puu_ (i := 7) (N := some 19) goodpwA_8 (by kernel_rfl) ?_
      refine puu_ (i := 8) (N := some 20) goodpwA_9 (by kernel_rfl) ?_
      refine puu_ (i := 9) (N := some 21) goodpwA_10 (by kernel_rfl) ?_
      refine puu_ (i := 10) (N := some 22) goodpwA_11 (by kernel_rfl) ?_
      refine puu_ (i := 11) (N := some 23) goodpwA_12 (by kernel_rfl) ?_
      refine puu_ (i := 12) (N := some 24) goodpwA_13 (by kernel_rfl) ?_
      refine puu_ (i := 13) (N := some 25) goodpwA_14 (by kernel_rfl) ?_
      refine puu_ (i := 14) (N := some 26) goodpwA_15 (by kernel_rfl) ?_
      refine puu_ (i := 15) (N := some 27) goodpwA_16 (by kernel_rfl) ?_
      refine pur_ (i := 16) (N := some 28) goodpwA_17 (by kernel_rfl) ?_
      refine pur_ (i := 17) (N := some 29) goodpwA_18 (by kernel_rfl) ?_
      refine pur_ (i := 18) (N := some 30) goodpwA_19 (by kernel_rfl) ?_
      refine pur_ (i := 19) (N := some 31) goodpwA_20 (by kernel_rfl) ?_
      refine tak_ (i := 20) (N := some 32) goodpwA_21 (by kernel_rfl) hHeld ?_
      refine pur_ (i := 21) (N := some 33) goodpwA_22 (by kernel_rfl) ?_
      refine tak_ (i := 22) (N := some 34) goodpwA_23 (by kernel_rfl) hHeld ?_
      refine pur_ (i := 23) (N := some 35) goodpwA_24 (by kernel_rfl) ?_
      refine tak_ (i := 24) (N := some 36) goodpwA_25 (by kernel_rfl) hHeld ?_
      refine pur_ (i := 25) (N := some 37) goodpwA_26 (by kernel_rfl) ?_
      refine tak_ (i := 26) (N := some 38) goodpwA_27 (by kernel_rfl) hHeld ?_
      refine pur_ (i := 27) (N := some 39) goodpwA_28 (by kernel_rfl) ?_
      refine tak_ (i := 28) (N := some 40) goodpwA_29 (by kernel_rfl) hHeld ?_
      refine pur_ (i := 29) (N := some 41) goodpwA_30 (by kernel_rfl) ?_
      refine one_ (i := 30) (N := some 42) goodpwA_31 rfl rfl (by kernel_rfl) (by decide) (fun K hK => ?_)
      refine goes_ Tryz.func50 (by kernel_rfl) rfl #[.agg #[.string x.f0, .string x.f1, .int .u8 x.f3, .int .i64 x.f4.f0, .int .i64 x.f4.f1, .int .i64 x.f4.f2, .int .i64 x.f4.f3, .slice A7 x.f5.length c7]] (by rfl) rfl rfl (by first | rfl | (simp [Act.eval]; done)) ?_
      refine (member_Good.calls kg x.f0 x.f1 x.f3 x.f4.f0 x.f4.f1 x.f4.f2 x.f4.f3 A7 c7 x.f5 gd wq ⟨by rw [← hwq]; exact Tabs.below HTA.out (below_drew (below_alloc (Below.refl _ _) _))⟩ (by rw [← hwq]; exact Kd.C_drew (HCA.out _)) hl7' HKG.out).mono ?_
      rintro e w5 ⟨rfl, hb5⟩
      refine ⟨_, rfl, ?_⟩
      refine hK.out _ _ ⟨bkeep hb5 hHeld.1, bkeep hb5 hHeld.2.1, bkeep hb5 hHeld.2.2.1, bkeep hb5 hHeld.2.2.2.1, bkeep hb5 hHeld.2.2.2.2.1, bkeep hb5 hHeld.2.2.2.2.2.1, bkeep hb5 hHeld.2.2.2.2.2.2.1, bkeep hb5 hHeld.2.2.2.2.2.2.2.1, bkeep hb5 hHeld.2.2.2.2.2.2.2.2.1, bkeep hb5 hHeld.2.2.2.2.2.2.2.2.2⟩ (fun hHeld => ?_)
      clear hK K
      refine norm_ (a' := ?_) ?_ ?_
      rotate_left
      ·show Act.put _ (some 42) _ = _
       simp only [Act.put, List.setIfInBounds_toArray, List.set_cons_zero, List.set_cons_succ, i64_w, i32_w]
       rfl
      refine pur_ (i := 31) (N := some 43) goodpwA_32 (by kernel_rfl) ?_
      refine pur_ (i := 32) (N := some 44) goodpwA_33 (by kernel_rfl) ?_
      refine done_ (by kernel_rfl) ?_
      go_wp2_with (fail)
      go_meet
      exact ⟨!gd, rfl, ⟨by unfold headOk'; rw [← HX.out, HGD.out, decide_eq_false H49.out, decide_eq_true (show n.toNat = 0 by have := HN0.out; omega)]; simp, (show Below wr.heap.size wr wq from by rw [← hwq]; exact below_drew (below_alloc (Below.refl _ _) _)).trans (hb5.mono (by rw [← hwq]; show wr.heap.size ≤ (wr.alloc (.cells #[.string x.f0, .string x.f1, .string x.f2, .int .u8 x.f3, .int .i64 x.f4.f0, .int .i64 x.f4.f1, .int .i64 x.f4.f2, .int .i64 x.f4.f3, .slice A7 x.f5.length c7] 42)).heap.size; rw [World.size_alloc]; omega))⟩⟩
     ·have g1 : decide (0 < n) = true := decide_eq_true (by omega)
      have g2 : decide (n > 0) = true := decide_eq_true (by omega)
      obtain ⟨j, hj⟩ : ∃ j, j = n - 1 := ⟨_, rfl⟩
      have hn1 : 0 ≤ j := by omega
      have hn2 : j < (l.length : Int) := by omega
      obtain ⟨ad', _, _, hA, hp0, _⟩ := at_T42 (Kd.C_below HC.out HB.out) j hn1 hn2
      cases hA
      have hy := rdN_at l j hn1 hn2
      generalize hy0 : (rd_T42 l j).f0 = y0 at hp0
      rw [hy] at hy0
      have HN0 := Aside0.mk hn0
      have HY := Aside0.mk hy0
      have hw64 : wrap64 (n - 1) = j := by unfold wrap64; omega
      have HJ := Aside0.mk hj
      clear hn0 hy hy0 hj
      cases hls : Op.bytesLess y0.toList x.f0.toList with
      | false =>
       refine start_ (n := 33) (S := fun w' => w'.cell? ⟨wr.heap.size, 0, none⟩ = some (.string x.f0) ∧ w'.cell? ⟨wr.heap.size, 1, none⟩ = some (.string x.f1) ∧ w'.cell? ⟨wr.heap.size, 2, none⟩ = some (.string x.f2) ∧ w'.cell? ⟨wr.heap.size, 3, none⟩ = some (.int .u8 x.f3) ∧ w'.cell? ⟨wr.heap.size, 4, none⟩ = some (.int .i64 x.f4.f0) ∧ w'.cell? ⟨wr.heap.size, 5, none⟩ = some (.int .i64 x.f4.f1) ∧ w'.cell? ⟨wr.heap.size, 6, none⟩ = some (.int .i64 x.f4.f2) ∧ w'.cell? ⟨wr.heap.size, 7, none⟩ = some (.int .i64 x.f4.f3) ∧ w'.cell? ⟨wr.heap.size, 8, none⟩ = some (.slice A7 x.f5.length c7) ∧ w'.cell? ⟨W.heap.size, 0, none⟩ = some (.slice (some ad) l.length c0) ∧ w'.cell? (ad.add (j.toNat * 9)) = some (.string y0)) (ds := []) goodpwA_0 (by kernel_rfl) rfl rfl ⟨by simp, by simp, by simp, by simp, by simp, by simp, by simp, by simp, by simp, acell hbox _, acell hp0 _⟩ (fun hHeld => ?_)
       generalize hwq : (wr.alloc (.cells #[.string x.f0, .string x.f1, .string x.f2, .int .u8 x.f3, .int .i64 x.f4.f0, .int .i64 x.f4.f1, .int .i64 x.f4.f2, .int .i64 x.f4.f3, .slice A7 x.f5.length c7] 42)).drew = wq at hHeld ⊢
       refine pur_ (i := 0) (N := some 12) goodpwA_1 (by kernel_rfl) ?_
       refine tak_ (i := 1) (N := some 13) goodpwA_2 (by kernel_rfl) hHeld ?_
       refine pur_ (i := 2) (N := some 14) goodpwA_3 (by kernel_rfl) ?_
       refine pur_ (i := 3) (N := some 15) goodpwA_4 (by kernel_rfl) ?_
       refine pur_ (i := 4) (N := some 16) goodpwA_5 (by kernel_rfl) ?_
       refine pur_ (i := 5) (N := some 17) goodpwA_6 (by kernel_rfl) ?_
       refine pur_ (i := 6) (N := some 18) goodpwA_7 (by kernel_rfl) ?_
       refine tak_ (i := 7) (N := some 19) goodpwA_8 (by kernel_rfl) hHeld ?_
       refine pur_ (i := 8) (N := some 20) goodpwA_9 (by kernel_rfl) ?_
       refine pur_ (i := 9) (N := some 21) goodpwA_10 (by kernel_rfl) ?_
       refine pur_ (i := 10) (N := some 22) goodpwA_11 (by kernel_rfl) ?_
       refine pur_ (i := 11) (N := some 23) goodpwA_12 (by kernel_rfl) ?_
       refine tak_ (i := 12) (N := some 24) goodpwA_13 (by kernel_rfl) hHeld ?_
       refine pur_ (i := 13) (N := some 25) goodpwA_14 (by kernel_rfl) ?_
       refine tak_ (i := 14) (N := some 26) goodpwA_15 (by kernel_rfl) hHeld ?_
       refine pur_ (i := 15) (N := some 27) goodpwA_16 (by kernel_rfl) ?_
       refine pur_ (i := 16) (N := some 28) goodpwA_17 (by kernel_rfl) ?_
       refine pur_ (i := 17) (N := some 29) goodpwA_18 (by kernel_rfl) ?_
       refine pur_ (i := 18) (N := some 30) goodpwA_19 (by kernel_rfl) ?_
       refine puu_ (i := 19) (N := some 31) goodpwA_20 (by kernel_rfl) ?_
       refine puu_ (i := 20) (N := some 32) goodpwA_21 (by kernel_rfl) ?_
       refine puu_ (i := 21) (N := some 33) goodpwA_22 (by kernel_rfl) ?_
       refine puu_ (i := 22) (N := some 34) goodpwA_23 (by kernel_rfl) ?_
       refine puu_ (i := 23) (N := some 35) goodpwA_24 (by kernel_rfl) ?_
       refine puu_ (i := 24) (N := some 36) goodpwA_25 (by kernel_rfl) ?_
       refine puu_ (i := 25) (N := some 37) goodpwA_26 (by kernel_rfl) ?_
       refine puu_ (i := 26) (N := some 38) goodpwA_27 (by kernel_rfl) ?_
       refine puu_ (i := 27) (N := some 39) goodpwA_28 (by kernel_rfl) ?_
       refine puu_ (i := 28) (N := some 40) goodpwA_29 (by kernel_rfl) ?_
       refine puu_ (i := 29) (N := some 41) goodpwA_30 (by kernel_rfl) ?_
       refine puu_ (i := 30) (N := some 42) goodpwA_31 (by kernel_rfl) ?_
       refine puu_ (i := 31) (N := some 43) goodpwA_32 (by kernel_rfl) ?_
       refine pur_ (i := 32) (N := some 44) goodpwA_33 (by kernel_rfl) ?_
       refine done_ (by kernel_rfl) ?_
       clear hw64
       go_wp2_with (fail)
       go_meet
       exact ⟨true, rfl, ⟨by unfold headOk'; rw [← HX.out, decide_eq_false (show ¬ n.toNat = 0 by have := HN0.out; omega), show lt (l[n.toNat - 1]'(by have := HNL.out; omega)).f0 x.f0 = false from (prev_lt' HY.out HJ.out hls)]; simp, by rw [← hwq]; exact below_drew (below_alloc (Below.refl _ _) _)⟩⟩
      | true =>
       refine start_ (n := 33) (S := fun w' => w'.cell? ⟨wr.heap.size, 0, none⟩ = some (.string x.f0) ∧ w'.cell? ⟨wr.heap.size, 1, none⟩ = some (.string x.f1) ∧ w'.cell? ⟨wr.heap.size, 2, none⟩ = some (.string x.f2) ∧ w'.cell? ⟨wr.heap.size, 3, none⟩ = some (.int .u8 x.f3) ∧ w'.cell? ⟨wr.heap.size, 4, none⟩ = some (.int .i64 x.f4.f0) ∧ w'.cell? ⟨wr.heap.size, 5, none⟩ = some (.int .i64 x.f4.f1) ∧ w'.cell? ⟨wr.heap.size, 6, none⟩ = some (.int .i64 x.f4.f2) ∧ w'.cell? ⟨wr.heap.size, 7, none⟩ = some (.int .i64 x.f4.f3) ∧ w'.cell? ⟨wr.heap.size, 8, none⟩ = some (.slice A7 x.f5.length c7) ∧ w'.cell? ⟨W.heap.size, 0, none⟩ = some (.slice (some ad) l.length c0) ∧ w'.cell? (ad.add (j.toNat * 9)) = some (.string y0)) (ds := []) goodpwA_0 (by kernel_rfl) rfl rfl ⟨by simp, by simp, by simp, by simp, by simp, by simp, by simp, by simp, by simp, acell hbox _, acell hp0 _⟩ (fun hHeld => ?_)
       generalize hwq : (wr.alloc (.cells #[.string x.f0, .string x.f1, .string x.f2, .int .u8 x.f3, .int .i64 x.f4.f0, .int .i64 x.f4.f1, .int .i64 x.f4.f2, .int .i64 x.f4.f3, .slice A7 x.f5.length c7] 42)).drew = wq at hHeld ⊢
       refine pur_ (i := 0) (N := some 12) goodpwA_1 (by kernel_rfl) ?_
       refine tak_ (i := 1) (N := some 13) goodpwA_2 (by kernel_rfl) hHeld ?_
       refine pur_ (i := 2) (N := some 14) goodpwA_3 (by kernel_rfl) ?_
       refine pur_ (i := 3) (N := some 15) goodpwA_4 (by kernel_rfl) ?_
       refine pur_ (i := 4) (N := some 16) goodpwA_5 (by kernel_rfl) ?_
       refine pur_ (i := 5) (N := some 17) goodpwA_6 (by kernel_rfl) ?_
       refine pur_ (i := 6) (N := some 18) goodpwA_7 (by kernel_rfl) ?_
       refine tak_ (i := 7) (N := some 19) goodpwA_8 (by kernel_rfl) hHeld ?_
       refine pur_ (i := 8) (N := some 20) goodpwA_9 (by kernel_rfl) ?_
       refine pur_ (i := 9) (N := some 21) goodpwA_10 (by kernel_rfl) ?_
       refine pur_ (i := 10) (N := some 22) goodpwA_11 (by kernel_rfl) ?_
       refine pur_ (i := 11) (N := some 23) goodpwA_12 (by kernel_rfl) ?_
       refine tak_ (i := 12) (N := some 24) goodpwA_13 (by kernel_rfl) hHeld ?_
       refine pur_ (i := 13) (N := some 25) goodpwA_14 (by kernel_rfl) ?_
       refine tak_ (i := 14) (N := some 26) goodpwA_15 (by kernel_rfl) hHeld ?_
       refine pur_ (i := 15) (N := some 27) goodpwA_16 (by kernel_rfl) ?_
       refine pur_ (i := 16) (N := some 28) goodpwA_17 (by kernel_rfl) ?_
       refine pur_ (i := 17) (N := some 29) goodpwA_18 (by kernel_rfl) ?_
       refine pur_ (i := 18) (N := some 30) goodpwA_19 (by kernel_rfl) ?_
       refine pur_ (i := 19) (N := some 31) goodpwA_20 (by kernel_rfl) ?_
       refine tak_ (i := 20) (N := some 32) goodpwA_21 (by kernel_rfl) hHeld ?_
       refine pur_ (i := 21) (N := some 33) goodpwA_22 (by kernel_rfl) ?_
       refine tak_ (i := 22) (N := some 34) goodpwA_23 (by kernel_rfl) hHeld ?_
       refine pur_ (i := 23) (N := some 35) goodpwA_24 (by kernel_rfl) ?_
       refine tak_ (i := 24) (N := some 36) goodpwA_25 (by kernel_rfl) hHeld ?_
       refine pur_ (i := 25) (N := some 37) goodpwA_26 (by kernel_rfl) ?_
       refine tak_ (i := 26) (N := some 38) goodpwA_27 (by kernel_rfl) hHeld ?_
       refine pur_ (i := 27) (N := some 39) goodpwA_28 (by kernel_rfl) ?_
       refine tak_ (i := 28) (N := some 40) goodpwA_29 (by kernel_rfl) hHeld ?_
       refine pur_ (i := 29) (N := some 41) goodpwA_30 (by kernel_rfl) ?_
       refine one_ (i := 30) (N := some 42) goodpwA_31 rfl rfl (by kernel_rfl) (by decide) (fun K hK => ?_)
       refine goes_ Tryz.func50 (by kernel_rfl) rfl #[.agg #[.string x.f0, .string x.f1, .int .u8 x.f3, .int .i64 x.f4.f0, .int .i64 x.f4.f1, .int .i64 x.f4.f2, .int .i64 x.f4.f3, .slice A7 x.f5.length c7]] (by rfl) rfl rfl (by first | rfl | (simp [Act.eval]; done)) ?_
       refine (member_Good.calls kg x.f0 x.f1 x.f3 x.f4.f0 x.f4.f1 x.f4.f2 x.f4.f3 A7 c7 x.f5 gd wq ⟨by rw [← hwq]; exact Tabs.below HTA.out (below_drew (below_alloc (Below.refl _ _) _))⟩ (by rw [← hwq]; exact Kd.C_drew (HCA.out _)) hl7' HKG.out).mono ?_
       rintro e w5 ⟨rfl, hb5⟩
       refine ⟨_, rfl, ?_⟩
       refine hK.out _ _ ⟨bkeep hb5 hHeld.1, bkeep hb5 hHeld.2.1, bkeep hb5 hHeld.2.2.1, bkeep hb5 hHeld.2.2.2.1, bkeep hb5 hHeld.2.2.2.2.1, bkeep hb5 hHeld.2.2.2.2.2.1, bkeep hb5 hHeld.2.2.2.2.2.2.1, bkeep hb5 hHeld.2.2.2.2.2.2.2.1, bkeep hb5 hHeld.2.2.2.2.2.2.2.2.1, bkeep hb5 hHeld.2.2.2.2.2.2.2.2.2.1, bkeep hb5 hHeld.2.2.2.2.2.2.2.2.2.2⟩ (fun hHeld => ?_)
       clear hK K
       refine norm_ (a' := ?_) ?_ ?_
       rotate_left
       ·show Act.put _ (some 42) _ = _
        simp only [Act.put, List.setIfInBounds_toArray, List.set_cons_zero, List.set_cons_succ, i64_w, i32_w]
        rfl
       refine pur_ (i := 31) (N := some 43) goodpwA_32 (by kernel_rfl) ?_
       refine pur_ (i := 32) (N := some 44) goodpwA_33 (by kernel_rfl) ?_
       refine done_ (by kernel_rfl) ?_
       clear hw64
       go_wp2_with (fail)
       go_meet
       exact ⟨!gd, rfl, ⟨by unfold headOk'; rw [← HX.out, HGD.out, decide_eq_false H49.out, show lt (l[n.toNat - 1]'(by have := HNL.out; omega)).f0 x.f0 = true from (prev_lt' HY.out HJ.out hls)]; simp, (show Below wr.heap.size wr wq from by rw [← hwq]; exact below_drew (below_alloc (Below.refl _ _) _)).trans (hb5.mono (by rw [← hwq]; show wr.heap.size ≤ (wr.alloc (.cells #[.string x.f0, .string x.f1, .string x.f2, .int .u8 x.f3, .int .i64 x.f4.f0, .int .i64 x.f4.f1, .int .i64 x.f4.f2, .int .i64 x.f4.f3, .slice A7 x.f5.length c7] 42)).heap.size; rw [World.size_alloc]; omega))⟩⟩
   case rest =>
    obtain ⟨b, rfl, HM⟩ := hcut
    cases b with
    | true =>
     go_wp2
     rw [← hQ.out]
     exact ⟨by rw [goodTree_nothead n.toNat HNL.out (by have := HM.out.1; simpa using this.symm)], HB.out.trans (HM.out.2.mono HB.out.size)⟩
    | false =>
     have hfin : GRel l W (some ad) c0 (n + 1) wc := gRel_next HR.out HNL.out (by have := HM.out.1; simpa using this.symm) HM.out.2
     have HF := Aside0.mk hfin
     clear hfin
     go_wp2
     go_roundg (gk - 1)
     case measure => have := HG.out; omega
     case rel => exact ⟨n + 1, by go_num, HF, ⟨by have := HG.out; omega⟩⟩
  ·have c1b : decide (n < (l.length : Int)) = false := decide_eq_false hlt
   obtain ⟨hr, hgt⟩ := goodTree_head (l := l) (fun i hi => HR.out.2.2.1 i hi (by omega))
   have HCT := Aside0.mk (Contains_calls l hr ((nodesZ_iff l).2 HZ.out.1) A0 c0 HC0.out W.heap.size wr hbox (Kd.C_below HC.out HB.out))
   have HGT := Aside0.mk hgt
   clear hgt hr
   by_cases h4 : l.length ≤ 4096
   ·have h4b : decide ((l.length : Int) ≤ 4096) = true := decide_eq_true (by omega)
    have h4c : decide (l.length ≤ 4096) = true := decide_eq_true h4
    have H4 := Aside0.mk h4
    clear h4
    go_wp2_with (go_at_call 51; refine HCT.out.mono ?_; rintro e w1 ⟨rfl, hb1⟩)
    rw [← hQ.out]
    refine ⟨?_, HB.out.trans (hb1.mono HB.out.size)⟩
    rw [HGT.out, decide_eq_true H4.out]
    simp
   ·have h4b : decide ((l.length : Int) ≤ 4096) = false := decide_eq_false (by omega)
    have h4c : decide (l.length ≤ 4096) = false := decide_eq_false h4
    have H4 := Aside0.mk h4
    clear h4
    go_wp2
    rw [← hQ.out]
    refine ⟨?_, HB.out⟩
    rw [HGT.out, decide_eq_false H4.out]
    rfl
end Go.Proofs.YtbngbefchobfnaaGreatDoor

namespace Go.Proofs.YtbngbefchobfnaaGreatDoor
open Go.RowKit Go.Maps Go.Proofs.YtbngbefchobfnaaGreatDoor.Print Go.Proofs.YtbngbefchobfnaaGreatDoorW.PrintWords Go.Proofs.YtbngbefchobfnaaGreatDoorW.PrintLast Go.Proofs.YtbngbefchobfnaaGreatDoorW.PrintMore
set_option linter.unusedVariables false
set_option linter.unusedSimpArgs false
def TreeZ (t : List Node) : Prop := t.length ≤ 10000 ∧ NodesG t
theorem wf_small {i : Int} (h0 : 0 ≤ i) (h1 : i ≤ 10000) : (Lit.int .i64 i).wf = true := by
 have a : IntKind.i64.min = -9223372036854775808 := by decide
 have b : IntKind.i64.max = 9223372036854775807 := by decide
 unfold Lit.wf
 simp [a, b]
 omega
end Go.Proofs.YtbngbefchobfnaaGreatDoor

namespace Go.Proofs.YtbngbefchobfnaaGreatDoor
open Go.RowKit Go.Proofs.YtbngbefchobfnaaGreatDoor.Print Go.Proofs.YtbngbefchobfnaaGreatDoorW.PrintWords
set_option linter.unusedVariables false
section
variable {κ κ' κ'' : Type} {s : ByteArray → Option (κ × Node)} {t : ByteArray → Option (κ' × Node)} {u : ByteArray → Option (κ'' × Node)}
theorem file_same {a b : Node} (h : equalB a b = true) : a.f3 = 48 ↔ b.f3 = 48 := by rw [(equalB_iff.1 h).2.2.1]
theorem SameSrc.symm (h : SameSrc s t) : SameSrc t s := by
 refine ⟨fun p => ?_, fun p q k x k' x' l y l' y' a b c d f g => ?_⟩
 ·rcases h.data p with ⟨a, b⟩ | ⟨k, x, k', x', a, b, c⟩
  ·exact .inl ⟨b, a⟩
  ·exact .inr ⟨k', x', k, x, b, a, equalB_symm c⟩
 ·have e : ∀ p k x k' x', s p = some (k, x) → t p = some (k', x') → equalB x x' = true := fun p k x k' x' h1 h2 => by
   rcases h.data p with ⟨a, _⟩ | ⟨_, _, _, _, a, b, c⟩
   ·rw [a] at h1; cases h1
   ·rw [a] at h1; rw [b] at h2; cases h1; cases h2; exact c
  exact (h.cls p q k' x' k x l' y' l y b a d c ((file_same (e _ _ _ _ _ b a)).2 f) ((file_same (e _ _ _ _ _ d c)).2 g)).symm
theorem SameSrc.trans (h : SameSrc s t) (i : SameSrc t u) : SameSrc s u := by
 refine ⟨fun p => ?_, fun p q k x k' x' l y l' y' a b c d f g => ?_⟩
 ·rcases h.data p with ⟨a, b⟩ | ⟨k, x, k', x', a, b, c⟩
  ·rcases i.data p with ⟨a2, b2⟩ | ⟨k2, x2, k3, x3, a2, b2, c2⟩
   ·exact .inl ⟨a, b2⟩
   ·rw [b] at a2; cases a2
  ·rcases i.data p with ⟨a2, b2⟩ | ⟨k2, x2, k3, x3, a2, b2, c2⟩
   ·rw [b] at a2; cases a2
   ·rw [b] at a2
    cases a2
    exact .inr ⟨k, x, k3, x3, a, b2, equalB_trans c c2⟩
 ·rcases h.data p with ⟨a2, _⟩ | ⟨_, _, kt, xt, a2, bt, ct⟩
  ·rw [a2] at a; cases a
  ·rcases h.data q with ⟨a3, _⟩ | ⟨_, _, lt, yt, a3, bt', ct'⟩
   ·rw [a3] at c; cases c
   ·rw [a2] at a
    rw [a3] at c
    cases a
    cases c
    exact (h.cls p q k x kt xt l y lt yt a2 bt a3 bt' f g).trans (i.cls p q kt xt k' x' lt yt l' y' bt b bt' d ((file_same ct).1 f) ((file_same ct').1 g))
theorem fromT_of {U : List Node} (h : FromT U s) (i : SameSrc s t) : FromT U t := by
 refine ⟨h.good, fun p hp => ?_, fun p k x hp => ?_, fun p q k k' x x' y y' a b c d f g => ?_⟩
 ·rcases i.data p with ⟨a, _⟩ | ⟨_, _, _, _, _, b, _⟩
  ·exact h.no p a
  ·rw [b] at hp; cases hp
 ·rcases i.data p with ⟨_, b⟩ | ⟨k1, x1, _, _, a, b, c⟩
  ·rw [b] at hp; cases hp
  ·rw [b] at hp
   cases hp
   obtain ⟨y, h1, h2⟩ := h.yes p k1 x1 a
   exact ⟨y, h1, equalB_trans h2 c⟩
 ·rcases i.data p with ⟨_, b2⟩ | ⟨k1, x1, _, _, a1, b1, c1⟩
  ·rw [b2] at a; cases a
  ·rcases i.data q with ⟨_, b2⟩ | ⟨k2, x2, _, _, a2, b2, c2⟩
   ·rw [b2] at b; cases b
   ·rw [b1] at a
    rw [b2] at b
    cases a
    cases b
    have f' := (file_same c1).2 f
    have g' := (file_same c2).2 g
    exact (h.cls p q k1 k2 x1 x2 y y' a1 a2 c d f' g').trans (i.cls p q k1 x1 k x k2 x2 k' x' a1 b1 a2 b2 f' g')
end
theorem src_keys {α β : Type} {s : ByteArray → Option (α × Node)} {t : ByteArray → Option (β × Node)} (f : α → β) (hf : ∀ a b, f a = f b → a = b) (h : ∀ p, t p = (s p).map (fun z => (f z.1, z.2))) : SameSrc s t := by
 refine ⟨fun p => ?_, fun p q k x k' x' l y l' y' a b c d _ _ => ?_⟩
 ·cases hs : s p with
  | none => exact .inl ⟨rfl, by rw [h, hs]; rfl⟩
  | some z => exact .inr ⟨z.1, z.2, f z.1, z.2, rfl, by rw [h, hs]; rfl, equalB_iff.2 ⟨rfl, rfl, rfl, rfl, rfl⟩⟩
 ·rw [h, a] at b
  rw [h, c] at d
  cases b
  cases d
  exact ⟨fun e => by rw [e], fun e => hf _ _ e⟩
def inL (ps : List ByteArray) (p : ByteArray) : Bool := ps.any (fun q => decide (q.toList = p.toList))
theorem inL_iff {ps : List ByteArray} {p : ByteArray} : inL ps p = true ↔ p ∈ ps := by
 unfold inL
 rw [List.any_eq_true]
 exact ⟨fun ⟨q, h1, h2⟩ => by rw [← ba_ext (of_decide_eq_true h2)]; exact h1, fun h => ⟨p, h, by simp⟩⟩
end Go.Proofs.YtbngbefchobfnaaGreatDoor

namespace Go.Proofs.YtbngbefchobfnaaGreatDoor.Print
open Go.RowKit Go.Proofs.YtbngbefchobfnaaGreatDoorW.PrintWords Go.Proofs.YtbngbefchobfnaaGreatDoorW.PrintLast Go.Proofs.YtbngbefchobfnaaGreatDoorW.PrintMore
attribute [local go_sem] max2_int min2_int max_two min_two max_three min_three max_four min_four   -- for this text's walks alone
set_option linter.unusedVariables false
set_option linter.unusedSimpArgs false
attribute [local go_sem high] eqA39
def tree_Equal.f (a0_0 : ByteArray) (a0_1 : ByteArray) (a0_2 : ByteArray) (a0_3 : Int) (a0_4 : Int) (a0_5 : Int) (a0_6 : Int) (a0_7 : Int) (l0_8 : List Int) (a1_0 : ByteArray) (a1_1 : ByteArray) (a1_2 : ByteArray) (a1_3 : Int) (a1_4 : Int) (a1_5 : Int) (a1_6 : Int) (a1_7 : Int) (l1_8 : List Int) : Option (Bool) := if a0_0.toList = a1_0.toList then (if a0_3 = a1_3 then (if (a0_4 == a1_4 && (a0_5 == a1_5 && (a0_6 == a1_6 && (a0_7 == a1_7)))) = true then (if a0_1.toList = a1_1.toList then ((bytes_Equal.f l0_8 l1_8).bind fun t553 => (some t553)) else (some false)) else (some false)) else (some false)) else (some false)
set_option maxHeartbeats 8000000 in
set_option maxRecDepth 100000 in
theorem tree_Equal.calls (a0_0 : ByteArray) (a0_1 : ByteArray) (a0_2 : ByteArray) (a0_3 : Int) (a0_4 : Int) (a0_5 : Int) (a0_6 : Int) (a0_7 : Int) (A0_8 : Option Addr) (c0_8 : Nat) (l0_8 : List Int) (a1_0 : ByteArray) (a1_1 : ByteArray) (a1_2 : ByteArray) (a1_3 : Int) (a1_4 : Int) (a1_5 : Int) (a1_6 : Int) (a1_7 : Int) (A1_8 : Option Addr) (c1_8 : Nat) (l1_8 : List Int) (r : Bool) (w : World) (hr0_8 : Kd.C (Kd.int .u8) w A0_8 l0_8.length l0_8) (hc0_8 : l0_8.length ≤ c0_8) (hr1_8 : Kd.C (Kd.int .u8) w A1_8 l1_8.length l1_8) (hc1_8 : l1_8.length ≤ c1_8) (h : tree_Equal.f a0_0 a0_1 a0_2 a0_3 a0_4 a0_5 a0_6 a0_7 l0_8 a1_0 a1_1 a1_2 a1_3 a1_4 a1_5 a1_6 a1_7 l1_8 = some r) :
  Calls Tryz.prog 68 #[.agg #[.string a0_0, .string a0_1, .string a0_2, .int .u8 a0_3, .int .i64 a0_4, .int .i64 a0_5, .int .i64 a0_6, .int .i64 a0_7, .slice A0_8 l0_8.length c0_8], .agg #[.string a1_0, .string a1_1, .string a1_2, .int .u8 a1_3, .int .i64 a1_4, .int .i64 a1_5, .int .i64 a1_6, .int .i64 a1_7, .slice A1_8 l1_8.length c1_8]] w fun e w' => e = .returned (.bool r) ∧ Below w.heap.size w w' := by
 have hu42 := Tryz.underlying42
 have hu39 := Tryz.underlying39
 have HR0_8 := A0_ hr0_8
 have HC0_8 := A0_ hc0_8
 clear hr0_8 hc0_8
 have HR1_8 := A0_ hr1_8
 have HC1_8 := A0_ hc1_8
 clear hr1_8 hc1_8
 have HB := A0_ (Below.refl w.heap.size w)
 have H : (if a0_0.toList = a1_0.toList then (if a0_3 = a1_3 then (if (a0_4 == a1_4 && (a0_5 == a1_5 && (a0_6 == a1_6 && (a0_7 == a1_7)))) = true then (if a0_1.toList = a1_1.toList then ((bytes_Equal.f l0_8 l1_8).bind fun t553 => (some t553)) else (some false)) else (some false)) else (some false)) else (some false)) = some r := h
 clear h
 by_cases c3 : a0_0.toList = a1_0.toList
 rotate_left
 ·rw [if_neg c3] at H
  have c3b0 : (a0_0.toList == a1_0.toList) = false := beq_eq_false_iff_ne.mpr c3
  have c3b1 : (a0_0.toList != a1_0.toList) = true := bne_iff_ne.mpr c3
  obtain rfl := Option.some.inj H
  go_enter Tryz.func68, Tryz.ntmps68
  go_wp2_with (first | ((with_reducible refine gate_dst (N := 2) rfl ?_); refine box_event ?hg (N := 2) ?hd (cs := #[.string a0_0, .string a0_1, .string a0_2, .int .u8 a0_3, .int .i64 a0_4, .int .i64 a0_5, .int .i64 a0_6, .int .i64 a0_7, .slice A0_8 l0_8.length c0_8]) (t := 42) ?hr ?_; (case hd => rfl); (case hg => rfl); (case hr => first | (go_simp; done) | (go_simp; rfl)); intro gb551 hg w28 hbox hb; have n0_ := A0_ (below_step (wb_ HB.out) hb); have n1_ := A0_ (hbox); have n2_ := A0_ ((by rw [hg]; exact (below_size (wb_ HB.out)) : w.heap.size ≤ gb551)); have n3_ := A0_ ((by rw [hg]; exact (below_size (wb_ HB.out)) : w.heap.size ≤ gb551)); clear HB; have HB := n0_; have BK551 := n1_; have GW551 := n2_; have GE551 := n3_; clear n0_ n1_ n2_ n3_; clear hb hbox hg) | ((with_reducible refine gate_dst (N := 3) rfl ?_); refine box_event ?hg (N := 3) ?hd (cs := #[.string a1_0, .string a1_1, .string a1_2, .int .u8 a1_3, .int .i64 a1_4, .int .i64 a1_5, .int .i64 a1_6, .int .i64 a1_7, .slice A1_8 l1_8.length c1_8]) (t := 42) ?hr ?_; (case hd => rfl); (case hg => rfl); (case hr => first | (go_simp; done) | (go_simp; rfl)); intro gb552 hg w29 hbox hb; have n0_ := A0_ (blk_below (g := gb551) (o := .cells #[.string a0_0, .string a0_1, .string a0_2, .int .u8 a0_3, .int .i64 a0_4, .int .i64 a0_5, .int .i64 a0_6, .int .i64 a0_7, .slice A0_8 l0_8.length c0_8] 42 (0, 0)) (wB_ BK551.out) hb); have n1_ := A0_ (below_step (wb1_ HB.out GE551.out) hb); have n2_ := A0_ (hbox); have n3_ := A0_ ((by rw [hg]; exact (below_size (wb1_ HB.out GE551.out)) : w.heap.size ≤ gb552)); have n4_ := A0_ ((by rw [hg]; exact (below_size (wb1_ HB.out GE551.out)) : w.heap.size ≤ gb552)); have n5_ := A0_ ((by rw [hg]; exact Nat.ne_of_lt (blk_lt (g := gb551) (o := .cells #[.string a0_0, .string a0_1, .string a0_2, .int .u8 a0_3, .int .i64 a0_4, .int .i64 a0_5, .int .i64 a0_6, .int .i64 a0_7, .slice A0_8 l0_8.length c0_8] 42 (0, 0)) (wB_ BK551.out)) : gb551 ≠ gb552)); have n6_ := A0_ ((by rw [hg]; exact Nat.ne_of_gt (blk_lt (g := gb551) (o := .cells #[.string a0_0, .string a0_1, .string a0_2, .int .u8 a0_3, .int .i64 a0_4, .int .i64 a0_5, .int .i64 a0_6, .int .i64 a0_7, .slice A0_8 l0_8.length c0_8] 42 (0, 0)) (wB_ BK551.out)) : gb552 ≠ gb551)); clear BK551; clear HB; have BK551 := n0_; have HB := n1_; have BK552 := n2_; have GW552 := n3_; have GE552 := n4_; have NB551_552 := n5_; have NB552_551 := n6_; clear n0_ n1_ n2_ n3_ n4_ n5_ n6_; clear hb hbox hg; have hnb30 := NB551_552.out; have hnc30 := NB552_551.out; have hcz31_0 : w29.cell? ⟨gb551, 0, none⟩ = some (.string a0_0) := (bc_ BK551.out 0).trans rfl; have hcz31_1 : w29.cell? ⟨gb551, 1, none⟩ = some (.string a0_1) := (bc_ BK551.out 1).trans rfl; have hcz31_2 : w29.cell? ⟨gb551, 2, none⟩ = some (.string a0_2) := (bc_ BK551.out 2).trans rfl; have hcz31_3 : w29.cell? ⟨gb551, 3, none⟩ = some (.int .u8 a0_3) := (bc_ BK551.out 3).trans rfl; have hcz31_4 : w29.cell? ⟨gb551, 4, none⟩ = some (.int .i64 a0_4) := (bc_ BK551.out 4).trans rfl; have hcz31_5 : w29.cell? ⟨gb551, 5, none⟩ = some (.int .i64 a0_5) := (bc_ BK551.out 5).trans rfl; have hcz31_6 : w29.cell? ⟨gb551, 6, none⟩ = some (.int .i64 a0_6) := (bc_ BK551.out 6).trans rfl; have hcz31_7 : w29.cell? ⟨gb551, 7, none⟩ = some (.int .i64 a0_7) := (bc_ BK551.out 7).trans rfl; have hcz31_8 : w29.cell? ⟨gb551, 8, none⟩ = some (.slice A0_8 l0_8.length c0_8) := (bc_ BK551.out 8).trans rfl; have hfz31_0 := bf_ BK551.out 0; have hfz31_1 := bf_ BK551.out 1; have hfz31_2 := bf_ BK551.out 2; have hfz31_3 := bf_ BK551.out 3; have hfz31_4 := bf_ BK551.out 4; have hfz31_5 := bf_ BK551.out 5; have hfz31_6 := bf_ BK551.out 6; have hfz31_7 := bf_ BK551.out 7; have hfz31_8 := bf_ BK551.out 8; have hcz32_0 : w29.cell? ⟨gb552, 0, none⟩ = some (.string a1_0) := (bc_ BK552.out 0).trans rfl; have hcz32_1 : w29.cell? ⟨gb552, 1, none⟩ = some (.string a1_1) := (bc_ BK552.out 1).trans rfl; have hcz32_2 : w29.cell? ⟨gb552, 2, none⟩ = some (.string a1_2) := (bc_ BK552.out 2).trans rfl; have hcz32_3 : w29.cell? ⟨gb552, 3, none⟩ = some (.int .u8 a1_3) := (bc_ BK552.out 3).trans rfl; have hcz32_4 : w29.cell? ⟨gb552, 4, none⟩ = some (.int .i64 a1_4) := (bc_ BK552.out 4).trans rfl; have hcz32_5 : w29.cell? ⟨gb552, 5, none⟩ = some (.int .i64 a1_5) := (bc_ BK552.out 5).trans rfl; have hcz32_6 : w29.cell? ⟨gb552, 6, none⟩ = some (.int .i64 a1_6) := (bc_ BK552.out 6).trans rfl; have hcz32_7 : w29.cell? ⟨gb552, 7, none⟩ = some (.int .i64 a1_7) := (bc_ BK552.out 7).trans rfl; have hcz32_8 : w29.cell? ⟨gb552, 8, none⟩ = some (.slice A1_8 l1_8.length c1_8) := (bc_ BK552.out 8).trans rfl; have hfz32_0 := bf_ BK552.out 0; have hfz32_1 := bf_ BK552.out 1; have hfz32_2 := bf_ BK552.out 2; have hfz32_3 := bf_ BK552.out 3; have hfz32_4 := bf_ BK552.out 4; have hfz32_5 := bf_ BK552.out 5; have hfz32_6 := bf_ BK552.out 6; have hfz32_7 := bf_ BK552.out 7; have hfz32_8 := bf_ BK552.out 8))
  go_ret
  exact ⟨we_, wb2_ HB.out GE551.out GE552.out⟩
 rw [if_pos c3] at H
 have c3b0 : (a0_0.toList == a1_0.toList) = true := beq_iff_eq.mpr c3
 have c3b1 : (a0_0.toList != a1_0.toList) = false := bne_eq_false_iff_eq.mpr c3
 clear c3
 by_cases c4 : a0_3 = a1_3
 rotate_left
 ·rw [if_neg c4] at H
  have c4b0 : (a0_3 == a1_3) = false := beq_eq_false_iff_ne.mpr c4
  have c4b1 : (a0_3 != a1_3) = true := bne_iff_ne.mpr c4
  obtain rfl := Option.some.inj H
  go_enter Tryz.func68, Tryz.ntmps68
  go_wp2_with (first | ((with_reducible refine gate_dst (N := 2) rfl ?_); refine box_event ?hg (N := 2) ?hd (cs := #[.string a0_0, .string a0_1, .string a0_2, .int .u8 a0_3, .int .i64 a0_4, .int .i64 a0_5, .int .i64 a0_6, .int .i64 a0_7, .slice A0_8 l0_8.length c0_8]) (t := 42) ?hr ?_; (case hd => rfl); (case hg => rfl); (case hr => first | (go_simp; done) | (go_simp; rfl)); intro gb551 hg w23 hbox hb; have n0_ := A0_ (below_step (wb_ HB.out) hb); have n1_ := A0_ (hbox); have n2_ := A0_ ((by rw [hg]; exact (below_size (wb_ HB.out)) : w.heap.size ≤ gb551)); have n3_ := A0_ ((by rw [hg]; exact (below_size (wb_ HB.out)) : w.heap.size ≤ gb551)); clear HB; have HB := n0_; have BK551 := n1_; have GW551 := n2_; have GE551 := n3_; clear n0_ n1_ n2_ n3_; clear hb hbox hg) | ((with_reducible refine gate_dst (N := 3) rfl ?_); refine box_event ?hg (N := 3) ?hd (cs := #[.string a1_0, .string a1_1, .string a1_2, .int .u8 a1_3, .int .i64 a1_4, .int .i64 a1_5, .int .i64 a1_6, .int .i64 a1_7, .slice A1_8 l1_8.length c1_8]) (t := 42) ?hr ?_; (case hd => rfl); (case hg => rfl); (case hr => first | (go_simp; done) | (go_simp; rfl)); intro gb552 hg w24 hbox hb; have n0_ := A0_ (blk_below (g := gb551) (o := .cells #[.string a0_0, .string a0_1, .string a0_2, .int .u8 a0_3, .int .i64 a0_4, .int .i64 a0_5, .int .i64 a0_6, .int .i64 a0_7, .slice A0_8 l0_8.length c0_8] 42 (0, 0)) (wB_ BK551.out) hb); have n1_ := A0_ (below_step (wb1_ HB.out GE551.out) hb); have n2_ := A0_ (hbox); have n3_ := A0_ ((by rw [hg]; exact (below_size (wb1_ HB.out GE551.out)) : w.heap.size ≤ gb552)); have n4_ := A0_ ((by rw [hg]; exact (below_size (wb1_ HB.out GE551.out)) : w.heap.size ≤ gb552)); have n5_ := A0_ ((by rw [hg]; exact Nat.ne_of_lt (blk_lt (g := gb551) (o := .cells #[.string a0_0, .string a0_1, .string a0_2, .int .u8 a0_3, .int .i64 a0_4, .int .i64 a0_5, .int .i64 a0_6, .int .i64 a0_7, .slice A0_8 l0_8.length c0_8] 42 (0, 0)) (wB_ BK551.out)) : gb551 ≠ gb552)); have n6_ := A0_ ((by rw [hg]; exact Nat.ne_of_gt (blk_lt (g := gb551) (o := .cells #[.string a0_0, .string a0_1, .string a0_2, .int .u8 a0_3, .int .i64 a0_4, .int .i64 a0_5, .int .i64 a0_6, .int .i64 a0_7, .slice A0_8 l0_8.length c0_8] 42 (0, 0)) (wB_ BK551.out)) : gb552 ≠ gb551)); clear BK551; clear HB; have BK551 := n0_; have HB := n1_; have BK552 := n2_; have GW552 := n3_; have GE552 := n4_; have NB551_552 := n5_; have NB552_551 := n6_; clear n0_ n1_ n2_ n3_ n4_ n5_ n6_; clear hb hbox hg; have hnb25 := NB551_552.out; have hnc25 := NB552_551.out; have hcz26_0 : w24.cell? ⟨gb551, 0, none⟩ = some (.string a0_0) := (bc_ BK551.out 0).trans rfl; have hcz26_1 : w24.cell? ⟨gb551, 1, none⟩ = some (.string a0_1) := (bc_ BK551.out 1).trans rfl; have hcz26_2 : w24.cell? ⟨gb551, 2, none⟩ = some (.string a0_2) := (bc_ BK551.out 2).trans rfl; have hcz26_3 : w24.cell? ⟨gb551, 3, none⟩ = some (.int .u8 a0_3) := (bc_ BK551.out 3).trans rfl; have hcz26_4 : w24.cell? ⟨gb551, 4, none⟩ = some (.int .i64 a0_4) := (bc_ BK551.out 4).trans rfl; have hcz26_5 : w24.cell? ⟨gb551, 5, none⟩ = some (.int .i64 a0_5) := (bc_ BK551.out 5).trans rfl; have hcz26_6 : w24.cell? ⟨gb551, 6, none⟩ = some (.int .i64 a0_6) := (bc_ BK551.out 6).trans rfl; have hcz26_7 : w24.cell? ⟨gb551, 7, none⟩ = some (.int .i64 a0_7) := (bc_ BK551.out 7).trans rfl; have hcz26_8 : w24.cell? ⟨gb551, 8, none⟩ = some (.slice A0_8 l0_8.length c0_8) := (bc_ BK551.out 8).trans rfl; have hfz26_0 := bf_ BK551.out 0; have hfz26_1 := bf_ BK551.out 1; have hfz26_2 := bf_ BK551.out 2; have hfz26_3 := bf_ BK551.out 3; have hfz26_4 := bf_ BK551.out 4; have hfz26_5 := bf_ BK551.out 5; have hfz26_6 := bf_ BK551.out 6; have hfz26_7 := bf_ BK551.out 7; have hfz26_8 := bf_ BK551.out 8; have hcz27_0 : w24.cell? ⟨gb552, 0, none⟩ = some (.string a1_0) := (bc_ BK552.out 0).trans rfl; have hcz27_1 : w24.cell? ⟨gb552, 1, none⟩ = some (.string a1_1) := (bc_ BK552.out 1).trans rfl; have hcz27_2 : w24.cell? ⟨gb552, 2, none⟩ = some (.string a1_2) := (bc_ BK552.out 2).trans rfl; have hcz27_3 : w24.cell? ⟨gb552, 3, none⟩ = some (.int .u8 a1_3) := (bc_ BK552.out 3).trans rfl; have hcz27_4 : w24.cell? ⟨gb552, 4, none⟩ = some (.int .i64 a1_4) := (bc_ BK552.out 4).trans rfl; have hcz27_5 : w24.cell? ⟨gb552, 5, none⟩ = some (.int .i64 a1_5) := (bc_ BK552.out 5).trans rfl; have hcz27_6 : w24.cell? ⟨gb552, 6, none⟩ = some (.int .i64 a1_6) := (bc_ BK552.out 6).trans rfl; have hcz27_7 : w24.cell? ⟨gb552, 7, none⟩ = some (.int .i64 a1_7) := (bc_ BK552.out 7).trans rfl; have hcz27_8 : w24.cell? ⟨gb552, 8, none⟩ = some (.slice A1_8 l1_8.length c1_8) := (bc_ BK552.out 8).trans rfl; have hfz27_0 := bf_ BK552.out 0; have hfz27_1 := bf_ BK552.out 1; have hfz27_2 := bf_ BK552.out 2; have hfz27_3 := bf_ BK552.out 3; have hfz27_4 := bf_ BK552.out 4; have hfz27_5 := bf_ BK552.out 5; have hfz27_6 := bf_ BK552.out 6; have hfz27_7 := bf_ BK552.out 7; have hfz27_8 := bf_ BK552.out 8))
  go_ret
  exact ⟨we_, wb2_ HB.out GE551.out GE552.out⟩
 rw [if_pos c4] at H
 have c4b0 : (a0_3 == a1_3) = true := beq_iff_eq.mpr c4
 have c4b1 : (a0_3 != a1_3) = false := bne_eq_false_iff_eq.mpr c4
 clear c4
 by_cases c5 : (a0_4 == a1_4 && (a0_5 == a1_5 && (a0_6 == a1_6 && (a0_7 == a1_7)))) = true
 rotate_left
 ·rw [if_neg c5] at H
  have c5b0 : (a0_4 == a1_4 && (a0_5 == a1_5 && (a0_6 == a1_6 && (a0_7 == a1_7)))) = false := by simpa using c5
  (try (have c5b1 : decide (a0_4 = a1_4 && (a0_5 == a1_5 && (a0_6 == a1_6 && (a0_7 == a1_7)))) = false := by simpa using c5))
  (try (have c5b2 : (a0_4 == a1_4 && (a0_5 == a1_5 && (a0_6 == a1_6 && (a0_7 == a1_7)))) = false := by simpa using c5))
  (try (have c5b3 : ¬ (a0_4 = a1_4 && (a0_5 == a1_5 && (a0_6 == a1_6 && (a0_7 == a1_7)))) := by simpa using c5))
  clear c5
  obtain rfl := Option.some.inj H
  go_enter Tryz.func68, Tryz.ntmps68
  go_wp2_with (first | ((with_reducible refine gate_dst (N := 2) rfl ?_); refine box_event ?hg (N := 2) ?hd (cs := #[.string a0_0, .string a0_1, .string a0_2, .int .u8 a0_3, .int .i64 a0_4, .int .i64 a0_5, .int .i64 a0_6, .int .i64 a0_7, .slice A0_8 l0_8.length c0_8]) (t := 42) ?hr ?_; (case hd => rfl); (case hg => rfl); (case hr => first | (go_simp; done) | (go_simp; rfl)); intro gb551 hg w18 hbox hb; have n0_ := A0_ (below_step (wb_ HB.out) hb); have n1_ := A0_ (hbox); have n2_ := A0_ ((by rw [hg]; exact (below_size (wb_ HB.out)) : w.heap.size ≤ gb551)); have n3_ := A0_ ((by rw [hg]; exact (below_size (wb_ HB.out)) : w.heap.size ≤ gb551)); clear HB; have HB := n0_; have BK551 := n1_; have GW551 := n2_; have GE551 := n3_; clear n0_ n1_ n2_ n3_; clear hb hbox hg) | ((with_reducible refine gate_dst (N := 3) rfl ?_); refine box_event ?hg (N := 3) ?hd (cs := #[.string a1_0, .string a1_1, .string a1_2, .int .u8 a1_3, .int .i64 a1_4, .int .i64 a1_5, .int .i64 a1_6, .int .i64 a1_7, .slice A1_8 l1_8.length c1_8]) (t := 42) ?hr ?_; (case hd => rfl); (case hg => rfl); (case hr => first | (go_simp; done) | (go_simp; rfl)); intro gb552 hg w19 hbox hb; have n0_ := A0_ (blk_below (g := gb551) (o := .cells #[.string a0_0, .string a0_1, .string a0_2, .int .u8 a0_3, .int .i64 a0_4, .int .i64 a0_5, .int .i64 a0_6, .int .i64 a0_7, .slice A0_8 l0_8.length c0_8] 42 (0, 0)) (wB_ BK551.out) hb); have n1_ := A0_ (below_step (wb1_ HB.out GE551.out) hb); have n2_ := A0_ (hbox); have n3_ := A0_ ((by rw [hg]; exact (below_size (wb1_ HB.out GE551.out)) : w.heap.size ≤ gb552)); have n4_ := A0_ ((by rw [hg]; exact (below_size (wb1_ HB.out GE551.out)) : w.heap.size ≤ gb552)); have n5_ := A0_ ((by rw [hg]; exact Nat.ne_of_lt (blk_lt (g := gb551) (o := .cells #[.string a0_0, .string a0_1, .string a0_2, .int .u8 a0_3, .int .i64 a0_4, .int .i64 a0_5, .int .i64 a0_6, .int .i64 a0_7, .slice A0_8 l0_8.length c0_8] 42 (0, 0)) (wB_ BK551.out)) : gb551 ≠ gb552)); have n6_ := A0_ ((by rw [hg]; exact Nat.ne_of_gt (blk_lt (g := gb551) (o := .cells #[.string a0_0, .string a0_1, .string a0_2, .int .u8 a0_3, .int .i64 a0_4, .int .i64 a0_5, .int .i64 a0_6, .int .i64 a0_7, .slice A0_8 l0_8.length c0_8] 42 (0, 0)) (wB_ BK551.out)) : gb552 ≠ gb551)); clear BK551; clear HB; have BK551 := n0_; have HB := n1_; have BK552 := n2_; have GW552 := n3_; have GE552 := n4_; have NB551_552 := n5_; have NB552_551 := n6_; clear n0_ n1_ n2_ n3_ n4_ n5_ n6_; clear hb hbox hg; have hnb20 := NB551_552.out; have hnc20 := NB552_551.out; have hcz21_0 : w19.cell? ⟨gb551, 0, none⟩ = some (.string a0_0) := (bc_ BK551.out 0).trans rfl; have hcz21_1 : w19.cell? ⟨gb551, 1, none⟩ = some (.string a0_1) := (bc_ BK551.out 1).trans rfl; have hcz21_2 : w19.cell? ⟨gb551, 2, none⟩ = some (.string a0_2) := (bc_ BK551.out 2).trans rfl; have hcz21_3 : w19.cell? ⟨gb551, 3, none⟩ = some (.int .u8 a0_3) := (bc_ BK551.out 3).trans rfl; have hcz21_4 : w19.cell? ⟨gb551, 4, none⟩ = some (.int .i64 a0_4) := (bc_ BK551.out 4).trans rfl; have hcz21_5 : w19.cell? ⟨gb551, 5, none⟩ = some (.int .i64 a0_5) := (bc_ BK551.out 5).trans rfl; have hcz21_6 : w19.cell? ⟨gb551, 6, none⟩ = some (.int .i64 a0_6) := (bc_ BK551.out 6).trans rfl; have hcz21_7 : w19.cell? ⟨gb551, 7, none⟩ = some (.int .i64 a0_7) := (bc_ BK551.out 7).trans rfl; have hcz21_8 : w19.cell? ⟨gb551, 8, none⟩ = some (.slice A0_8 l0_8.length c0_8) := (bc_ BK551.out 8).trans rfl; have hfz21_0 := bf_ BK551.out 0; have hfz21_1 := bf_ BK551.out 1; have hfz21_2 := bf_ BK551.out 2; have hfz21_3 := bf_ BK551.out 3; have hfz21_4 := bf_ BK551.out 4; have hfz21_5 := bf_ BK551.out 5; have hfz21_6 := bf_ BK551.out 6; have hfz21_7 := bf_ BK551.out 7; have hfz21_8 := bf_ BK551.out 8; have hcz22_0 : w19.cell? ⟨gb552, 0, none⟩ = some (.string a1_0) := (bc_ BK552.out 0).trans rfl; have hcz22_1 : w19.cell? ⟨gb552, 1, none⟩ = some (.string a1_1) := (bc_ BK552.out 1).trans rfl; have hcz22_2 : w19.cell? ⟨gb552, 2, none⟩ = some (.string a1_2) := (bc_ BK552.out 2).trans rfl; have hcz22_3 : w19.cell? ⟨gb552, 3, none⟩ = some (.int .u8 a1_3) := (bc_ BK552.out 3).trans rfl; have hcz22_4 : w19.cell? ⟨gb552, 4, none⟩ = some (.int .i64 a1_4) := (bc_ BK552.out 4).trans rfl; have hcz22_5 : w19.cell? ⟨gb552, 5, none⟩ = some (.int .i64 a1_5) := (bc_ BK552.out 5).trans rfl; have hcz22_6 : w19.cell? ⟨gb552, 6, none⟩ = some (.int .i64 a1_6) := (bc_ BK552.out 6).trans rfl; have hcz22_7 : w19.cell? ⟨gb552, 7, none⟩ = some (.int .i64 a1_7) := (bc_ BK552.out 7).trans rfl; have hcz22_8 : w19.cell? ⟨gb552, 8, none⟩ = some (.slice A1_8 l1_8.length c1_8) := (bc_ BK552.out 8).trans rfl; have hfz22_0 := bf_ BK552.out 0; have hfz22_1 := bf_ BK552.out 1; have hfz22_2 := bf_ BK552.out 2; have hfz22_3 := bf_ BK552.out 3; have hfz22_4 := bf_ BK552.out 4; have hfz22_5 := bf_ BK552.out 5; have hfz22_6 := bf_ BK552.out 6; have hfz22_7 := bf_ BK552.out 7; have hfz22_8 := bf_ BK552.out 8))
  go_ret
  exact ⟨we_, wb2_ HB.out GE551.out GE552.out⟩
 rw [if_pos c5] at H
 have c5b0 : (a0_4 == a1_4 && (a0_5 == a1_5 && (a0_6 == a1_6 && (a0_7 == a1_7)))) = true := c5
 (try (have c5b1 : decide (a0_4 = a1_4 && (a0_5 == a1_5 && (a0_6 == a1_6 && (a0_7 == a1_7)))) = true := by simpa using c5))
 (try (have c5b2 : (a0_4 == a1_4 && (a0_5 == a1_5 && (a0_6 == a1_6 && (a0_7 == a1_7)))) = true := by simpa using c5))
 clear c5
 by_cases c6 : a0_1.toList = a1_1.toList
 rotate_left
 ·rw [if_neg c6] at H
  have c6b0 : (a0_1.toList == a1_1.toList) = false := beq_eq_false_iff_ne.mpr c6
  have c6b1 : (a0_1.toList != a1_1.toList) = true := bne_iff_ne.mpr c6
  obtain rfl := Option.some.inj H
  go_enter Tryz.func68, Tryz.ntmps68
  go_wp2_with (first | ((with_reducible refine gate_dst (N := 2) rfl ?_); refine box_event ?hg (N := 2) ?hd (cs := #[.string a0_0, .string a0_1, .string a0_2, .int .u8 a0_3, .int .i64 a0_4, .int .i64 a0_5, .int .i64 a0_6, .int .i64 a0_7, .slice A0_8 l0_8.length c0_8]) (t := 42) ?hr ?_; (case hd => rfl); (case hg => rfl); (case hr => first | (go_simp; done) | (go_simp; rfl)); intro gb551 hg w13 hbox hb; have n0_ := A0_ (below_step (wb_ HB.out) hb); have n1_ := A0_ (hbox); have n2_ := A0_ ((by rw [hg]; exact (below_size (wb_ HB.out)) : w.heap.size ≤ gb551)); have n3_ := A0_ ((by rw [hg]; exact (below_size (wb_ HB.out)) : w.heap.size ≤ gb551)); clear HB; have HB := n0_; have BK551 := n1_; have GW551 := n2_; have GE551 := n3_; clear n0_ n1_ n2_ n3_; clear hb hbox hg) | ((with_reducible refine gate_dst (N := 3) rfl ?_); refine box_event ?hg (N := 3) ?hd (cs := #[.string a1_0, .string a1_1, .string a1_2, .int .u8 a1_3, .int .i64 a1_4, .int .i64 a1_5, .int .i64 a1_6, .int .i64 a1_7, .slice A1_8 l1_8.length c1_8]) (t := 42) ?hr ?_; (case hd => rfl); (case hg => rfl); (case hr => first | (go_simp; done) | (go_simp; rfl)); intro gb552 hg w14 hbox hb; have n0_ := A0_ (blk_below (g := gb551) (o := .cells #[.string a0_0, .string a0_1, .string a0_2, .int .u8 a0_3, .int .i64 a0_4, .int .i64 a0_5, .int .i64 a0_6, .int .i64 a0_7, .slice A0_8 l0_8.length c0_8] 42 (0, 0)) (wB_ BK551.out) hb); have n1_ := A0_ (below_step (wb1_ HB.out GE551.out) hb); have n2_ := A0_ (hbox); have n3_ := A0_ ((by rw [hg]; exact (below_size (wb1_ HB.out GE551.out)) : w.heap.size ≤ gb552)); have n4_ := A0_ ((by rw [hg]; exact (below_size (wb1_ HB.out GE551.out)) : w.heap.size ≤ gb552)); have n5_ := A0_ ((by rw [hg]; exact Nat.ne_of_lt (blk_lt (g := gb551) (o := .cells #[.string a0_0, .string a0_1, .string a0_2, .int .u8 a0_3, .int .i64 a0_4, .int .i64 a0_5, .int .i64 a0_6, .int .i64 a0_7, .slice A0_8 l0_8.length c0_8] 42 (0, 0)) (wB_ BK551.out)) : gb551 ≠ gb552)); have n6_ := A0_ ((by rw [hg]; exact Nat.ne_of_gt (blk_lt (g := gb551) (o := .cells #[.string a0_0, .string a0_1, .string a0_2, .int .u8 a0_3, .int .i64 a0_4, .int .i64 a0_5, .int .i64 a0_6, .int .i64 a0_7, .slice A0_8 l0_8.length c0_8] 42 (0, 0)) (wB_ BK551.out)) : gb552 ≠ gb551)); clear BK551; clear HB; have BK551 := n0_; have HB := n1_; have BK552 := n2_; have GW552 := n3_; have GE552 := n4_; have NB551_552 := n5_; have NB552_551 := n6_; clear n0_ n1_ n2_ n3_ n4_ n5_ n6_; clear hb hbox hg; have hnb15 := NB551_552.out; have hnc15 := NB552_551.out; have hcz16_0 : w14.cell? ⟨gb551, 0, none⟩ = some (.string a0_0) := (bc_ BK551.out 0).trans rfl; have hcz16_1 : w14.cell? ⟨gb551, 1, none⟩ = some (.string a0_1) := (bc_ BK551.out 1).trans rfl; have hcz16_2 : w14.cell? ⟨gb551, 2, none⟩ = some (.string a0_2) := (bc_ BK551.out 2).trans rfl; have hcz16_3 : w14.cell? ⟨gb551, 3, none⟩ = some (.int .u8 a0_3) := (bc_ BK551.out 3).trans rfl; have hcz16_4 : w14.cell? ⟨gb551, 4, none⟩ = some (.int .i64 a0_4) := (bc_ BK551.out 4).trans rfl; have hcz16_5 : w14.cell? ⟨gb551, 5, none⟩ = some (.int .i64 a0_5) := (bc_ BK551.out 5).trans rfl; have hcz16_6 : w14.cell? ⟨gb551, 6, none⟩ = some (.int .i64 a0_6) := (bc_ BK551.out 6).trans rfl; have hcz16_7 : w14.cell? ⟨gb551, 7, none⟩ = some (.int .i64 a0_7) := (bc_ BK551.out 7).trans rfl; have hcz16_8 : w14.cell? ⟨gb551, 8, none⟩ = some (.slice A0_8 l0_8.length c0_8) := (bc_ BK551.out 8).trans rfl; have hfz16_0 := bf_ BK551.out 0; have hfz16_1 := bf_ BK551.out 1; have hfz16_2 := bf_ BK551.out 2; have hfz16_3 := bf_ BK551.out 3; have hfz16_4 := bf_ BK551.out 4; have hfz16_5 := bf_ BK551.out 5; have hfz16_6 := bf_ BK551.out 6; have hfz16_7 := bf_ BK551.out 7; have hfz16_8 := bf_ BK551.out 8; have hcz17_0 : w14.cell? ⟨gb552, 0, none⟩ = some (.string a1_0) := (bc_ BK552.out 0).trans rfl; have hcz17_1 : w14.cell? ⟨gb552, 1, none⟩ = some (.string a1_1) := (bc_ BK552.out 1).trans rfl; have hcz17_2 : w14.cell? ⟨gb552, 2, none⟩ = some (.string a1_2) := (bc_ BK552.out 2).trans rfl; have hcz17_3 : w14.cell? ⟨gb552, 3, none⟩ = some (.int .u8 a1_3) := (bc_ BK552.out 3).trans rfl; have hcz17_4 : w14.cell? ⟨gb552, 4, none⟩ = some (.int .i64 a1_4) := (bc_ BK552.out 4).trans rfl; have hcz17_5 : w14.cell? ⟨gb552, 5, none⟩ = some (.int .i64 a1_5) := (bc_ BK552.out 5).trans rfl; have hcz17_6 : w14.cell? ⟨gb552, 6, none⟩ = some (.int .i64 a1_6) := (bc_ BK552.out 6).trans rfl; have hcz17_7 : w14.cell? ⟨gb552, 7, none⟩ = some (.int .i64 a1_7) := (bc_ BK552.out 7).trans rfl; have hcz17_8 : w14.cell? ⟨gb552, 8, none⟩ = some (.slice A1_8 l1_8.length c1_8) := (bc_ BK552.out 8).trans rfl; have hfz17_0 := bf_ BK552.out 0; have hfz17_1 := bf_ BK552.out 1; have hfz17_2 := bf_ BK552.out 2; have hfz17_3 := bf_ BK552.out 3; have hfz17_4 := bf_ BK552.out 4; have hfz17_5 := bf_ BK552.out 5; have hfz17_6 := bf_ BK552.out 6; have hfz17_7 := bf_ BK552.out 7; have hfz17_8 := bf_ BK552.out 8))
  go_ret
  exact ⟨we_, wb2_ HB.out GE551.out GE552.out⟩
 rw [if_pos c6] at H
 have c6b0 : (a0_1.toList == a1_1.toList) = true := beq_iff_eq.mpr c6
 have c6b1 : (a0_1.toList != a1_1.toList) = false := bne_eq_false_iff_eq.mpr c6
 clear c6
 replace H := Option.bind_eq_some_iff.mp H
 obtain ⟨t553, A70, H⟩ := H
 replace H : (some t553) = some r := H
 have A7 := A0_ A70
 clear A70
 obtain rfl := Option.some.inj H
 go_enter Tryz.func68, Tryz.ntmps68
 go_wp2_with (first | ((with_reducible refine gate_dst (N := 2) rfl ?_); refine box_event ?hg (N := 2) ?hd (cs := #[.string a0_0, .string a0_1, .string a0_2, .int .u8 a0_3, .int .i64 a0_4, .int .i64 a0_5, .int .i64 a0_6, .int .i64 a0_7, .slice A0_8 l0_8.length c0_8]) (t := 42) ?hr ?_; (case hd => rfl); (case hg => rfl); (case hr => first | (go_simp; done) | (go_simp; rfl)); intro gb551 hg w8 hbox hb; have n0_ := A0_ (below_step (wb_ HB.out) hb); have n1_ := A0_ (hbox); have n2_ := A0_ ((by rw [hg]; exact (below_size (wb_ HB.out)) : w.heap.size ≤ gb551)); have n3_ := A0_ ((by rw [hg]; exact (below_size (wb_ HB.out)) : w.heap.size ≤ gb551)); clear HB; have HB := n0_; have BK551 := n1_; have GW551 := n2_; have GE551 := n3_; clear n0_ n1_ n2_ n3_; clear hb hbox hg) | ((with_reducible refine gate_dst (N := 3) rfl ?_); refine box_event ?hg (N := 3) ?hd (cs := #[.string a1_0, .string a1_1, .string a1_2, .int .u8 a1_3, .int .i64 a1_4, .int .i64 a1_5, .int .i64 a1_6, .int .i64 a1_7, .slice A1_8 l1_8.length c1_8]) (t := 42) ?hr ?_; (case hd => rfl); (case hg => rfl); (case hr => first | (go_simp; done) | (go_simp; rfl)); intro gb552 hg w9 hbox hb; have n0_ := A0_ (blk_below (g := gb551) (o := .cells #[.string a0_0, .string a0_1, .string a0_2, .int .u8 a0_3, .int .i64 a0_4, .int .i64 a0_5, .int .i64 a0_6, .int .i64 a0_7, .slice A0_8 l0_8.length c0_8] 42 (0, 0)) (wB_ BK551.out) hb); have n1_ := A0_ (below_step (wb1_ HB.out GE551.out) hb); have n2_ := A0_ (hbox); have n3_ := A0_ ((by rw [hg]; exact (below_size (wb1_ HB.out GE551.out)) : w.heap.size ≤ gb552)); have n4_ := A0_ ((by rw [hg]; exact (below_size (wb1_ HB.out GE551.out)) : w.heap.size ≤ gb552)); have n5_ := A0_ ((by rw [hg]; exact Nat.ne_of_lt (blk_lt (g := gb551) (o := .cells #[.string a0_0, .string a0_1, .string a0_2, .int .u8 a0_3, .int .i64 a0_4, .int .i64 a0_5, .int .i64 a0_6, .int .i64 a0_7, .slice A0_8 l0_8.length c0_8] 42 (0, 0)) (wB_ BK551.out)) : gb551 ≠ gb552)); have n6_ := A0_ ((by rw [hg]; exact Nat.ne_of_gt (blk_lt (g := gb551) (o := .cells #[.string a0_0, .string a0_1, .string a0_2, .int .u8 a0_3, .int .i64 a0_4, .int .i64 a0_5, .int .i64 a0_6, .int .i64 a0_7, .slice A0_8 l0_8.length c0_8] 42 (0, 0)) (wB_ BK551.out)) : gb552 ≠ gb551)); clear BK551; clear HB; have BK551 := n0_; have HB := n1_; have BK552 := n2_; have GW552 := n3_; have GE552 := n4_; have NB551_552 := n5_; have NB552_551 := n6_; clear n0_ n1_ n2_ n3_ n4_ n5_ n6_; clear hb hbox hg; have hnb10 := NB551_552.out; have hnc10 := NB552_551.out; have hcz11_0 : w9.cell? ⟨gb551, 0, none⟩ = some (.string a0_0) := (bc_ BK551.out 0).trans rfl; have hcz11_1 : w9.cell? ⟨gb551, 1, none⟩ = some (.string a0_1) := (bc_ BK551.out 1).trans rfl; have hcz11_2 : w9.cell? ⟨gb551, 2, none⟩ = some (.string a0_2) := (bc_ BK551.out 2).trans rfl; have hcz11_3 : w9.cell? ⟨gb551, 3, none⟩ = some (.int .u8 a0_3) := (bc_ BK551.out 3).trans rfl; have hcz11_4 : w9.cell? ⟨gb551, 4, none⟩ = some (.int .i64 a0_4) := (bc_ BK551.out 4).trans rfl; have hcz11_5 : w9.cell? ⟨gb551, 5, none⟩ = some (.int .i64 a0_5) := (bc_ BK551.out 5).trans rfl; have hcz11_6 : w9.cell? ⟨gb551, 6, none⟩ = some (.int .i64 a0_6) := (bc_ BK551.out 6).trans rfl; have hcz11_7 : w9.cell? ⟨gb551, 7, none⟩ = some (.int .i64 a0_7) := (bc_ BK551.out 7).trans rfl; have hcz11_8 : w9.cell? ⟨gb551, 8, none⟩ = some (.slice A0_8 l0_8.length c0_8) := (bc_ BK551.out 8).trans rfl; have hfz11_0 := bf_ BK551.out 0; have hfz11_1 := bf_ BK551.out 1; have hfz11_2 := bf_ BK551.out 2; have hfz11_3 := bf_ BK551.out 3; have hfz11_4 := bf_ BK551.out 4; have hfz11_5 := bf_ BK551.out 5; have hfz11_6 := bf_ BK551.out 6; have hfz11_7 := bf_ BK551.out 7; have hfz11_8 := bf_ BK551.out 8; have hcz12_0 : w9.cell? ⟨gb552, 0, none⟩ = some (.string a1_0) := (bc_ BK552.out 0).trans rfl; have hcz12_1 : w9.cell? ⟨gb552, 1, none⟩ = some (.string a1_1) := (bc_ BK552.out 1).trans rfl; have hcz12_2 : w9.cell? ⟨gb552, 2, none⟩ = some (.string a1_2) := (bc_ BK552.out 2).trans rfl; have hcz12_3 : w9.cell? ⟨gb552, 3, none⟩ = some (.int .u8 a1_3) := (bc_ BK552.out 3).trans rfl; have hcz12_4 : w9.cell? ⟨gb552, 4, none⟩ = some (.int .i64 a1_4) := (bc_ BK552.out 4).trans rfl; have hcz12_5 : w9.cell? ⟨gb552, 5, none⟩ = some (.int .i64 a1_5) := (bc_ BK552.out 5).trans rfl; have hcz12_6 : w9.cell? ⟨gb552, 6, none⟩ = some (.int .i64 a1_6) := (bc_ BK552.out 6).trans rfl; have hcz12_7 : w9.cell? ⟨gb552, 7, none⟩ = some (.int .i64 a1_7) := (bc_ BK552.out 7).trans rfl; have hcz12_8 : w9.cell? ⟨gb552, 8, none⟩ = some (.slice A1_8 l1_8.length c1_8) := (bc_ BK552.out 8).trans rfl; have hfz12_0 := bf_ BK552.out 0; have hfz12_1 := bf_ BK552.out 1; have hfz12_2 := bf_ BK552.out 2; have hfz12_3 := bf_ BK552.out 3; have hfz12_4 := bf_ BK552.out 4; have hfz12_5 := bf_ BK552.out 5; have hfz12_6 := bf_ BK552.out 6; have hfz12_7 := bf_ BK552.out 7; have hfz12_8 := bf_ BK552.out 8) | (go_at_call 67; (with_reducible refine (bytes_Equal.calls _ _ l0_8 _ _ l1_8 t553 _ ?side1 ?side2 ?side3 ?side4 A7.out).mono ?_); (case side1 => exact wc_ (Kd.C_below HR0_8.out HB.out)); (case side2 => exact HC0_8.out); (case side3 => exact wc_ (Kd.C_below HR1_8.out HB.out)); (case side4 => exact HC1_8.out); rintro e w' ⟨rfl, ⟨nd, rfl⟩⟩))
 go_ret
 exact ⟨we_, wb2_ HB.out GE551.out GE552.out⟩
end Go.Proofs.YtbngbefchobfnaaGreatDoor.Print

namespace Go.Proofs.YtbngbefchobfnaaGreatDoor
open Go.RowKit Go.Proofs.YtbngbefchobfnaaGreatDoor.Print Go.Proofs.YtbngbefchobfnaaGreatDoorW.PrintWords
theorem equal_chain (a b : Node) {r : Option Bool} (h : r = some ((strOfNums a.f5).toList == (strOfNums b.f5).toList)) : (if a.f0.toList = b.f0.toList then (if a.f3 = b.f3 then (if (a.f4.f0 == b.f4.f0 && (a.f4.f1 == b.f4.f1 && (a.f4.f2 == b.f4.f2 && (a.f4.f3 == b.f4.f3)))) = true then (if a.f1.toList = b.f1.toList then r else (some false)) else (some false)) else (some false)) else (some false)) = some (equalB a b) := by
 subst h
 unfold equalB
 by_cases h0 : a.f0.toList = b.f0.toList
 ·rw [if_pos h0]
  by_cases h1 : a.f3 = b.f3
  ·rw [if_pos h1]
   by_cases h2 : (a.f4.f0 == b.f4.f0 && (a.f4.f1 == b.f4.f1 && (a.f4.f2 == b.f4.f2 && (a.f4.f3 == b.f4.f3)))) = true
   ·rw [if_pos h2]
    simp only [Bool.and_eq_true, beq_iff_eq] at h2
    by_cases h3 : a.f1.toList = b.f1.toList
    ·rw [if_pos h3]
     congr 1
     rw [Bool.eq_iff_iff, beq_iff_eq, decide_eq_true_iff]
     exact ⟨fun h => ⟨h0, h1, h2.1, h2.2.1, h2.2.2.1, h2.2.2.2, h3, h⟩, fun h => h.2.2.2.2.2.2.2⟩
    ·rw [if_neg h3, decide_eq_false]
     exact fun h => h3 h.2.2.2.2.2.2.1
   ·rw [if_neg h2, decide_eq_false]
    intro h
    apply h2
    simp only [Bool.and_eq_true, beq_iff_eq]
    exact ⟨h.2.2.1, h.2.2.2.1, h.2.2.2.2.1, h.2.2.2.2.2.1⟩
  ·rw [if_neg h1, decide_eq_false]
   exact fun h => h1 h.2.1
 ·rw [if_neg h0, decide_eq_false]
  exact fun h => h0 h.1
theorem tequal_f (a b : Node) : tree_Equal.f a.f0 a.f1 a.f2 a.f3 a.f4.f0 a.f4.f1 a.f4.f2 a.f4.f3 a.f5 b.f0 b.f1 b.f2 b.f3 b.f4.f0 b.f4.f1 b.f4.f2 b.f4.f3 b.f5 = some (equalB a b) := by
 unfold tree_Equal.f
 exact equal_chain a b (by unfold bytes_Equal.f; rfl)
end Go.Proofs.YtbngbefchobfnaaGreatDoor

namespace Go.Proofs.YtbngbefchobfnaaGreatDoor
open Go.RowKit Go.Proofs.YtbngbefchobfnaaGreatDoor.Print Go.Proofs.YtbngbefchobfnaaGreatDoorW.PrintWords
set_option linter.unusedVariables false
def NodeG (x : Node) : Prop := NodeZ x ∧ x.f0.size ≤ 8000000000000 ∧ x.f1.size ≤ 8000000000000
theorem nodesG_of {t : List Node} (hl : t.length ≤ 10000) (h : ∀ x ∈ t, NodeG x) : NodesG t := ⟨⟨by omega, fun x hx => (h x hx).1⟩, fun x hx => (h x hx).2⟩
theorem treeZ_of {t : List Node} (hl : t.length ≤ 10000) (h : ∀ x ∈ t, NodeG x) : TreeZ t := ⟨hl, nodesG_of hl h⟩
theorem TreeZ.node {t : List Node} (h : TreeZ t) {x : Node} (hx : x ∈ t) : NodeG x := ⟨h.2.1.2 x hx, h.2.2 x hx⟩
theorem rise_pw {T : List Node} (h : riseB T = true) : (T.map (fun x => x.f0)).Pairwise (fun a b => lt a b = true) := by
 rw [List.pairwise_map, List.pairwise_iff_getElem]
 exact fun i j hi hj hij => riseB_at h i j hi hj hij
theorem sorted_eq {L M : List ByteArray} (hL : L.Pairwise (fun a b => lt a b = true)) (hM : M.Pairwise (fun a b => lt a b = true)) (h : ∀ p, p ∈ L ↔ p ∈ M) : L = M := by
 have nd : ∀ {N : List ByteArray}, N.Pairwise (fun a b => lt a b = true) → N.Nodup := fun hN => hN.imp (fun {a b} hab e => by subst e; have := lt_asym hab; rw [hab] at this; cases this)
 exact List.Perm.eq_of_pairwise (le := fun a b => lt a b = true) (fun a b _ _ h1 h2 => by rw [lt_asym h1] at h2; cases h2) hL hM ((List.perm_ext_iff_of_nodup (nd hL) (nd hM)).2 h)
theorem paths_of_data {T U : List Node} (hT : goodTree T = true) (hU : goodTree U = true) (h : ∀ p, (findF T p).isSome = (findF U p).isSome) : T.map (fun x => x.f0) = U.map (fun x => x.f0) :=
 sorted_eq (rise_pw (good_parts hT).1) (rise_pw (good_parts hU).1) (fun p => by rw [← findF_is, ← findF_is, h p])
theorem equalB_same (x : Node) : equalB x x = true := by unfold equalB; simp
structure PartsOk (a b : List Node) (w : Bool) (left gone both : List Node) : Prop where
 lens : left.length + gone.length = a.length
 len : both.length = a.length
 each : ∀ (i : Nat) (h : i < a.length) (h2 : i < both.length), equalB a[i] both[i] = true
end Go.Proofs.YtbngbefchobfnaaGreatDoor

namespace Go.Proofs.YtbngbefchobfnaaGreatDoor
open Go.RowKit Go.Proofs.YtbngbefchobfnaaGreatDoor.Print Go.Proofs.YtbngbefchobfnaaGreatDoorW.PrintWords
set_option linter.unusedVariables false
structure Renames (g : PEnt → PEnt) (s : PL) : Prop where
 path : ∀ e, (g e).path = e.path
 node : ∀ e ∈ s, (g e).node.f1 = e.node.f1 ∧ (g e).node.f3 = e.node.f3 ∧ (g e).node.f4 = e.node.f4 ∧ (g e).node.f5 = e.node.f5
 bare : ∀ e ∈ s, ¬ e.node.f3 = 48 → (g e).node.f2 = e.node.f2
 one : ∀ e ∈ s, ∀ q ∈ s, e.node.f3 = 48 → q.node.f3 = 48 → (((g q).tree = (g e).tree ∧ (g q).node.f2 = (g e).node.f2) ↔ (q.tree = e.tree ∧ q.node.f2 = e.node.f2))
def classI (t : List Node) (l : ByteArray) : Nat := let i := t.findIdx (fun x => decide (x.f0.toList = l.toList)); if i < t.length then i else 0
def gU (ls : List (List Node)) (e : PEnt) : PEnt := ⟨e.path, ⟨e.path, e.node.f1, emp, e.node.f3, e.node.f4, e.node.f5⟩, 10000 * e.tree + (classI (ls.getD e.tree.toNat []) e.node.f2 : Int)⟩
end Go.Proofs.YtbngbefchobfnaaGreatDoor

namespace Go.Proofs.YtbngbefchobfnaaGreatDoor
theorem dec47 (l : List UInt8) : (∀ c ∈ l, c ≠ 47) ∨ ∃ p q, l = p ++ 47 :: q ∧ ∀ c ∈ p, c ≠ 47 := by
 induction l with
 | nil => left; simp
 | cons a l ih =>
  by_cases ha : a = 47
  ·subst ha; exact .inr ⟨[], l, rfl, by simp⟩
  ·rcases ih with h | ⟨p, q, e, h⟩
   ·left
    intro c hc
    rcases List.mem_cons.1 hc with hc | hc
    ·rw [hc]; exact ha
    ·exact h c hc
   ·right
    refine ⟨a :: p, q, by rw [e]; rfl, ?_⟩
    intro c hc
    rcases List.mem_cons.1 hc with hc | hc
    ·rw [hc]; exact ha
    ·exact h c hc
theorem ind47 {P : List UInt8 → Prop} (h1 : ∀ l, (∀ c ∈ l, c ≠ 47) → P l) (h2 : ∀ p q, (∀ c ∈ p, c ≠ 47) → P q → P (p ++ 47 :: q)) (n : Nat) : ∀ l : List UInt8, l.length ≤ n → P l := by
 induction n with
 | zero =>
  intro l hl
  have : l = [] := List.length_eq_zero_iff.1 (by omega)
  subst this
  exact h1 _ (by simp)
 | succ n ih =>
  intro l hl
  rcases dec47 l with h | ⟨p, q, e, h⟩
  ·exact h1 l h
  ·subst e
   refine h2 p q h (ih q ?_)
   simp only [List.length_append, List.length_cons] at hl
   omega
theorem splitB_none (l : List UInt8) : ∀ p ∈ splitB l, ∀ c ∈ p, c ≠ 47 := by
 refine ind47 (P := fun l => ∀ p ∈ splitB l, ∀ c ∈ p, c ≠ 47) ?_ ?_ l.length l (Nat.le_refl _)
 ·intro l h p hp; rw [splitB_no _ h] at hp; rw [List.mem_singleton.1 hp]; exact h
 ·intro p q h ih r hr
  rw [splitB_app _ _ h] at hr
  rcases List.mem_cons.1 hr with hr | hr
  ·rw [hr]; exact h
  ·exact ih r hr
theorem goodL_split (l : List UInt8) : goodL l = (splitB l).all goodL := by
 refine ind47 (P := fun l => goodL l = (splitB l).all goodL) ?_ ?_ l.length l (Nat.le_refl _)
 ·intro l h; rw [splitB_no _ h]; simp
 ·intro p q h ih; rw [splitB_app _ _ h, goodL_app (by decide) (by decide), List.all_cons, ih]
theorem joinL_cons (p : List UInt8) (ps : List (List UInt8)) (h : ps ≠ []) : joinL (p :: ps) = p ++ 47 :: joinL ps := by
 cases ps with
 | nil => exact absurd rfl h
 | cons q qs =>
  unfold joinL
  rw [Lib.join_cons, Lib.join_cons]
  simp [Lib.joinTail]
theorem joinL_one (p : List UInt8) : joinL [p] = p := Lib.join_one _ _
theorem joinL_app (ps qs : List (List UInt8)) (h1 : ps ≠ []) (h2 : qs ≠ []) : joinL (ps ++ qs) = joinL ps ++ 47 :: joinL qs := by
 induction ps with
 | nil => exact absurd rfl h1
 | cons p ps ih =>
  by_cases h : ps = []
  ·subst h; rw [joinL_one]; exact joinL_cons _ _ h2
  ·rw [List.cons_append, joinL_cons _ _ (by simp [h]), ih h, joinL_cons _ _ h, List.append_assoc]; rfl
theorem splitB_join (ps : List (List UInt8)) (h : ps ≠ []) (hn : ∀ p ∈ ps, ∀ c ∈ p, c ≠ 47) : splitB (joinL ps) = ps := by
 induction ps with
 | nil => exact absurd rfl h
 | cons p ps ih =>
  by_cases h2 : ps = []
  ·subst h2; rw [joinL_one]; exact splitB_no _ (hn p (by simp))
  ·rw [joinL_cons _ _ h2, splitB_app _ _ (hn p (by simp)), ih h2 (fun q hq => hn q (by simp [hq]))]
theorem head47 (l : List UInt8) : l.head? = some 47 ↔ ((splitB l).head? = some [] ∧ 1 < (splitB l).length) := by
 cases l with
 | nil => simp [splitB]
 | cons a t =>
  have h := splitB_ne t
  by_cases ha : a = 47
  ·subst ha
   simp only [splitB, if_true, List.head?_cons, true_iff, true_and, List.length_cons]
   have := List.length_pos_iff.2 h
   omega
  ·simp only [splitB, List.head?_cons, Option.some.injEq, ha, false_iff]
   cases splitB t with
   | nil => simp
   | cons p ps => simp
def upQ (ps : List (List UInt8)) : Bool := ps.any (· == [46, 46])
def cleanQ (ps : List (List UInt8)) : List UInt8 × Int :=
 if ps.all goodL = false then ([], 9) else if ps.head? = some [] ∧ 1 < ps.length then ([], 6)
 else if upQ ps = true then ([], 6) else finC (joinL (ps.filter keepL))
theorem cleanL_Q (l : List UInt8) : cleanL l = cleanQ (splitB l) := by
 unfold cleanL cleanQ finC kept upQ
 rw [goodL_split]
 by_cases h : l.head? = some 47
 ·rw [if_pos h, if_pos ((head47 l).1 h)]
 ·rw [if_neg h, if_neg (fun e => h ((head47 l).2 e))]
structure OkQ (ps : List (List UInt8)) : Prop where
 good : ps.all goodL = true
 head : ¬ (ps.head? = some [] ∧ 1 < ps.length)
 up : upQ ps = false
 some : joinL (ps.filter keepL) ≠ []
 len : (joinL (ps.filter keepL)).length ≤ 200
theorem cleanQ_of {ps : List (List UInt8)} (h : OkQ ps) : cleanQ ps = (joinL (ps.filter keepL), 0) := by
 unfold cleanQ finC
 rw [if_neg (by rw [h.good]; decide), if_neg h.head, if_neg (by rw [h.up]; decide), if_neg]
 rintro (e | e)
 ·exact h.some e
 ·exact absurd h.len (by omega)
theorem cleanQ_cases (ps : List (List UInt8)) : (OkQ ps ∧ cleanQ ps = (joinL (ps.filter keepL), 0)) ∨ (¬ OkQ ps ∧ cleanQ ps = ([], 9)) ∨ (¬ OkQ ps ∧ cleanQ ps = ([], 6)) := by
 by_cases h : OkQ ps
 ·exact .inl ⟨h, cleanQ_of h⟩
 ·right
  unfold cleanQ finC
  by_cases h1 : ps.all goodL = false
  ·rw [if_pos h1]; exact .inl ⟨h, rfl⟩
  ·rw [if_neg h1]
   by_cases h2 : ps.head? = some [] ∧ 1 < ps.length
   ·rw [if_pos h2]; exact .inr ⟨h, rfl⟩
   ·rw [if_neg h2]
    by_cases h3 : upQ ps = true
    ·rw [if_pos h3]; exact .inr ⟨h, rfl⟩
    ·rw [if_neg h3]
     by_cases h4 : joinL (ps.filter keepL) = [] ∨ 200 < (joinL (ps.filter keepL)).length
     ·rw [if_pos h4]; exact .inr ⟨h, rfl⟩
     ·exfalso
      exact h ⟨by simpa using h1, h2, by simpa using h3, fun e => h4 (.inl e), by
       have : ¬ 200 < (joinL (ps.filter keepL)).length := fun e => h4 (.inr e)
       omega⟩
theorem keepL_iff (p : List UInt8) : keepL p = true ↔ p ≠ [] ∧ p ≠ [46] := by simp [keepL]
theorem OkQ.ne {ps : List (List UInt8)} (h : OkQ ps) : ps.filter keepL ≠ [] := fun e => h.some (by rw [e]; rfl)
end Go.Proofs.YtbngbefchobfnaaGreatDoor

namespace Go.Proofs.YtbngbefchobfnaaGreatDoor
theorem splitB_last (sfx : List UInt8) (hs : ∀ c ∈ sfx, c ≠ 47) (l : List UInt8) : ∃ i x, splitB l = i ++ [x] ∧ splitB (l ++ sfx) = i ++ [x ++ sfx] := by
 refine ind47 (P := fun l => ∃ i x, splitB l = i ++ [x] ∧ splitB (l ++ sfx) = i ++ [x ++ sfx]) ?_ ?_ l.length l (Nat.le_refl _)
 ·intro l h
  refine ⟨[], l, splitB_no _ h, ?_⟩
  rw [splitB_no _ (fun c hc => by rcases List.mem_append.1 hc with h1 | h1; exact h c h1; exact hs c h1)]
  rfl
 ·intro p q h ih
  obtain ⟨i, x, h1, h2⟩ := ih
  refine ⟨p :: i, x, ?_, ?_⟩
  ·rw [splitB_app _ _ h, h1]; rfl
  ·rw [List.append_assoc, List.cons_append, splitB_app _ _ h, h2]; rfl
theorem clean_suff (l r : List UInt8) (h : cleanL l = (l, 0)) (hr : goodL r = true) (hn : ∀ c ∈ r, c ≠ 47) (hl : 3 ≤ r.length) (hlen : (l ++ 46 :: r).length ≤ 200) : cleanL (l ++ 46 :: r) = (l ++ 46 :: r, 0) := by
 rw [cleanL_Q] at h
 rcases cleanQ_cases (splitB l) with ⟨ok, e⟩ | ⟨_, e⟩ | ⟨_, e⟩
 ·rw [e] at h
  have hj : joinL ((splitB l).filter keepL) = l := (Prod.mk.inj h).1
  have hk : (splitB l).filter keepL = splitB l := by
   have := splitB_join _ ok.ne (fun p hp => splitB_none l p (List.mem_filter.1 hp).1)
   rw [hj] at this
   exact this.symm
  have hs : ∀ c ∈ (46 :: r : List UInt8), c ≠ 47 := fun c hc => by
   rcases List.mem_cons.1 hc with rfl | h1
   ·decide
   ·exact hn c h1
  obtain ⟨i, x, h1, h2⟩ := splitB_last (46 :: r) hs l
  have hki : ∀ p ∈ i, keepL p = true := fun p hp => (List.mem_filter.1 (show p ∈ (splitB l).filter keepL by rw [hk, h1]; exact List.mem_append_left _ hp)).2
  have hkx : keepL (x ++ 46 :: r) = true := by
   rw [keepL_iff]
   refine ⟨by simp, fun e => ?_⟩
   have := congrArg List.length e
   simp only [List.length_append, List.length_cons, List.length_nil] at this
   omega
  have hf : (splitB (l ++ 46 :: r)).filter keepL = splitB (l ++ 46 :: r) := by
   rw [h2, List.filter_append, List.filter_eq_self.2 hki, List.filter_cons_of_pos hkx, List.filter_nil]
  have hj2 : joinL (splitB (l ++ 46 :: r)) = l ++ 46 :: r := by
   rw [h2]
   rw [hk, h1] at hj
   by_cases hi : i = []
   ·subst hi
    rw [List.nil_append, joinL_one] at hj ⊢
    rw [hj]
   ·rw [joinL_app _ _ hi (by simp), joinL_one] at hj ⊢
    rw [← hj, List.append_assoc]
    rfl
  rw [cleanL_Q, cleanQ_of, hf, hj2]
  refine ⟨?_, ?_, ?_, ?_, ?_⟩
  ·have hg := ok.good
   rw [h1] at hg
   rw [h2]
   rw [List.all_append, Bool.and_eq_true] at hg ⊢
   refine ⟨hg.1, ?_⟩
   have h3 : goodL x = true := by simpa using hg.2
   rw [List.all_cons, goodL_app (by decide) (by decide), h3, hr]
   rfl
  ·rintro ⟨e1, _⟩
   rw [h2] at e1
   cases i with
   | nil =>
    simp at e1
   | cons p i =>
    have hp := hki p List.mem_cons_self
    rw [keepL_iff] at hp
    simp only [List.cons_append, List.head?_cons, Option.some.injEq] at e1
    exact hp.1 e1
  ·have hu := ok.up
   unfold upQ at hu ⊢
   rw [h1] at hu
   rw [h2]
   rw [List.any_append, Bool.or_eq_false_iff] at hu ⊢
   refine ⟨hu.1, ?_⟩
   rw [List.any_cons, List.any_nil, Bool.or_false, beq_eq_false_iff_ne]
   intro e1
   have := congrArg List.length e1
   simp only [List.length_append, List.length_cons, List.length_nil] at this
   omega
  ·rw [hf, hj2]; simp
  ·rw [hf, hj2]; exact hlen
 ·rw [e] at h; exact absurd (Prod.mk.inj h).2 (by decide)
 ·rw [e] at h; exact absurd (Prod.mk.inj h).2 (by decide)
theorem cleanOk_L (s : ByteArray) : cleanOk s = true ↔ cleanL s.data.toList = (s.data.toList, 0) := by
 unfold cleanOk
 rw [cleanF_L]
 dsimp only
 rw [Bool.and_eq_true, decide_eq_true_iff, decide_eq_true_iff, Lib.toList_data, Lib.toList_data, data_ofL]
 constructor
 ·rintro ⟨h1, h2⟩
  exact Prod.ext h2.symm h1
 ·intro h
  rw [h]
  exact ⟨rfl, rfl⟩
theorem cleanOk_suff {p : ByteArray} (h : cleanOk p = true) (s : ByteArray) (r : List UInt8) (hs : s.data.toList = 46 :: r) (hr : goodL r = true) (hn : ∀ c ∈ r, c ≠ 47) (hl : 3 ≤ r.length) (hlen : (p ++ s).size ≤ 200) : cleanOk (p ++ s) = true := by
 rw [cleanOk_L] at h ⊢
 have e : (p ++ s).data.toList = p.data.toList ++ 46 :: r := by rw [ByteArray.data_append, Array.toList_append, hs]
 rw [e]
 refine clean_suff _ r h hr hn hl ?_
 rw [← e]
 simpa using hlen
end Go.Proofs.YtbngbefchobfnaaGreatDoor

namespace Go.Proofs.YtbngbefchobfnaaGreatDoor
open Go.RowKit Go.Proofs.YtbngbefchobfnaaGreatDoor.Print Go.Proofs.YtbngbefchobfnaaGreatDoorW.PrintWords
set_option linter.unusedVariables false
abbrev PW (l : List ByteArray) : Prop := l.Pairwise (fun a b => lt a b = true)
def insU (p : ByteArray) : List ByteArray → List ByteArray
 | [] => [p]
 | q :: l => if q.toList = p.toList then q :: l else if lt q p = true then q :: insU p l else p :: q :: l
theorem insU_mem {p r : ByteArray} : ∀ {l : List ByteArray}, r ∈ insU p l ↔ r = p ∨ r ∈ l
 | [] => by simp [insU]
 | q :: l => by
  unfold insU
  split
  ·rename_i h
   have := ba_ext h
   subst this
   simp
  ·split
   ·rw [List.mem_cons, insU_mem (l := l), List.mem_cons]
    constructor
    ·rintro (h | h | h)
     ·exact .inr (.inl h)
     ·exact .inl h
     ·exact .inr (.inr h)
    ·rintro (h | h | h)
     ·exact .inr (.inl h)
     ·exact .inl h
     ·exact .inr (.inr h)
   ·rw [List.mem_cons]
theorem insU_pw {p : ByteArray} : ∀ {l : List ByteArray}, PW l → PW (insU p l)
 | [], _ => List.pairwise_singleton _ _
 | q :: l, h => by
  have hc := List.pairwise_cons.1 h
  unfold insU
  split
  ·exact h
  ·rename_i hne
   split
   ·rename_i hlt
    refine List.pairwise_cons.2 ⟨fun r hr => ?_, insU_pw hc.2⟩
    rcases insU_mem.1 hr with rfl | hr
    ·exact hlt
    ·exact hc.1 r hr
   ·rename_i hlt
    have hpq : lt p q = true := by
     rcases lt_tri q p with h1 | h1 | h1
     ·exact absurd h1 hlt
     ·exact absurd h1 hne
     ·exact h1
    refine List.pairwise_cons.2 ⟨fun r hr => ?_, h⟩
    rcases List.mem_cons.1 hr with rfl | hr
    ·exact hpq
    ·exact lt_trans hpq (hc.1 r hr)
def pathsT (l : List ByteArray) (t : List Node) : List ByteArray := t.foldl (fun l x => insU x.f0 l) l
def pathsU (ts : List (List Node)) : List ByteArray := ts.foldl pathsT []
theorem pathsT_mem {p : ByteArray} : ∀ {t : List Node} {l : List ByteArray}, p ∈ pathsT l t ↔ p ∈ l ∨ (findF t p).isSome = true
 | [], l => by simp [pathsT, findF]
 | x :: t, l => by
  show p ∈ pathsT (insU x.f0 l) t ↔ _
  rw [pathsT_mem, insU_mem, findF_is, findF_is, List.map_cons, List.mem_cons]
  constructor
  ·rintro ((h | h) | h)
   ·exact .inr (.inl h)
   ·exact .inl h
   ·exact .inr (.inr h)
  ·rintro (h | h | h)
   ·exact .inl (.inr h)
   ·exact .inl (.inl h)
   ·exact .inr h
theorem pathsT_pw : ∀ {t : List Node} {l : List ByteArray}, PW l → PW (pathsT l t)
 | [], l, h => h
 | x :: t, l, h => pathsT_pw (t := t) (insU_pw h)
theorem pathsT_len : ∀ (t : List Node) (l : List ByteArray), (pathsT l t).length ≤ l.length + t.length
 | [], l => Nat.le_refl _
 | x :: t, l => by
  have h1 := pathsT_len t (insU x.f0 l)
  have h2 : ∀ l : List ByteArray, (insU x.f0 l).length ≤ l.length + 1 := by
   intro l
   induction l with
   | nil => exact Nat.le_refl _
   | cons q l ih =>
    unfold insU
    split
    ·omega
    ·split
     ·simp only [List.length_cons]; omega
     ·simp only [List.length_cons]; omega
  have h3 := h2 l
  show (pathsT (insU x.f0 l) t).length ≤ _
  simp only [List.length_cons]
  omega
abbrev paths3 (b o t : List Node) : List ByteArray := pathsU [b, o, t]
theorem paths3_mem {b o t : List Node} {p : ByteArray} : p ∈ paths3 b o t ↔ (findF b p).isSome = true ∨ (findF o p).isSome = true ∨ (findF t p).isSome = true := by
 show p ∈ pathsT (pathsT (pathsT [] b) o) t ↔ _
 rw [pathsT_mem, pathsT_mem, pathsT_mem]
 simp only [List.not_mem_nil, false_or, or_assoc]
theorem paths3_pw (b o t : List Node) : PW (paths3 b o t) := pathsT_pw (pathsT_pw (pathsT_pw List.Pairwise.nil))
theorem paths3_len (b o t : List Node) : (paths3 b o t).length ≤ b.length + o.length + t.length := by
 have h1 := pathsT_len t (pathsT (pathsT [] b) o)
 have h2 := pathsT_len o (pathsT [] b)
 have h3 := pathsT_len b []
 show (pathsT (pathsT (pathsT [] b) o) t).length ≤ _
 simp only [List.length_nil] at h3
 omega
theorem pw_nodup {l : List ByteArray} (h : PW l) : l.Nodup := h.imp (fun {a b} hab e => by subst e; have := lt_asym hab; rw [hab] at this; cases this)
def alikeO : Option Node → Option Node → Bool
 | none, none => true
 | some x, some y => equalB x y
 | _, _ => false
theorem alikeO_refl : ∀ x : Option Node, alikeO x x = true
 | none => rfl
 | some x => equalB_same x
theorem alikeO_trans : ∀ {x y z : Option Node}, alikeO x y = true → alikeO y z = true → alikeO x z = true
 | none, none, z, _, h => h
 | some x, some y, none, _, h => by cases h
 | some x, some y, some z, h, k => equalB_trans h k
 | none, some y, z, h, _ => by cases h
 | some x, none, z, h, _ => by cases h
def conflictO (b o t : Option Node) : Bool := !alikeO o t && !alikeO o b && !alikeO t b
def oursO (b o t : Option Node) : Bool := alikeO o t || !alikeO o b
def conflictAt (b o t : List Node) (p : ByteArray) : Bool := conflictO (findF b p) (findF o p) (findF t p)
def conflictsF (b o t : List Node) : List ByteArray := (paths3 b o t).filter (conflictAt b o t)
def entM (n : Int) (p : ByteArray) : Option Node → PL
 | none => []
 | some x => [⟨p, x, n⟩]
def oursS : ByteArray := ⟨#[46, 111, 117, 114, 115]⟩
def theirsS : ByteArray := ⟨#[46, 116, 104, 101, 105, 114, 115]⟩
def sideM (ps : List ByteArray) (p : ByteArray) (n : Int) (sfx : ByteArray) : Option Node → PL × Int
 | none => ([], 0)
 | some x => if inL ps (p ++ sfx) = true then ([], 11) else if 200 < (p ++ sfx).size then ([], 10) else ([⟨p ++ sfx, x, n⟩], 0)
def bothM (ps : List ByteArray) (p : ByteArray) (o t : Option Node) : PL × Int :=
 if (sideM ps p 1 oursS o).2 = 0 then (if (sideM ps p 2 theirsS t).2 = 0 then ((sideM ps p 1 oursS o).1 ++ (sideM ps p 2 theirsS t).1, 0) else ([], (sideM ps p 2 theirsS t).2)) else ([], (sideM ps p 1 oursS o).2)
def settleM (ps : List ByteArray) (policy : Int) (p : ByteArray) (b o t : Option Node) : PL × Int :=
 if conflictO b o t = false then (if oursO b o t = true then entM 1 p o else entM 2 p t, 0)
 else if policy = 1 then (entM 1 p o, 0) else if policy = 2 then (entM 2 p t, 0) else if policy = 4 then bothM ps p o t else ([], 11)
def settleAt (b o t : List Node) (policy : Int) (p : ByteArray) : PL × Int := settleM (paths3 b o t) policy p (findF b p) (findF o p) (findF t p)
def entsM (f : ByteArray → PL × Int) (l : List ByteArray) : PL := l.flatMap (fun p => (f p).1)
def pileM (f : ByteArray → PL × Int) (l : List ByteArray) : PL := (entsM f l).foldl putE []
def errM (f : ByteArray → PL × Int) (l : List ByteArray) : Int := match l.find? (fun p => !decide ((f p).2 = 0)) with
 | none => 0
 | some p => (f p).2
def mergeF (b o t : List Node) (policy : Int) : List Node × Int :=
 if goodTree b = true ∧ goodTree o = true ∧ goodTree t = true ∧ 1 ≤ policy ∧ policy ≤ 4 then
  (if errM (settleAt b o t policy) (paths3 b o t) = 0 then (if 4096 < (pileM (settleAt b o t policy) (paths3 b o t)).length then ([], 10) else (treeE (pileM (settleAt b o t policy) (paths3 b o t)), 0))
  else ([], errM (settleAt b o t policy) (paths3 b o t)))
 else ([], 1)
theorem errM_zero {f : ByteArray → PL × Int} {l : List ByteArray} : errM f l = 0 ↔ ∀ p ∈ l, (f p).2 = 0 := by
 unfold errM
 cases hf : l.find? (fun p => !decide ((f p).2 = 0)) with
 | none =>
  have := List.find?_eq_none.1 hf
  exact ⟨fun _ p hp => by have := this p hp; simpa using this, fun _ => rfl⟩
 | some p =>
  have h1 := List.find?_some hf
  have h2 := List.mem_of_find?_eq_some hf
  dsimp only
  constructor
  ·intro h; simp [h] at h1
  ·intro h; exact h p h2
theorem puts_snoc : ∀ {l : PL} {s : PL}, NodupE (s ++ l) → l.foldl putE s = s ++ l
 | [], s, _ => (List.append_nil s).symm
 | e :: l, s, h => by
  have hp : putE s e = s ++ [e] := by
   unfold putE
   congr 1
   refine List.filter_eq_self.2 (fun q hq => ?_)
   rw [Bool.not_eq_true', decide_eq_false_iff_not]
   intro he
   have he := ba_ext he
   unfold NodupE at h
   rw [List.map_append, List.nodup_append] at h
   exact h.2.2 q.path (List.mem_map_of_mem hq) e.path (by simp) he
  rw [List.foldl_cons, hp, puts_snoc (l := l) (s := s ++ [e]) (by rw [List.append_assoc]; exact h), List.append_assoc]
  rfl
theorem ba_app {a b : ByteArray} : (a ++ b).data.toList = a.data.toList ++ b.data.toList := by rw [ByteArray.data_append, Array.toList_append]
theorem app_inj {a b s : ByteArray} (h : a ++ s = b ++ s) : a = b := by
 have := congrArg (fun x : ByteArray => x.data.toList) h
 simp only [ba_app] at this
 exact ba_data.1 (List.append_cancel_right this)
theorem ours_theirs (a b : ByteArray) : a ++ oursS ≠ b ++ theirsS := by
 intro h
 have h1 := congrArg (fun x : ByteArray => x.data.toList.reverse) h
 simp only [ba_app, List.reverse_append] at h1
 have e1 : oursS.data.toList.reverse = [115, 114, 117, 111, 46] := rfl
 have e2 : theirsS.data.toList.reverse = [115, 114, 105, 101, 104, 116, 46] := rfl
 rw [e1, e2] at h1
 simp at h1
def NameOf (ps : List ByteArray) (p q : ByteArray) : Prop := q = p ∨ (q = p ++ oursS ∧ ¬ q ∈ ps) ∨ (q = p ++ theirsS ∧ ¬ q ∈ ps)
theorem name_inj {ps : List ByteArray} {a b q : ByteArray} (ha : a ∈ ps) (hb : b ∈ ps) (h : NameOf ps a q) (k : NameOf ps b q) : a = b := by
 rcases h with rfl | ⟨rfl, h⟩ | ⟨rfl, h⟩
 ·rcases k with k | ⟨k, n⟩ | ⟨k, n⟩
  ·exact k
  ·exact absurd ha n
  ·exact absurd ha n
 ·rcases k with k | ⟨k, n⟩ | ⟨k, n⟩
  ·rw [k] at h; exact absurd hb h
  ·exact app_inj k
  ·exact absurd k (ours_theirs _ _)
 ·rcases k with k | ⟨k, n⟩ | ⟨k, n⟩
  ·rw [k] at h; exact absurd hb h
  ·exact absurd k.symm (ours_theirs _ _)
  ·exact app_inj k
theorem sideM_cases (ps : List ByteArray) (p : ByteArray) (n : Int) (sfx : ByteArray) (x : Option Node) : (x = none ∧ sideM ps p n sfx x = ([], 0)) ∨ (∃ y, x = some y ∧ ¬ (p ++ sfx) ∈ ps ∧ (p ++ sfx).size ≤ 200 ∧ sideM ps p n sfx x = ([⟨p ++ sfx, y, n⟩], 0)) ∨ (¬ (sideM ps p n sfx x).2 = 0) := by
 cases x with
 | none => exact .inl ⟨rfl, rfl⟩
 | some y =>
  right
  have e0 : sideM ps p n sfx (some y) = if inL ps (p ++ sfx) = true then ([], 11) else if 200 < (p ++ sfx).size then ([], 10) else ([⟨p ++ sfx, y, n⟩], 0) := rfl
  rw [e0]
  by_cases h1 : inL ps (p ++ sfx) = true
  ·right; rw [if_pos h1]; decide
  ·rw [if_neg h1]
   by_cases h2 : 200 < (p ++ sfx).size
   ·right; rw [if_pos h2]; decide
   ·left; exact ⟨y, rfl, fun h => h1 (inL_iff.2 h), by omega, if_neg h2⟩
structure Put1 (ps : List ByteArray) (p : ByteArray) (o t : Option Node) (l : PL) : Prop where
 nodup : NodupE l
 name : ∀ e ∈ l, NameOf ps p e.path
 from_ : ∀ e ∈ l, (e.tree = 1 ∧ o = some e.node) ∨ (e.tree = 2 ∧ t = some e.node)
 size : ∀ e ∈ l, e.path = p ∨ e.path.size ≤ 200
theorem nodup_one {α : Type} (a : α) : [a].Nodup := List.nodup_cons.2 ⟨List.not_mem_nil, List.nodup_nil⟩
theorem put1_nil (ps : List ByteArray) (p : ByteArray) (o t : Option Node) : Put1 ps p o t [] := ⟨List.nodup_nil, fun e he => (List.not_mem_nil he).elim, fun e he => (List.not_mem_nil he).elim, fun e he => (List.not_mem_nil he).elim⟩
theorem put1_ent1 (ps : List ByteArray) (p : ByteArray) (o t : Option Node) : Put1 ps p o t (entM 1 p o) := by
 cases o with
 | none => exact put1_nil ps p none t
 | some x =>
  refine ⟨nodup_one _, fun e he => ?_, fun e he => ?_, fun e he => ?_⟩
  ·rw [List.mem_singleton.1 he]; exact .inl rfl
  ·rw [List.mem_singleton.1 he]; exact .inl ⟨rfl, rfl⟩
  ·rw [List.mem_singleton.1 he]; exact .inl rfl
theorem put1_ent2 (ps : List ByteArray) (p : ByteArray) (o t : Option Node) : Put1 ps p o t (entM 2 p t) := by
 cases t with
 | none => exact put1_nil ps p o none
 | some x =>
  refine ⟨nodup_one _, fun e he => ?_, fun e he => ?_, fun e he => ?_⟩
  ·rw [List.mem_singleton.1 he]; exact .inl rfl
  ·rw [List.mem_singleton.1 he]; exact .inr ⟨rfl, rfl⟩
  ·rw [List.mem_singleton.1 he]; exact .inl rfl
theorem put1_both {ps : List ByteArray} {p : ByteArray} {o t : Option Node} (h : (bothM ps p o t).2 = 0) : Put1 ps p o t (bothM ps p o t).1 := by
 have he : ∀ {l : PL}, (∀ e ∈ l, False) → Put1 ps p o t l := fun {l} hl => by
  cases l with
  | nil => exact put1_nil ps p o t
  | cons e l => exact (hl e List.mem_cons_self).elim
 unfold bothM at h ⊢
 rcases sideM_cases ps p 1 oursS o with ⟨e1, e2⟩ | ⟨x, e1, n1, z1, e2⟩ | e1
 ·rcases sideM_cases ps p 2 theirsS t with ⟨f1, f2⟩ | ⟨y, f1, n2, z2, f2⟩ | f1
  ·rw [e2, f2, if_pos rfl, if_pos rfl]
   exact he (fun e h => by cases h)
  ·rw [e2, f2, if_pos rfl, if_pos rfl]
   refine ⟨nodup_one _, fun e he => ?_, fun e he => ?_, fun e he => ?_⟩
   ·rw [List.mem_singleton.1 he]; exact .inr (.inr ⟨rfl, n2⟩)
   ·rw [List.mem_singleton.1 he]; exact .inr ⟨rfl, f1⟩
   ·rw [List.mem_singleton.1 he]; exact .inr z2
  ·rw [e2, if_pos rfl, if_neg f1] at h
   exact absurd h f1
 ·rcases sideM_cases ps p 2 theirsS t with ⟨f1, f2⟩ | ⟨y, f1, n2, z2, f2⟩ | f1
  ·rw [e2, f2, if_pos rfl, if_pos rfl]
   refine ⟨nodup_one _, fun e he => ?_, fun e he => ?_, fun e he => ?_⟩
   ·rw [List.mem_singleton.1 he]; exact .inr (.inl ⟨rfl, n1⟩)
   ·rw [List.mem_singleton.1 he]; exact .inl ⟨rfl, e1⟩
   ·rw [List.mem_singleton.1 he]; exact .inr z1
  ·rw [e2, f2, if_pos rfl, if_pos rfl]
   have hm : ∀ e ∈ ([⟨p ++ oursS, x, 1⟩] ++ [⟨p ++ theirsS, y, 2⟩] : PL), e = ⟨p ++ oursS, x, 1⟩ ∨ e = ⟨p ++ theirsS, y, 2⟩ := fun e he => by simpa using he
   refine ⟨?_, fun e he => ?_, fun e he => ?_, fun e he => ?_⟩
   ·show [p ++ oursS, p ++ theirsS].Nodup
    refine List.nodup_cons.2 ⟨fun h => ?_, (nodup_one _)⟩
    exact ours_theirs p p (List.mem_singleton.1 h)
   ·rcases hm e he with rfl | rfl
    ·exact .inr (.inl ⟨rfl, n1⟩)
    ·exact .inr (.inr ⟨rfl, n2⟩)
   ·rcases hm e he with rfl | rfl
    ·exact .inl ⟨rfl, e1⟩
    ·exact .inr ⟨rfl, f1⟩
   ·rcases hm e he with rfl | rfl
    ·exact .inr z1
    ·exact .inr z2
  ·rw [e2, if_pos rfl, if_neg f1] at h
   exact absurd h f1
 ·rw [if_neg e1] at h
  exact absurd h e1
theorem put1_settle {ps : List ByteArray} {policy : Int} {p : ByteArray} {b o t : Option Node} (h : (settleM ps policy p b o t).2 = 0) : Put1 ps p o t (settleM ps policy p b o t).1 := by
 unfold settleM at h ⊢
 split
 ·dsimp only
  split
  ·exact put1_ent1 ps p o t
  ·exact put1_ent2 ps p o t
 ·rename_i hc
  rw [if_neg hc] at h
  split
  ·exact put1_ent1 ps p o t
  ·rename_i h1
   rw [if_neg h1] at h
   split
   ·exact put1_ent2 ps p o t
   ·rename_i h2
    rw [if_neg h2] at h
    split
    ·rename_i h4
     rw [if_pos h4] at h
     exact put1_both h
    ·rename_i h4
     rw [if_neg h4] at h
     exact absurd h (by decide)
theorem ents_nodup {ps : List ByteArray} {f : ByteArray → PL × Int} {src : ByteArray → Option Node × Option Node} (hn : ps.Nodup) : ∀ {l : List ByteArray}, l.Sublist ps → (∀ p ∈ l, Put1 ps p (src p).1 (src p).2 (f p).1) → NodupE (entsM f l)
 | [], _, _ => List.nodup_nil
 | p :: l, hs, h => by
  have ih := ents_nodup (f := f) (src := src) hn (l := l) ((List.sublist_cons_self p l).trans hs) (fun q hq => h q (List.mem_cons_of_mem _ hq))
  have hpl := List.nodup_cons.1 (hs.nodup hn)
  unfold NodupE entsM at ih ⊢
  rw [List.flatMap_cons, List.map_append, List.nodup_append]
  refine ⟨(h p List.mem_cons_self).nodup, ih, fun a ha b hb => ?_⟩
  rintro rfl
  obtain ⟨e, he, e1⟩ := List.mem_map.1 ha
  obtain ⟨e', he', e2⟩ := List.mem_map.1 hb
  obtain ⟨q, hq, he'⟩ := List.mem_flatMap.1 he'
  have n1 := (h p List.mem_cons_self).name e he
  have n2 := (h q (List.mem_cons_of_mem _ hq)).name e' he'
  rw [e1] at n1
  rw [e2] at n2
  have := name_inj (hs.subset List.mem_cons_self) (hs.subset (List.mem_cons_of_mem _ hq)) n1 n2
  rw [this] at hpl
  exact hpl.1 hq
def src3 (o t : List Node) (p : ByteArray) : Option Node × Option Node := (findF o p, findF t p)
theorem merge_put {b o t : List Node} {policy : Int} {p : ByteArray} (h : (settleAt b o t policy p).2 = 0) : Put1 (paths3 b o t) p (src3 o t p).1 (src3 o t p).2 (settleAt b o t policy p).1 := put1_settle h
theorem merge_nodup {b o t : List Node} {policy : Int} {l : List ByteArray} (hs : l.Sublist (paths3 b o t)) (h : ∀ p ∈ l, (settleAt b o t policy p).2 = 0) : NodupE (entsM (settleAt b o t policy) l) :=
 ents_nodup (src := src3 o t) (pw_nodup (paths3_pw b o t)) hs (fun p hp => merge_put (h p hp))
theorem merge_pile {b o t : List Node} {policy : Int} {l : List ByteArray} (hs : l.Sublist (paths3 b o t)) (h : ∀ p ∈ l, (settleAt b o t policy p).2 = 0) : pileM (settleAt b o t policy) l = entsM (settleAt b o t policy) l := by
 unfold pileM
 rw [puts_snoc (by rw [List.nil_append]; exact merge_nodup hs h), List.nil_append]
end Go.Proofs.YtbngbefchobfnaaGreatDoor

namespace Go.Proofs.YtbngbefchobfnaaGreatDoor
open Go.RowKit Go.Proofs.YtbngbefchobfnaaGreatDoor.Print Go.Proofs.YtbngbefchobfnaaGreatDoorW.PrintWords
set_option linter.unusedVariables false
theorem merge_mem {b o t : List Node} {policy : Int} {l : List ByteArray} (h : ∀ p ∈ l, (settleAt b o t policy p).2 = 0) {e : PEnt} (he : e ∈ entsM (settleAt b o t policy) l) :
  ∃ p ∈ l, ((e.tree = 1 ∧ findF o p = some e.node) ∨ (e.tree = 2 ∧ findF t p = some e.node)) ∧ (e.path = p ∨ (e.path.size ≤ 200 ∧ (e.path = p ++ oursS ∨ e.path = p ++ theirsS))) := by
 obtain ⟨p, hp, he⟩ := List.mem_flatMap.1 he
 have hk := merge_put (h p hp)
 refine ⟨p, hp, hk.from_ e he, ?_⟩
 rcases hk.size e he with h1 | h1
 ·exact .inl h1
 ·rcases hk.name e he with h2 | ⟨h2, _⟩ | ⟨h2, _⟩
  ·exact .inl h2
  ·exact .inr ⟨h1, .inl h2⟩
  ·exact .inr ⟨h1, .inr h2⟩
def trM (o t : List Node) (n : Int) : List Node := if n = 1 then o else t
theorem merge_tree {b o t : List Node} (go : goodTree o = true) (gt : goodTree t = true) {policy : Int} {l : List ByteArray} (h : ∀ p ∈ l, (settleAt b o t policy p).2 = 0) {e : PEnt} (he : e ∈ entsM (settleAt b o t policy) l) :
  (e.tree = 1 ∨ e.tree = 2) ∧ goodTree (trM o t e.tree) = true ∧ e.node ∈ trM o t e.tree ∧ cleanOk e.path = true := by
 obtain ⟨p, hp, h1, h2⟩ := merge_mem h he
 have hcl : ∀ {u : List Node}, goodTree u = true → findF u p = some e.node → cleanOk e.path = true := fun {u} gu hf => by
  obtain ⟨hm, hx⟩ := findF_mem hf
  have hc := node_clean gu hm
  rw [hx] at hc
  rcases h2 with h2 | ⟨hz, h2 | h2⟩
  ·rw [h2]; exact hc
  ·rw [h2] at hz ⊢
   exact cleanOk_suff hc oursS [111, 117, 114, 115] rfl (by decide) (by decide) (by decide) hz
  ·rw [h2] at hz ⊢
   exact cleanOk_suff hc theirsS [116, 104, 101, 105, 114, 115] rfl (by decide) (by decide) (by decide) hz
 rcases h1 with ⟨e1, hf⟩ | ⟨e1, hf⟩
 ·have : trM o t e.tree = o := by unfold trM; rw [if_pos e1]
  rw [this]
  exact ⟨.inl e1, go, (findF_mem hf).1, hcl go hf⟩
 ·have : trM o t e.tree = t := by unfold trM; rw [if_neg (by omega)]
  rw [this]
  exact ⟨.inr e1, gt, (findF_mem hf).1, hcl gt hf⟩
theorem merge_ents {b o t : List Node} (go : goodTree o = true) (gt : goodTree t = true) {policy : Int} (h : ∀ p ∈ paths3 b o t, (settleAt b o t policy p).2 = 0) (hl : (entsM (settleAt b o t policy) (paths3 b o t)).length ≤ 4096) : EntsOk (entsM (settleAt b o t policy) (paths3 b o t)) :=
 ents_ok (tr := trM o t) (merge_nodup (List.Sublist.refl _) h) hl (fun e he => (merge_tree go gt h he).2)
theorem merge_good {b o t : List Node} {policy : Int} (h : (mergeF b o t policy).2 = 0) : goodTree (mergeF b o t policy).1 = true := by
 unfold mergeF at h ⊢
 split
 ·rename_i hg
  rw [if_pos hg] at h
  split
  ·rename_i he
   rw [if_pos he] at h
   have hz := errM_zero.1 he
   rw [merge_pile (List.Sublist.refl _) hz] at h ⊢
   split
   ·rename_i hl
    rw [if_pos hl] at h
    exact absurd h (by decide)
   ·rename_i hl
    exact treeE_good (merge_ents hg.2.1 hg.2.2.1 hz (by omega))
  ·rename_i he
   rw [if_neg he] at h
   exact absurd h he
 ·rename_i hg
  rw [if_neg hg] at h
  exact absurd h (by decide)
def pickM (o t : List Node) (side : ByteArray → Bool) (p : ByteArray) : PL × Int := (if side p = true then entM 1 p (findF o p) else entM 2 p (findF t p), 0)
def srcM (o t : List Node) (side : ByteArray → Bool) : ByteArray → Option ((Int × ByteArray) × Node) := fun p => if side p = true then (findF o p).map (fun x => ((1, x.f2), x)) else (findF t p).map (fun x => ((2, x.f2), x))
theorem entM_mem {n : Int} {p : ByteArray} {x : Option Node} {e : PEnt} (h : e ∈ entM n p x) : e.path = p ∧ e.tree = n ∧ x = some e.node := by
 cases x with
 | none => cases h
 | some y => rw [List.mem_singleton.1 h]; exact ⟨rfl, rfl, rfl⟩
theorem entM_len (n : Int) (p : ByteArray) (x : Option Node) : (entM n p x).length ≤ 1 := by cases x <;> simp [entM]
theorem pickM_mem {o t : List Node} {side : ByteArray → Bool} {p : ByteArray} {e : PEnt} : e ∈ (pickM o t side p).1 ↔ e.path = p ∧ ((side p = true ∧ e.tree = 1 ∧ findF o p = some e.node) ∨ (side p = false ∧ e.tree = 2 ∧ findF t p = some e.node)) := by
 unfold pickM
 dsimp only
 cases hs : side p with
 | true =>
  rw [if_pos rfl]
  constructor
  ·intro h
   obtain ⟨h1, h2, h3⟩ := entM_mem h
   exact ⟨h1, .inl ⟨rfl, h2, h3⟩⟩
  ·rintro ⟨h1, ⟨_, h2, h3⟩ | ⟨h4, _⟩⟩
   ·rw [h3]
    refine List.mem_singleton.2 ?_
    cases e
    cases h1
    cases h2
    rfl
   ·cases h4
 | false =>
  rw [if_neg (by decide)]
  constructor
  ·intro h
   obtain ⟨h1, h2, h3⟩ := entM_mem h
   exact ⟨h1, .inr ⟨rfl, h2, h3⟩⟩
  ·rintro ⟨h1, ⟨h4, _⟩ | ⟨_, h2, h3⟩⟩
   ·cases h4
   ·rw [h3]
    refine List.mem_singleton.2 ?_
    cases e
    cases h1
    cases h2
    rfl
theorem ents_len {f : ByteArray → PL × Int} (k : Nat) : ∀ {l : List ByteArray}, (∀ p ∈ l, (f p).1.length ≤ k) → (entsM f l).length ≤ l.length * k
 | [], _ => Nat.zero_le _
 | p :: l, h => by
  have h1 := ents_len (f := f) k (l := l) (fun q hq => h q (List.mem_cons_of_mem _ hq))
  have h2 := h p List.mem_cons_self
  unfold entsM at h1 ⊢
  rw [List.flatMap_cons, List.length_append, List.length_cons, Nat.succ_mul]
  omega
theorem merge_plain {b o t : List Node} (gb : goodTree b = true) (go : goodTree o = true) (gt : goodTree t = true) {policy : Int} (h1 : 1 ≤ policy) (h4 : policy ≤ 4) (hl : b.length + o.length + t.length ≤ 4096) {side : ByteArray → Bool} (hf : ∀ p ∈ paths3 b o t, settleAt b o t policy p = pickM o t side p) :
  mergeF b o t policy = (treeE (entsM (settleAt b o t policy) (paths3 b o t)), 0) ∧ FromT (mergeF b o t policy).1 (srcM o t side) := by
 have hz : ∀ p ∈ paths3 b o t, (settleAt b o t policy p).2 = 0 := fun p hp => by rw [hf p hp]; rfl
 have hlen : (entsM (settleAt b o t policy) (paths3 b o t)).length ≤ 4096 := by
  have h2 := ents_len (f := settleAt b o t policy) 1 (l := paths3 b o t) (fun p hp => by
   rw [hf p hp]
   unfold pickM
   dsimp only
   split
   ·exact entM_len _ _ _
   ·exact entM_len _ _ _)
  have h3 := paths3_len b o t
  omega
 have hm : mergeF b o t policy = (treeE (entsM (settleAt b o t policy) (paths3 b o t)), 0) := by
  unfold mergeF
  rw [if_pos ⟨gb, go, gt, h1, h4⟩, if_pos (errM_zero.2 hz), merge_pile (List.Sublist.refl _) hz, if_neg (by omega)]
 refine ⟨hm, ?_⟩
 rw [hm]
 have hE := merge_ents (b := b) go gt hz hlen
 refine fromT_of (fromT_pile hE) (sameSrc_of_eq (fun p => ?_))
 unfold srcE srcM
 have hin : ∀ e, e ∈ entsM (settleAt b o t policy) (paths3 b o t) ↔ e ∈ (pickM o t side e.path).1 := fun e => by
  unfold entsM
  rw [List.mem_flatMap]
  constructor
  ·rintro ⟨q, hq, he⟩
   rw [hf q hq] at he
   have := (pickM_mem.1 he).1
   rw [this]
   exact he
  ·intro he
   have hp : e.path ∈ paths3 b o t := by
    rw [paths3_mem]
    rcases (pickM_mem.1 he).2 with ⟨_, _, h⟩ | ⟨_, _, h⟩
    ·exact .inr (.inl (by rw [h]; rfl))
    ·exact .inr (.inr (by rw [h]; rfl))
   exact ⟨e.path, hp, by rw [hf _ hp]; exact he⟩
 have hat : ∀ e : PEnt, e ∈ (pickM o t side p).1 → atE (entsM (settleAt b o t policy) (paths3 b o t)) p = some e := fun e he => by
  have hp := (pickM_mem.1 he).1
  have := atE_of hE.nodup ((hin e).2 (by rw [hp]; exact he))
  rw [hp] at this
  exact this
 have hno : (∀ e : PEnt, ¬ e ∈ (pickM o t side p).1) → atE (entsM (settleAt b o t policy) (paths3 b o t)) p = none := fun hn => by
  cases ha : atE (entsM (settleAt b o t policy) (paths3 b o t)) p with
  | none => rfl
  | some e =>
   obtain ⟨he, hp⟩ := atE_mem ha
   have := (hin e).1 he
   rw [hp] at this
   exact absurd this (hn e)
 have hnode : ∀ {u : List Node} {x : Node} {n : Int}, findF u p = some x → nodeE ⟨p, x, n⟩ = x := fun {u x n} hx => by
  unfold nodeE
  have := (findF_mem hx).2
  cases x
  dsimp only at this ⊢
  rw [this]
 cases hs : side p with
 | true =>
  rw [if_pos rfl]
  cases hx : findF o p with
  | none =>
   rw [hno (fun e he => by
    rcases (pickM_mem.1 he).2 with ⟨_, _, h⟩ | ⟨h, _⟩
    ·rw [hx] at h; cases h
    ·rw [hs] at h; cases h)]
   rfl
  | some x =>
   rw [hat ⟨p, x, 1⟩ (pickM_mem.2 ⟨rfl, .inl ⟨hs, rfl, hx⟩⟩)]
   simp only [Option.map_some, hnode hx]
 | false =>
  rw [if_neg (by decide)]
  cases hx : findF t p with
  | none =>
   rw [hno (fun e he => by
    rcases (pickM_mem.1 he).2 with ⟨h, _⟩ | ⟨_, _, h⟩
    ·rw [hs] at h; cases h
    ·rw [hx] at h; cases h)]
   rfl
  | some x =>
   rw [hat ⟨p, x, 2⟩ (pickM_mem.2 ⟨rfl, .inr ⟨hs, rfl, hx⟩⟩)]
   simp only [Option.map_some, hnode hx]
def nodeS {κ : Type} (s : ByteArray → Option (κ × Node)) (p : ByteArray) : Option Node := (s p).map (fun z => z.2)
theorem nodeS_from {κ : Type} {U : List Node} {s : ByteArray → Option (κ × Node)} (h : FromT U s) (p : ByteArray) : alikeO (findF U p) (nodeS s p) = true := by
 unfold nodeS
 cases hs : s p with
 | none => rw [h.no p hs]; rfl
 | some z =>
  obtain ⟨y, hy, he⟩ := h.yes p z.1 z.2 hs
  rw [hy]
  exact he
theorem alikeO_is {x y : Option Node} (h : alikeO x y = true) : x.isSome = y.isSome := by
 cases x <;> cases y <;> first | rfl | cases h
theorem data_trees {U V : List Node} (gu : goodTree U = true) (gv : goodTree V = true) (h : ∀ p, alikeO (findF U p) (findF V p) = true) : U.length = V.length ∧ ∀ (i : Nat) (hi : i < U.length) (hi' : i < V.length), equalB U[i] V[i] = true := by
 have hp := paths_of_data gu gv (fun p => alikeO_is (h p))
 have hl : U.length = V.length := by have := congrArg List.length hp; simpa using this
 refine ⟨hl, fun i hi hi' => ?_⟩
 have e : U[i].f0 = V[i].f0 := by
  have h1 : (U.map (fun x => x.f0))[i]'(by simpa using hi) = (V.map (fun x => x.f0))[i]'(by simpa using hi') := by simp only [hp]
  simpa using h1
 have h1 := findF_here (good_parts gu).1 (List.getElem_mem hi)
 have h2 := findF_here (good_parts gv).1 (List.getElem_mem hi')
 have := h U[i].f0
 rw [h1, e, h2] at this
 exact this
theorem nodeS_M (o t : List Node) (side : ByteArray → Bool) (p : ByteArray) : nodeS (srcM o t side) p = if side p = true then findF o p else findF t p := by
 unfold nodeS srcM
 cases side p with
 | true => rw [if_pos rfl, if_pos rfl]; cases findF o p <;> rfl
 | false => rw [if_neg (by decide), if_neg (by decide)]; cases findF t p <;> rfl
def oursAt (b o t : List Node) (p : ByteArray) : Bool := oursO (findF b p) (findF o p) (findF t p)
theorem settle_calm {b o t : List Node} (policy : Int) {p : ByteArray} (h : conflictAt b o t p = false) : settleAt b o t policy p = pickM o t (oursAt b o t) p := by
 unfold settleAt settleM
 have h' : conflictO (findF b p) (findF o p) (findF t p) = false := h
 rw [if_pos h']
 rfl
theorem mergeF_in {b o t : List Node} (gb : goodTree b = true) (go : goodTree o = true) (gt : goodTree t = true) {q : Int} (h1 : 1 ≤ q) (h4 : q ≤ 4) : mergeF b o t q = if errM (settleAt b o t q) (paths3 b o t) = 0 then (if 4096 < (pileM (settleAt b o t q) (paths3 b o t)).length then ([], 10) else (treeE (pileM (settleAt b o t q) (paths3 b o t)), 0)) else ([], errM (settleAt b o t q) (paths3 b o t)) := by
 unfold mergeF
 rw [if_pos ⟨gb, go, gt, h1, h4⟩]
section
variable {b o t : List Node} (gb : goodTree b = true) (go : goodTree o = true) (gt : goodTree t = true) (hl : b.length + o.length + t.length ≤ 4096)
include gb go gt hl
theorem merge_calm (hno : ∀ p, conflictAt b o t p = false) {q : Int} (h1 : 1 ≤ q) (h4 : q ≤ 4) : (mergeF b o t q).2 = 0 ∧ FromT (mergeF b o t q).1 (srcM o t (oursAt b o t)) := by
 have h := merge_plain gb go gt (policy := q) h1 h4 hl (fun p _ => settle_calm q (hno p))
 exact ⟨by rw [h.1], h.2⟩
end
theorem merge_one {b o : List Node} (gb : goodTree b = true) (go : goodTree o = true) (hl : b.length + o.length + b.length ≤ 4096 ∧ b.length + b.length + o.length ≤ 4096 ∧ b.length + o.length + o.length ≤ 4096) {q : Int} (h1 : 1 ≤ q) (h4 : q ≤ 4) :
  (mergeF b o b q).2 = 0 ∧ (mergeF b b o q).2 = 0 ∧ (mergeF b o o q).2 = 0 ∧ sameB (mergeF b o o q).1 o = true ∧
  ((mergeF b o b q).1.length = o.length ∧ ∀ (i : Nat) (hi : i < (mergeF b o b q).1.length) (hi' : i < o.length), equalB (mergeF b o b q).1[i] o[i] = true) ∧
  ((mergeF b b o q).1.length = o.length ∧ ∀ (i : Nat) (hi : i < (mergeF b b o q).1.length) (hi' : i < o.length), equalB (mergeF b b o q).1[i] o[i] = true) := by
 have hx := merge_calm gb go gb hl.1 (fun p => by unfold conflictAt conflictO; rw [alikeO_refl (findF b p)]; simp) h1 h4
 have hy := merge_calm gb gb go hl.2.1 (fun p => by unfold conflictAt conflictO; rw [alikeO_refl (findF b p)]; simp) h1 h4
 have hz := merge_calm gb go go hl.2.2 (fun p => by unfold conflictAt conflictO; rw [alikeO_refl (findF o p)]; simp) h1 h4
 refine ⟨hx.1, hy.1, hz.1, ?_, ?_, ?_⟩
 ·refine fromT_same hz.2 (fromT_self go) (SameSrc.symm (src_keys (fun k => ((1 : Int), k)) (fun a b e => (Prod.mk.inj e).2) (fun p => ?_)))
  unfold srcM srcT
  have : oursAt b o o p = true := by unfold oursAt oursO; rw [alikeO_refl]; rfl
  rw [if_pos this, Option.map_map]
  rfl
 ·refine data_trees hx.2.good go (fun p => ?_)
  refine alikeO_trans (nodeS_from hx.2 p) ?_
  rw [nodeS_M]
  have : oursAt b o b p = true := by unfold oursAt oursO; cases alikeO (findF o p) (findF b p) <;> rfl
  rw [if_pos this]
  exact alikeO_refl _
 ·refine data_trees hy.2.good go (fun p => ?_)
  refine alikeO_trans (nodeS_from hy.2 p) ?_
  rw [nodeS_M]
  have : oursAt b b o p = alikeO (findF b p) (findF o p) := by unfold oursAt oursO; rw [alikeO_refl (findF b p)]; simp
  rw [this]
  cases ha : alikeO (findF b p) (findF o p) with
  | true => rw [if_pos rfl]; exact ha
  | false => rw [if_neg (by decide)]; exact alikeO_refl _
end Go.Proofs.YtbngbefchobfnaaGreatDoor

namespace Go.Proofs.YtbngbefchobfnaaGreatDoor.Print
open Go.RowKit Go.Proofs.YtbngbefchobfnaaGreatDoorW.PrintWords Go.Proofs.YtbngbefchobfnaaGreatDoorW.PrintLast Go.Proofs.YtbngbefchobfnaaGreatDoorW.PrintMore
attribute [local go_sem] max2_int min2_int max_two min_two max_three min_three max_four min_four   -- for this text's walks alone
set_option linter.unusedVariables false
set_option linter.unusedSimpArgs false
mutual
def bindlelaw21_light.l0 : Nat → List (List (S42)) → Int → Int → Option (Bool)
 | 0, _, _, _ => none
 | k + 1, x0, x3, x4 => if x4 < (x0.length : Int) then (bindlelaw21_light.l1 k x0 x3 x4 0) else (some (decide (x3 ≤ 200000)))
def bindlelaw21_light.l1 : Nat → List (List (S42)) → Int → Int → Int → Option (Bool)
 | 0, _, _, _, _ => none
 | k + 1, x0, x3, x4, x5 => if 0 ≤ x4 then (if x4 < (x0.length : Int) then (if x5 < ((rd_L6 x0 x4).length : Int) then (if x5 < 61 then (if 0 ≤ x5 then (bindlelaw21_light.l1 k x0 (wrap64 ((wrap64 ((wrap64 (x3 + (((rd_T42 (rd_L6 x0 x4) x5).f5).length : Int))) + (((rd_T42 (rd_L6 x0 x4) x5).f0).size : Int))) + (((rd_T42 (rd_L6 x0 x4) x5).f1).size : Int))) x4 (wrap64 (x5 + 1))) else (none)) else (if ((rd_L6 x0 x4).length : Int) > 60 then (some false) else (bindlelaw21_light.l0 k x0 x3 (wrap64 (x4 + 1))))) else (if ((rd_L6 x0 x4).length : Int) > 60 then (some false) else (bindlelaw21_light.l0 k x0 x3 (wrap64 (x4 + 1))))) else (none)) else (none)
end
def bindlelaw21_light.f (k : Nat) (l0 : List (List (S42))) : Option (Bool) := bindlelaw21_light.l0 k l0 0 0
set_option maxHeartbeats 8000000 in
set_option maxRecDepth 100000 in
theorem bindlelaw21_light.calls (k : Nat) (A0 : Option Addr) (c0 : Nat) (l0 : List (List (S42))) (r : Bool) (w : World) (hr0 : Kd.C (Kd.slice 42 k42) w A0 l0.length l0) (hc0 : l0.length ≤ c0) (h : bindlelaw21_light.f k l0 = some r) :
  Calls Tryz.prog 9 #[.slice A0 l0.length c0] w fun e w' => e = .returned (.bool r) ∧ Drawn0 w w' := by
 have HR0 := A0_ hr0
 have HC0 := A0_ hc0
 clear hr0 hc0
 have H : (bindlelaw21_light.l0 k l0 0 0) = some r := h
 clear h
 have H' := A0_ H
 clear H
 go_enter Tryz.func9, Tryz.ntmps9
 go_wp2
 repeat (go_quiet (fail); try go_wp2)
 go_loopg [3, 4] k (fun kq v3 v4 w' => ∃ (x3_1 : Int) (x4_1 : Int), v3 = .int .i64 x3_1 ∧ v4 = .int .i64 x4_1 ∧ Aside0 (bindlelaw21_light.l0 kq l0 x3_1 x4_1 = some r) ∧ Aside0 (kq ≤ k) ∧ Drawn0 w w')
 case atStart => exact ⟨(0), (0), wr_, wr_, H', ⟨Nat.le_refl _⟩, by repeat (first | exact Drawn0.refl _ | apply Drawn0.step)⟩
 case round =>
  clear H'
  obtain ⟨x3_1, x4_1, rfl, rfl, HA, HK1, ⟨m1, rfl⟩⟩ := hrel
  cases gk with
  | zero => exact absurd HA.out (by simp [bindlelaw21_light.l0])
  | succ k1 =>
   have H := HA.out
   clear HA
   simp only [bindlelaw21_light.l0] at H
   by_cases c2 : x4_1 < (l0.length : Int)
   rotate_left
   ·rw [if_neg c2] at H
    have c2b0 : decide (x4_1 < (l0.length : Int)) = false := decide_eq_false c2
    clear c2
    obtain rfl := Option.some.inj H
    go_wp2
    repeat (go_quiet (fail); try go_wp2)
    go_ret
    exact ⟨by first | rfl | (simp; done) | (simp [*]; done), by repeat (first | exact Drawn0.refl _ | apply Drawn0.step)⟩
   rw [if_pos c2] at H
   have c2b0 : decide (x4_1 < (l0.length : Int)) = true := decide_eq_true c2
   clear c2
   have H' := A0_ H
   clear H
   go_wp2
   repeat (go_quiet (fail); try go_wp2)
   go_loopg [3, 5] k1 (fun kq v3 v5 w' => ∃ (x3_2 : Int) (x5_2 : Int), v3 = .int .i64 x3_2 ∧ v5 = .int .i64 x5_2 ∧ Aside0 (bindlelaw21_light.l1 kq l0 x3_2 x4_1 x5_2 = some r) ∧ Aside0 (kq ≤ k1) ∧ Drawn0 w w')
   case atStart => exact ⟨(x3_1), (0), wr_, wr_, H', ⟨Nat.le_refl _⟩, by repeat (first | exact Drawn0.refl _ | apply Drawn0.step)⟩
   case round =>
    clear H'
    try clear c2
    try clear c2b0
    try clear p2
    obtain ⟨x3_2, x5_2, rfl, rfl, HA, HK2, ⟨m2, rfl⟩⟩ := hrel
    cases gk with
    | zero => exact absurd HA.out (by simp [bindlelaw21_light.l1])
    | succ k2 =>
     have H := HA.out
     clear HA
     simp only [bindlelaw21_light.l1] at H
     by_cases c3 : 0 ≤ x4_1
     rotate_left
     ·rw [if_neg c3] at H
      exact absurd H (by simp)
     rw [if_pos c3] at H
     have c3b0 : decide (0 ≤ x4_1) = true := decide_eq_true c3
     clear c3
     by_cases c4 : x4_1 < (l0.length : Int)
     rotate_left
     ·rw [if_neg c4] at H
      exact absurd H (by simp)
     rw [if_pos c4] at H
     have c4b0 : decide (x4_1 < (l0.length : Int)) = true := decide_eq_true c4
     clear c4
     by_cases c5 : x5_2 < ((rd_L6 l0 x4_1).length : Int)
     rotate_left
     ·rw [if_neg c5] at H
      have c5b0 : decide (x5_2 < ((rd_L6 l0 x4_1).length : Int)) = false := decide_eq_false c5
      clear c5
      by_cases c9 : ((rd_L6 l0 x4_1).length : Int) > 60
      ·rw [if_pos c9] at H
       have c9b0 : decide (60 < ((rd_L6 l0 x4_1).length : Int)) = true := decide_eq_true c9
       have c9b1 : decide (60 < (rd_L6 l0 x4_1).length) = true := decide_eq_true (by omega)
       clear c9
       obtain rfl := Option.some.inj H
       have p101 : 0 ≤ (x4_1 : Int) := wd_
       have q101 : x4_1 < (l0.length : Int) := wd_
       obtain ⟨ad101, A101_0, c101_0, e101, hx101_0, hl101_0, hi101_0⟩ := at_L6 HR0.out x4_1 p101 q101
       cases e101
       have HR101_0 := A0_ hi101_0
       have HC101_0 := A0_ hl101_0
       clear hi101_0 hl101_0
       replace p101 := eq_true p101
       replace q101 := eq_true q101
       have p109 : 0 ≤ (x4_1 : Int) := wd_
       have q109 : x4_1 < (l0.length : Int) := wd_
       obtain ⟨ad109, A109_0, c109_0, e109, hx109_0, hl109_0, hi109_0⟩ := at_L6 HR0.out x4_1 p109 q109
       obtain rfl : ad101 = ad109 := (by injection e109)
       have HR109_0 := A0_ hi109_0
       have HC109_0 := A0_ hl109_0
       clear hi109_0 hl109_0
       replace p109 := eq_true p109
       replace q109 := eq_true q109
       have ea_ := Option.some.inj (hx101_0.symm.trans hx109_0)
       injection ea_ with ea_ en_ ec_
       subst ea_
       subst ec_
       clear en_
       go_wp2
       repeat (go_quiet (fail); try go_wp2)
       go_ret
       exact ⟨by first | rfl | (simp; done) | (simp [*]; done), by repeat (first | exact Drawn0.refl _ | apply Drawn0.step)⟩
      rw [if_neg c9] at H
      have c9b0 : decide (60 < ((rd_L6 l0 x4_1).length : Int)) = false := decide_eq_false c9
      have c9b1 : decide (60 < (rd_L6 l0 x4_1).length) = false := decide_eq_false (by omega)
      clear c9
      have H' := A0_ H
      clear H
      have p101 : 0 ≤ (x4_1 : Int) := wd_
      have q101 : x4_1 < (l0.length : Int) := wd_
      obtain ⟨ad101, A101_0, c101_0, e101, hx101_0, hl101_0, hi101_0⟩ := at_L6 HR0.out x4_1 p101 q101
      cases e101
      have HR101_0 := A0_ hi101_0
      have HC101_0 := A0_ hl101_0
      clear hi101_0 hl101_0
      replace p101 := eq_true p101
      replace q101 := eq_true q101
      have p109 : 0 ≤ (x4_1 : Int) := wd_
      have q109 : x4_1 < (l0.length : Int) := wd_
      obtain ⟨ad109, A109_0, c109_0, e109, hx109_0, hl109_0, hi109_0⟩ := at_L6 HR0.out x4_1 p109 q109
      obtain rfl : ad101 = ad109 := (by injection e109)
      have HR109_0 := A0_ hi109_0
      have HC109_0 := A0_ hl109_0
      clear hi109_0 hl109_0
      replace p109 := eq_true p109
      replace q109 := eq_true q109
      have ea_ := Option.some.inj (hx101_0.symm.trans hx109_0)
      injection ea_ with ea_ en_ ec_
      subst ea_
      subst ec_
      clear en_
      go_wp2
      repeat (go_quiet (fail); try go_wp2)
      go_roundg k2
      case measure => have := HK1.out; have := HK2.out; omega
      case rel => exact ⟨(x3_2), (wrap64 (x4_1 + 1)), wr_, wr_, H', ⟨by have := HK1.out; have := HK2.out; omega⟩, by repeat (first | exact Drawn0.refl _ | apply Drawn0.step)⟩
     rw [if_pos c5] at H
     have c5b0 : decide (x5_2 < ((rd_L6 l0 x4_1).length : Int)) = true := decide_eq_true c5
     clear c5
     by_cases c6 : x5_2 < 61
     rotate_left
     ·rw [if_neg c6] at H
      have c6b0 : decide (x5_2 < 61) = false := decide_eq_false c6
      clear c6
      by_cases c8 : ((rd_L6 l0 x4_1).length : Int) > 60
      ·rw [if_pos c8] at H
       have c8b0 : decide (60 < ((rd_L6 l0 x4_1).length : Int)) = true := decide_eq_true c8
       have c8b1 : decide (60 < (rd_L6 l0 x4_1).length) = true := decide_eq_true (by omega)
       clear c8
       obtain rfl := Option.some.inj H
       have p101 : 0 ≤ (x4_1 : Int) := wd_
       have q101 : x4_1 < (l0.length : Int) := wd_
       obtain ⟨ad101, A101_0, c101_0, e101, hx101_0, hl101_0, hi101_0⟩ := at_L6 HR0.out x4_1 p101 q101
       cases e101
       have HR101_0 := A0_ hi101_0
       have HC101_0 := A0_ hl101_0
       clear hi101_0 hl101_0
       replace p101 := eq_true p101
       replace q101 := eq_true q101
       have p108 : 0 ≤ (x4_1 : Int) := wd_
       have q108 : x4_1 < (l0.length : Int) := wd_
       obtain ⟨ad108, A108_0, c108_0, e108, hx108_0, hl108_0, hi108_0⟩ := at_L6 HR0.out x4_1 p108 q108
       obtain rfl : ad101 = ad108 := (by injection e108)
       have HR108_0 := A0_ hi108_0
       have HC108_0 := A0_ hl108_0
       clear hi108_0 hl108_0
       replace p108 := eq_true p108
       replace q108 := eq_true q108
       have ea_ := Option.some.inj (hx101_0.symm.trans hx108_0)
       injection ea_ with ea_ en_ ec_
       subst ea_
       subst ec_
       clear en_
       go_wp2
       repeat (go_quiet (fail); try go_wp2)
       go_ret
       exact ⟨by first | rfl | (simp; done) | (simp [*]; done), by repeat (first | exact Drawn0.refl _ | apply Drawn0.step)⟩
      rw [if_neg c8] at H
      have c8b0 : decide (60 < ((rd_L6 l0 x4_1).length : Int)) = false := decide_eq_false c8
      have c8b1 : decide (60 < (rd_L6 l0 x4_1).length) = false := decide_eq_false (by omega)
      clear c8
      have H' := A0_ H
      clear H
      have p101 : 0 ≤ (x4_1 : Int) := wd_
      have q101 : x4_1 < (l0.length : Int) := wd_
      obtain ⟨ad101, A101_0, c101_0, e101, hx101_0, hl101_0, hi101_0⟩ := at_L6 HR0.out x4_1 p101 q101
      cases e101
      have HR101_0 := A0_ hi101_0
      have HC101_0 := A0_ hl101_0
      clear hi101_0 hl101_0
      replace p101 := eq_true p101
      replace q101 := eq_true q101
      have p108 : 0 ≤ (x4_1 : Int) := wd_
      have q108 : x4_1 < (l0.length : Int) := wd_
      obtain ⟨ad108, A108_0, c108_0, e108, hx108_0, hl108_0, hi108_0⟩ := at_L6 HR0.out x4_1 p108 q108
      obtain rfl : ad101 = ad108 := (by injection e108)
      have HR108_0 := A0_ hi108_0
      have HC108_0 := A0_ hl108_0
      clear hi108_0 hl108_0
      replace p108 := eq_true p108
      replace q108 := eq_true q108
      have ea_ := Option.some.inj (hx101_0.symm.trans hx108_0)
      injection ea_ with ea_ en_ ec_
      subst ea_
      subst ec_
      clear en_
      go_wp2
      repeat (go_quiet (fail); try go_wp2)
      go_roundg k2
      case measure => have := HK1.out; have := HK2.out; omega
      case rel => exact ⟨(x3_2), (wrap64 (x4_1 + 1)), wr_, wr_, H', ⟨by have := HK1.out; have := HK2.out; omega⟩, by repeat (first | exact Drawn0.refl _ | apply Drawn0.step)⟩
     rw [if_pos c6] at H
     have c6b0 : decide (x5_2 < 61) = true := decide_eq_true c6
     clear c6
     by_cases c7 : 0 ≤ x5_2
     rotate_left
     ·rw [if_neg c7] at H
      exact absurd H (by simp)
     rw [if_pos c7] at H
     have c7b0 : decide (0 ≤ x5_2) = true := decide_eq_true c7
     clear c7
     have H' := A0_ H
     clear H
     have p101 : 0 ≤ (x4_1 : Int) := wd_
     have q101 : x4_1 < (l0.length : Int) := wd_
     obtain ⟨ad101, A101_0, c101_0, e101, hx101_0, hl101_0, hi101_0⟩ := at_L6 HR0.out x4_1 p101 q101
     cases e101
     have HR101_0 := A0_ hi101_0
     have HC101_0 := A0_ hl101_0
     clear hi101_0 hl101_0
     replace p101 := eq_true p101
     replace q101 := eq_true q101
     have p102 : 0 ≤ (x4_1 : Int) := wd_
     have q102 : x4_1 < (l0.length : Int) := wd_
     obtain ⟨ad102, A102_0, c102_0, e102, hx102_0, hl102_0, hi102_0⟩ := at_L6 HR0.out x4_1 p102 q102
     obtain rfl : ad101 = ad102 := (by injection e102)
     have HR102_0 := A0_ hi102_0
     have HC102_0 := A0_ hl102_0
     clear hi102_0 hl102_0
     replace p102 := eq_true p102
     replace q102 := eq_true q102
     have ea_ := Option.some.inj (hx101_0.symm.trans hx102_0)
     injection ea_ with ea_ en_ ec_
     subst ea_
     subst ec_
     clear en_
     have p103 : 0 ≤ (x5_2 : Int) := wd_
     have q103 : x5_2 < ((rd_L6 l0 x4_1).length : Int) := wd_
     obtain ⟨ad103, A103_8, c103_8, e103, hx103_0, hx103_1, hx103_2, hx103_3, hx103_4, hx103_5, hx103_6, hx103_7, hx103_8, hl103_8, hi103_8⟩ := at_T42 HR102_0.out x5_2 p103 q103
     cases e103
     have HR103_8 := A0_ hi103_8
     have HC103_8 := A0_ hl103_8
     clear hi103_8 hl103_8
     replace p103 := eq_true p103
     replace q103 := eq_true q103
     have p104 : 0 ≤ (x4_1 : Int) := wd_
     have q104 : x4_1 < (l0.length : Int) := wd_
     obtain ⟨ad104, A104_0, c104_0, e104, hx104_0, hl104_0, hi104_0⟩ := at_L6 HR0.out x4_1 p104 q104
     obtain rfl : ad101 = ad104 := (by injection e104)
     have HR104_0 := A0_ hi104_0
     have HC104_0 := A0_ hl104_0
     clear hi104_0 hl104_0
     replace p104 := eq_true p104
     replace q104 := eq_true q104
     have ea_ := Option.some.inj (hx101_0.symm.trans hx104_0)
     injection ea_ with ea_ en_ ec_
     subst ea_
     subst ec_
     clear en_
     have p105 : 0 ≤ (x5_2 : Int) := wd_
     have q105 : x5_2 < ((rd_L6 l0 x4_1).length : Int) := wd_
     obtain ⟨ad105, A105_8, c105_8, e105, hx105_0, hx105_1, hx105_2, hx105_3, hx105_4, hx105_5, hx105_6, hx105_7, hx105_8, hl105_8, hi105_8⟩ := at_T42 HR104_0.out x5_2 p105 q105
     cases e105
     have HR105_8 := A0_ hi105_8
     have HC105_8 := A0_ hl105_8
     clear hi105_8 hl105_8
     replace p105 := eq_true p105
     replace q105 := eq_true q105
     have p106 : 0 ≤ (x4_1 : Int) := wd_
     have q106 : x4_1 < (l0.length : Int) := wd_
     obtain ⟨ad106, A106_0, c106_0, e106, hx106_0, hl106_0, hi106_0⟩ := at_L6 HR0.out x4_1 p106 q106
     obtain rfl : ad101 = ad106 := (by injection e106)
     have HR106_0 := A0_ hi106_0
     have HC106_0 := A0_ hl106_0
     clear hi106_0 hl106_0
     replace p106 := eq_true p106
     replace q106 := eq_true q106
     have ea_ := Option.some.inj (hx101_0.symm.trans hx106_0)
     injection ea_ with ea_ en_ ec_
     subst ea_
     subst ec_
     clear en_
     have p107 : 0 ≤ (x5_2 : Int) := wd_
     have q107 : x5_2 < ((rd_L6 l0 x4_1).length : Int) := wd_
     obtain ⟨ad107, A107_8, c107_8, e107, hx107_0, hx107_1, hx107_2, hx107_3, hx107_4, hx107_5, hx107_6, hx107_7, hx107_8, hl107_8, hi107_8⟩ := at_T42 HR106_0.out x5_2 p107 q107
     cases e107
     have HR107_8 := A0_ hi107_8
     have HC107_8 := A0_ hl107_8
     clear hi107_8 hl107_8
     replace p107 := eq_true p107
     replace q107 := eq_true q107
     go_wp2
     repeat (go_quiet (fail); try go_wp2)
     go_roundg k2
     case measure => have := HK1.out; have := HK2.out; omega
     case rel => exact ⟨(wrap64 ((wrap64 ((wrap64 (x3_2 + (((rd_T42 (rd_L6 l0 x4_1) x5_2).f5).length : Int))) + (((rd_T42 (rd_L6 l0 x4_1) x5_2).f0).size : Int))) + (((rd_T42 (rd_L6 l0 x4_1) x5_2).f1).size : Int))), (wrap64 (x5_2 + 1)), wr_, wr_, H', ⟨by have := HK1.out; have := HK2.out; omega⟩, by repeat (first | exact Drawn0.refl _ | apply Drawn0.step)⟩
end Go.Proofs.YtbngbefchobfnaaGreatDoor.Print
