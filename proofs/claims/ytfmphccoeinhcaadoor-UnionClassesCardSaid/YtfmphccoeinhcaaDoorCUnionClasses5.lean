/-
  Part of the proof that UnionClasses answers true: texts put together (wip/bundle.py).
-/
import Derived.Test.YtfmphccoeinhcaaDoorCUnionClasses4
import Derived.Deep.RegionHeld3
import Derived.Deep.QuietTactic
import Derived.StillTailTactics
import Derived.BigQuiet
import Derived.IntWalk
import Derived.SizedLaws
import Derived.ChangeSlices
import Derived.OpenShut
namespace Go.Proofs.YtfmphccoeinhcaaDoor.Print
open Go.RowKit Go.Proofs.YtfmphccoeinhcaaDoorW.PrintWords Go.Proofs.YtfmphccoeinhcaaDoorW.PrintLast Go.Proofs.YtfmphccoeinhcaaDoorW.PrintMore
attribute [local go_sem] max2_int min2_int max_two min_two max_three min_three max_four min_four   -- for this text's walks alone
set_option linter.unusedVariables false
set_option linter.unusedSimpArgs false
def bindlelaw19_answers.f  : Option (Bool) := (union_Union.f (([(([(⟨(⟨#[97]⟩ : ByteArray), (⟨#[]⟩ : ByteArray), (⟨#[97]⟩ : ByteArray), 48, (⟨0, 0, 0, 0⟩ : S24), ([] : List Int)⟩ : S38), (⟨(⟨#[98]⟩ : ByteArray), (⟨#[]⟩ : ByteArray), (⟨#[97]⟩ : ByteArray), 48, (⟨0, 0, 0, 0⟩ : S24), ([] : List Int)⟩ : S38)] : List (S38))), (([(⟨(⟨#[97]⟩ : ByteArray), (⟨#[]⟩ : ByteArray), (⟨#[]⟩ : ByteArray), 53, (⟨0, 0, 0, 0⟩ : S24), ([] : List Int)⟩ : S38)] : List (S38)))] : List (List (S38))))).bind fun bt202 => ((union_Union.f (([(([(⟨(⟨#[]⟩ : ByteArray), (⟨#[]⟩ : ByteArray), (⟨#[]⟩ : ByteArray), 0, (⟨0, 0, 0, 0⟩ : S24), ([] : List Int)⟩ : S38)] : List (S38)))] : List (List (S38))))).bind fun bt212 => (if bt202.2 = 0 then (if (bt202.1.length : Int) = 2 then (if 0 < (bt202.1.length : Int) then (if ((rd_T38 bt202.1 0).f3) = 53 then (if 1 < (bt202.1.length : Int) then (if ((rd_T38 bt202.1 1).f2).toList = ([98] : List UInt8) then (some (bt212.2 == 1)) else (some false)) else (none)) else (some false)) else (none)) else (some false)) else (some false)))
theorem bindlelaw19_answers.val : bindlelaw19_answers.f = some true := by kernel_rfl
set_option maxHeartbeats 8000000 in
set_option maxRecDepth 100000 in
theorem bindlelaw19_answers.calls  (r : Bool) (w : World) (hT : Aside0 (Tabs w)) (h : bindlelaw19_answers.f  = some r) :
  Calls Tryd.prog 22 #[] w fun e w' => e = .returned (.bool r) ∧ Below w.heap.size w w' := by
 have hr_ : r = true := Option.some.inj (h.symm.trans bindlelaw19_answers.val)
 have hu38 := Tryd.underlying38
 have HB := A0_ (Below.refl w.heap.size w)
 have H : ((union_Union.f (([(([(⟨(⟨#[97]⟩ : ByteArray), (⟨#[]⟩ : ByteArray), (⟨#[97]⟩ : ByteArray), 48, (⟨0, 0, 0, 0⟩ : S24), ([] : List Int)⟩ : S38), (⟨(⟨#[98]⟩ : ByteArray), (⟨#[]⟩ : ByteArray), (⟨#[97]⟩ : ByteArray), 48, (⟨0, 0, 0, 0⟩ : S24), ([] : List Int)⟩ : S38)] : List (S38))), (([(⟨(⟨#[97]⟩ : ByteArray), (⟨#[]⟩ : ByteArray), (⟨#[]⟩ : ByteArray), 53, (⟨0, 0, 0, 0⟩ : S24), ([] : List Int)⟩ : S38)] : List (S38)))] : List (List (S38))))).bind fun bt202 => ((union_Union.f (([(([(⟨(⟨#[]⟩ : ByteArray), (⟨#[]⟩ : ByteArray), (⟨#[]⟩ : ByteArray), 0, (⟨0, 0, 0, 0⟩ : S24), ([] : List Int)⟩ : S38)] : List (S38)))] : List (List (S38))))).bind fun bt212 => (if bt202.2 = 0 then (if (bt202.1.length : Int) = 2 then (if 0 < (bt202.1.length : Int) then (if ((rd_T38 bt202.1 0).f3) = 53 then (if 1 < (bt202.1.length : Int) then (if ((rd_T38 bt202.1 1).f2).toList = ([98] : List UInt8) then (some (bt212.2 == 1)) else (some false)) else (none)) else (some false)) else (none)) else (some false)) else (some false)))) = some r := h
 clear h
 obtain ⟨y193, hy193⟩ : ∃ y_ : List (S38), y_ = (([(⟨(⟨#[97]⟩ : ByteArray), (⟨#[]⟩ : ByteArray), (⟨#[97]⟩ : ByteArray), 48, (⟨0, 0, 0, 0⟩ : S24), ([] : List Int)⟩ : S38), (⟨(⟨#[98]⟩ : ByteArray), (⟨#[]⟩ : ByteArray), (⟨#[97]⟩ : ByteArray), 48, (⟨0, 0, 0, 0⟩ : S24), ([] : List Int)⟩ : S38)] : List (S38))) := ⟨_, rfl⟩
 replace H : ((union_Union.f (([y193, (([(⟨(⟨#[97]⟩ : ByteArray), (⟨#[]⟩ : ByteArray), (⟨#[]⟩ : ByteArray), 53, (⟨0, 0, 0, 0⟩ : S24), ([] : List Int)⟩ : S38)] : List (S38)))] : List (List (S38))))).bind fun bt202 => ((union_Union.f (([(([(⟨(⟨#[]⟩ : ByteArray), (⟨#[]⟩ : ByteArray), (⟨#[]⟩ : ByteArray), 0, (⟨0, 0, 0, 0⟩ : S24), ([] : List Int)⟩ : S38)] : List (S38)))] : List (List (S38))))).bind fun bt212 => (if bt202.2 = 0 then (if (bt202.1.length : Int) = 2 then (if 0 < (bt202.1.length : Int) then (if ((rd_T38 bt202.1 0).f3) = 53 then (if 1 < (bt202.1.length : Int) then (if ((rd_T38 bt202.1 1).f2).toList = ([98] : List UInt8) then (some (bt212.2 == 1)) else (some false)) else (none)) else (some false)) else (none)) else (some false)) else (some false)))) = some r := by first | (rw [hy193]; with_reducible exact H) | (have H2_ := (Option.bind_some _ _).symm.trans H; rw [hy193]; with_reducible exact H2_) | (have H2_ := (Option.bind_some _ _).symm.trans H; with_reducible exact H2_) | with_reducible exact H | (rw [hy193]; exact H) | exact H
 have Ny193 := A0_ hy193
 clear hy193
 obtain ⟨y196, hy196⟩ : ∃ y_ : List (S38), y_ = (([(⟨(⟨#[97]⟩ : ByteArray), (⟨#[]⟩ : ByteArray), (⟨#[]⟩ : ByteArray), 53, (⟨0, 0, 0, 0⟩ : S24), ([] : List Int)⟩ : S38)] : List (S38))) := ⟨_, rfl⟩
 replace H : ((union_Union.f (([y193, y196] : List (List (S38))))).bind fun bt202 => ((union_Union.f (([(([(⟨(⟨#[]⟩ : ByteArray), (⟨#[]⟩ : ByteArray), (⟨#[]⟩ : ByteArray), 0, (⟨0, 0, 0, 0⟩ : S24), ([] : List Int)⟩ : S38)] : List (S38)))] : List (List (S38))))).bind fun bt212 => (if bt202.2 = 0 then (if (bt202.1.length : Int) = 2 then (if 0 < (bt202.1.length : Int) then (if ((rd_T38 bt202.1 0).f3) = 53 then (if 1 < (bt202.1.length : Int) then (if ((rd_T38 bt202.1 1).f2).toList = ([98] : List UInt8) then (some (bt212.2 == 1)) else (some false)) else (none)) else (some false)) else (none)) else (some false)) else (some false)))) = some r := by first | (rw [hy196]; with_reducible exact H) | (have H2_ := (Option.bind_some _ _).symm.trans H; rw [hy196]; with_reducible exact H2_) | (have H2_ := (Option.bind_some _ _).symm.trans H; with_reducible exact H2_) | with_reducible exact H | (rw [hy196]; exact H) | exact H
 have Ny196 := A0_ hy196
 clear hy196
 obtain ⟨y199, hy199⟩ : ∃ y_ : List (List (S38)), y_ = (([y193, y196] : List (List (S38)))) := ⟨_, rfl⟩
 replace H : ((union_Union.f y199).bind fun bt202 => ((union_Union.f (([(([(⟨(⟨#[]⟩ : ByteArray), (⟨#[]⟩ : ByteArray), (⟨#[]⟩ : ByteArray), 0, (⟨0, 0, 0, 0⟩ : S24), ([] : List Int)⟩ : S38)] : List (S38)))] : List (List (S38))))).bind fun bt212 => (if bt202.2 = 0 then (if (bt202.1.length : Int) = 2 then (if 0 < (bt202.1.length : Int) then (if ((rd_T38 bt202.1 0).f3) = 53 then (if 1 < (bt202.1.length : Int) then (if ((rd_T38 bt202.1 1).f2).toList = ([98] : List UInt8) then (some (bt212.2 == 1)) else (some false)) else (none)) else (some false)) else (none)) else (some false)) else (some false)))) = some r := by first | (rw [hy199]; with_reducible exact H) | (have H2_ := (Option.bind_some _ _).symm.trans H; rw [hy199]; with_reducible exact H2_) | (have H2_ := (Option.bind_some _ _).symm.trans H; with_reducible exact H2_) | with_reducible exact H | (rw [hy199]; exact H) | exact H
 have Ny199 := A0_ hy199
 clear hy199
 replace H := Option.bind_eq_some_iff.mp H
 obtain ⟨⟨t202, t205⟩, A10, H⟩ := H
 replace H : ((union_Union.f (([(([(⟨(⟨#[]⟩ : ByteArray), (⟨#[]⟩ : ByteArray), (⟨#[]⟩ : ByteArray), 0, (⟨0, 0, 0, 0⟩ : S24), ([] : List Int)⟩ : S38)] : List (S38)))] : List (List (S38))))).bind fun bt212 => (if t205 = 0 then (if (t202.length : Int) = 2 then (if 0 < (t202.length : Int) then (if ((rd_T38 t202 0).f3) = 53 then (if 1 < (t202.length : Int) then (if ((rd_T38 t202 1).f2).toList = ([98] : List UInt8) then (some (bt212.2 == 1)) else (some false)) else (none)) else (some false)) else (none)) else (some false)) else (some false))) = some r := H
 have A1 := A0_ A10
 clear A10
 obtain ⟨y206, hy206⟩ : ∃ y_ : List (S38), y_ = (([(⟨(⟨#[]⟩ : ByteArray), (⟨#[]⟩ : ByteArray), (⟨#[]⟩ : ByteArray), 0, (⟨0, 0, 0, 0⟩ : S24), ([] : List Int)⟩ : S38)] : List (S38))) := ⟨_, rfl⟩
 replace H : ((union_Union.f (([y206] : List (List (S38))))).bind fun bt212 => (if t205 = 0 then (if (t202.length : Int) = 2 then (if 0 < (t202.length : Int) then (if ((rd_T38 t202 0).f3) = 53 then (if 1 < (t202.length : Int) then (if ((rd_T38 t202 1).f2).toList = ([98] : List UInt8) then (some (bt212.2 == 1)) else (some false)) else (none)) else (some false)) else (none)) else (some false)) else (some false))) = some r := by first | (rw [hy206]; with_reducible exact H) | (have H2_ := (Option.bind_some _ _).symm.trans H; rw [hy206]; with_reducible exact H2_) | (have H2_ := (Option.bind_some _ _).symm.trans H; with_reducible exact H2_) | with_reducible exact H | (rw [hy206]; exact H) | exact H
 have Ny206 := A0_ hy206
 clear hy206
 obtain ⟨y209, hy209⟩ : ∃ y_ : List (List (S38)), y_ = (([y206] : List (List (S38)))) := ⟨_, rfl⟩
 replace H : ((union_Union.f y209).bind fun bt212 => (if t205 = 0 then (if (t202.length : Int) = 2 then (if 0 < (t202.length : Int) then (if ((rd_T38 t202 0).f3) = 53 then (if 1 < (t202.length : Int) then (if ((rd_T38 t202 1).f2).toList = ([98] : List UInt8) then (some (bt212.2 == 1)) else (some false)) else (none)) else (some false)) else (none)) else (some false)) else (some false))) = some r := by first | (rw [hy209]; with_reducible exact H) | (have H2_ := (Option.bind_some _ _).symm.trans H; rw [hy209]; with_reducible exact H2_) | (have H2_ := (Option.bind_some _ _).symm.trans H; with_reducible exact H2_) | with_reducible exact H | (rw [hy209]; exact H) | exact H
 have Ny209 := A0_ hy209
 clear hy209
 replace H := Option.bind_eq_some_iff.mp H
 obtain ⟨⟨t212, t215⟩, A20, H⟩ := H
 replace H : (if t205 = 0 then (if (t202.length : Int) = 2 then (if 0 < (t202.length : Int) then (if ((rd_T38 t202 0).f3) = 53 then (if 1 < (t202.length : Int) then (if ((rd_T38 t202 1).f2).toList = ([98] : List UInt8) then (some (t215 == 1)) else (some false)) else (none)) else (some false)) else (none)) else (some false)) else (some false)) = some r := H
 have A2 := A0_ A20
 clear A20
 by_cases c3 : t205 = 0
 rotate_left
 ·rw [if_neg c3] at H
  have c3b0 : (t205 == 0) = false := beq_eq_false_iff_ne.mpr c3
  have c3b1 : (t205 != 0) = true := bne_iff_ne.mpr c3
  exact absurd ((Option.some.inj H).trans hr_) (by decide)
 rw [if_pos c3] at H
 have c3b0 : (t205 == 0) = true := beq_iff_eq.mpr c3
 have c3b1 : (t205 != 0) = false := bne_eq_false_iff_eq.mpr c3
 clear c3
 by_cases c4 : (t202.length : Int) = 2
 rotate_left
 ·rw [if_neg c4] at H
  have c4b0 : ((t202.length : Int) == 2) = false := beq_eq_false_iff_ne.mpr c4
  have c4b1 : ((t202.length : Int) != 2) = true := bne_iff_ne.mpr c4
  exact absurd ((Option.some.inj H).trans hr_) (by decide)
 rw [if_pos c4] at H
 have c4b0 : ((t202.length : Int) == 2) = true := beq_iff_eq.mpr c4
 have c4b1 : ((t202.length : Int) != 2) = false := bne_eq_false_iff_eq.mpr c4
 clear c4
 by_cases c5 : 0 < (t202.length : Int)
 rotate_left
 ·rw [if_neg c5] at H
  exact absurd H (by simp)
 rw [if_pos c5] at H
 have c5b0 : decide (0 < (t202.length : Int)) = true := decide_eq_true c5
 have c5b1 : decide (0 < t202.length) = true := decide_eq_true (by omega)
 clear c5
 by_cases c6 : ((rd_T38 t202 0).f3) = 53
 rotate_left
 ·rw [if_neg c6] at H
  have c6b0 : (((rd_T38 t202 0).f3) == 53) = false := beq_eq_false_iff_ne.mpr c6
  have c6b1 : (((rd_T38 t202 0).f3) != 53) = true := bne_iff_ne.mpr c6
  exact absurd ((Option.some.inj H).trans hr_) (by decide)
 rw [if_pos c6] at H
 have c6b0 : (((rd_T38 t202 0).f3) == 53) = true := beq_iff_eq.mpr c6
 have c6b1 : (((rd_T38 t202 0).f3) != 53) = false := bne_eq_false_iff_eq.mpr c6
 clear c6
 by_cases c7 : 1 < (t202.length : Int)
 rotate_left
 ·rw [if_neg c7] at H
  exact absurd H (by simp)
 rw [if_pos c7] at H
 have c7b0 : decide (1 < (t202.length : Int)) = true := decide_eq_true c7
 have c7b1 : decide (1 < t202.length) = true := decide_eq_true (by omega)
 clear c7
 by_cases c8 : ((rd_T38 t202 1).f2).toList = ([98] : List UInt8)
 rotate_left
 ·rw [if_neg c8] at H
  have c8b0 : (((rd_T38 t202 1).f2).toList == ([98] : List UInt8)) = false := beq_eq_false_iff_ne.mpr c8
  have c8b1 : (((rd_T38 t202 1).f2).toList != ([98] : List UInt8)) = true := bne_iff_ne.mpr c8
  exact absurd ((Option.some.inj H).trans hr_) (by decide)
 rw [if_pos c8] at H
 have c8b0 : (((rd_T38 t202 1).f2).toList == ([98] : List UInt8)) = true := beq_iff_eq.mpr c8
 have c8b1 : (((rd_T38 t202 1).f2).toList != ([98] : List UInt8)) = false := bne_eq_false_iff_eq.mpr c8
 clear c8
 clear hr_
 obtain rfl := Option.some.inj H
 go_enter Tryd.func22, Tryd.ntmps22
 go_wp2_with (first | ((with_reducible refine gate_dst (N := 8) rfl ?_); (try (refine gate_guard (by rfl) ?_; dsimp only)); refine Kd.N_lit k38 _ 38 ?hg (N' := 8) ?hd (xs := ([(⟨(⟨#[97]⟩ : ByteArray), (⟨#[]⟩ : ByteArray), (⟨#[97]⟩ : ByteArray), 48, (⟨0, 0, 0, 0⟩ : S24), ([] : List Int)⟩ : S38), (⟨(⟨#[98]⟩ : ByteArray), (⟨#[]⟩ : ByteArray), (⟨#[97]⟩ : ByteArray), 48, (⟨0, 0, 0, 0⟩ : S24), ([] : List Int)⟩ : S38)] : List (S38))) (inner := [.string (⟨#[97]⟩ : ByteArray), .string (⟨#[]⟩ : ByteArray), .string (⟨#[97]⟩ : ByteArray), .int .u8 48, .int .i64 0, .int .i64 0, .int .i64 0, .int .i64 0, .slice none 0 0, .string (⟨#[98]⟩ : ByteArray), .string (⟨#[]⟩ : ByteArray), .string (⟨#[97]⟩ : ByteArray), .int .u8 48, .int .i64 0, .int .i64 0, .int .i64 0, .int .i64 0, .slice none 0 0]) (ok := (fun _ => True)) (okp := (fun _ => True)) ?hr ?hp (fun _ hk => hk) ((show ∀ k_, w.heap.size ≤ k_ → (fun _ => True) k_ from fun k_ hk => trivial) _ (Nat.le_refl _)) (Below.refl _ _) (Nat.le_refl _) (by simp) ?_; (case hd => rfl); (case hg => rfl); (case hr => first | (go_simp; done) | (go_simp; rfl)); (case hp => exact (Reps.c9 (show Kd.FK k38 _ _ (⟨(⟨#[97]⟩ : ByteArray), (⟨#[]⟩ : ByteArray), (⟨#[97]⟩ : ByteArray), 48, (⟨0, 0, 0, 0⟩ : S24), ([] : List Int)⟩ : S38) [.string (⟨#[97]⟩ : ByteArray), .string (⟨#[]⟩ : ByteArray), .string (⟨#[97]⟩ : ByteArray), .int .u8 48, .int .i64 0, .int .i64 0, .int .i64 0, .int .i64 0, .slice none 0 0] from (k38_mkF _ _ (⟨(⟨#[97]⟩ : ByteArray), (⟨#[]⟩ : ByteArray), (⟨#[97]⟩ : ByteArray), 48, (⟨0, 0, 0, 0⟩ : S24), ([] : List Int)⟩ : S38) (Nat.le_refl _) (Kd.F_nil _ _ _))) (Reps.c9 (show Kd.FK k38 _ _ (⟨(⟨#[98]⟩ : ByteArray), (⟨#[]⟩ : ByteArray), (⟨#[97]⟩ : ByteArray), 48, (⟨0, 0, 0, 0⟩ : S24), ([] : List Int)⟩ : S38) [.string (⟨#[98]⟩ : ByteArray), .string (⟨#[]⟩ : ByteArray), .string (⟨#[97]⟩ : ByteArray), .int .u8 48, .int .i64 0, .int .i64 0, .int .i64 0, .int .i64 0, .slice none 0 0] from (k38_mkF _ _ (⟨(⟨#[98]⟩ : ByteArray), (⟨#[]⟩ : ByteArray), (⟨#[97]⟩ : ByteArray), 48, (⟨0, 0, 0, 0⟩ : S24), ([] : List Int)⟩ : S38) (Nat.le_refl _) (Kd.F_nil _ _ _))) (Reps.none _ _)))); intro v194 w9 ho10 hb hg_ hnew_; clear hg_ hnew_; (first | rw [← Ny193.out] at ho10 | (simp only [Int.reduceToNat] at ho10; rw [← Ny193.out] at ho10)); have n0_ := A0_ (Kd.N_lower ho10 (below_size (wb_ HB.out))); have n1_ := A0_ (below_step (wb_ HB.out) hb); clear HB; have HO195 := n0_; have HB := n1_; clear n0_ n1_; clear hb ho10) | ((with_reducible refine gate_dst (N := 12) rfl ?_); (try (refine gate_guard (by rfl) ?_; dsimp only)); refine Kd.N_lit k38 _ 38 ?hg (N' := 12) ?hd (xs := ([(⟨(⟨#[97]⟩ : ByteArray), (⟨#[]⟩ : ByteArray), (⟨#[]⟩ : ByteArray), 53, (⟨0, 0, 0, 0⟩ : S24), ([] : List Int)⟩ : S38)] : List (S38))) (inner := [.string (⟨#[97]⟩ : ByteArray), .string (⟨#[]⟩ : ByteArray), .string (⟨#[]⟩ : ByteArray), .int .u8 53, .int .i64 0, .int .i64 0, .int .i64 0, .int .i64 0, .slice none 0 0]) (ok := (fun k_ => some k_ ≠ (v194 : Value).ownBlock)) (okp := (fun k_ => some k_ ≠ (v194 : Value).ownBlock)) ?hr ?hp (fun _ hk => hk) ((show ∀ k_, w9.heap.size ≤ k_ → (fun k_ => some k_ ≠ (v194 : Value).ownBlock) k_ from fun k_ hk => Kd.fresh' (Kd.N_lt (wN_ HO195.out)) k_ hk) _ (Nat.le_refl _)) (Below.refl _ _) (Nat.le_refl _) (by simp) ?_; (case hd => rfl); (case hg => rfl); (case hr => first | (go_simp; done) | (go_simp; rfl)); (case hp => exact (Reps.c9 (show Kd.FK k38 _ _ (⟨(⟨#[97]⟩ : ByteArray), (⟨#[]⟩ : ByteArray), (⟨#[]⟩ : ByteArray), 53, (⟨0, 0, 0, 0⟩ : S24), ([] : List Int)⟩ : S38) [.string (⟨#[97]⟩ : ByteArray), .string (⟨#[]⟩ : ByteArray), .string (⟨#[]⟩ : ByteArray), .int .u8 53, .int .i64 0, .int .i64 0, .int .i64 0, .int .i64 0, .slice none 0 0] from (k38_mkF _ _ (⟨(⟨#[97]⟩ : ByteArray), (⟨#[]⟩ : ByteArray), (⟨#[]⟩ : ByteArray), 53, (⟨0, 0, 0, 0⟩ : S24), ([] : List Int)⟩ : S38) (Nat.le_refl _) (Kd.F_nil _ _ _))) (Reps.none _ _))); intro v197 w11 ho12 hb hg_ hnew_; clear hg_ hnew_; (first | rw [← Ny196.out] at ho12 | (simp only [Int.reduceToNat] at ho12; rw [← Ny196.out] at ho12)); have n0_ := A0_ (Kd.N_elder' (wN_ HO195.out) (Kd.N_base ho12) hb); have n1_ := A0_ (Kd.N_lower ho12 (below_size (wb_ HB.out))); have n2_ := A0_ (below_step (wb_ HB.out) hb); clear HO195; clear HB; have HO195 := n0_; have HO198 := n1_; have HB := n2_; clear n0_ n1_ n2_; clear hb ho12; obtain ⟨Ao13, co13, eo13⟩ := Kd.N_slice HO195.out; subst eo13; obtain ⟨Ao14, co14, eo14⟩ := Kd.N_slice HO198.out; subst eo14) | ((with_reducible refine gate_dst (N := 13) rfl ?_); (try (refine gate_guard (by rfl) ?_; dsimp only)); refine Kd.N_lit (Kd.slice 38 k38) _ 31 ?hg (N' := 13) ?hd (xs := ([y193, y196] : List (List (S38)))) (inner := [.slice Ao13 y193.length co13, .slice Ao14 y196.length co14]) (ok := (fun _ => True)) (okp := (fun _ => True)) ?hr ?hp (fun _ hk => hk) ((show ∀ k_, w11.heap.size ≤ k_ → (fun _ => True) k_ from fun k_ hk => trivial) _ (Nat.le_refl _)) (Below.refl _ _) (Nat.le_refl _) (by simp) ?_; (case hd => rfl); (case hg => rfl); (case hr => first | (go_simp; done) | (go_simp; rfl)); (case hp => exact (Reps.one (show Kd.FK (Kd.slice 38 k38) _ _ y193 [.slice Ao13 y193.length co13] from (Kd.FK_slice_mk (Kd.N_reads' (Kd.N_mono (ok' := (fun _ => True)) (HO195.out) (fun k_ hk => trivial))).2.1 (Kd.N_F (Kd.N_mono (ok' := (fun _ => True)) (HO195.out) (fun k_ hk => trivial))))) (Reps.one (show Kd.FK (Kd.slice 38 k38) _ _ y196 [.slice Ao14 y196.length co14] from (Kd.FK_slice_mk (Kd.N_reads' (Kd.N_mono (ok' := (fun _ => True)) (HO198.out) (fun k_ hk => trivial))).2.1 (Kd.N_F (Kd.N_mono (ok' := (fun _ => True)) (HO198.out) (fun k_ hk => trivial))))) (Reps.none _ _)))); intro v200 w15 ho16 hb hg_ hnew_; clear hg_ hnew_; (first | rw [← Ny199.out] at ho16 | (simp only [Int.reduceToNat] at ho16; rw [← Ny199.out] at ho16)); have n0_ := A0_ (Kd.N_lower ho16 (below_size (wb_ HB.out))); have n1_ := A0_ (below_step (wb_ HB.out) hb); clear HB; clear HO195; clear HO198; have HO201 := n0_; have HB := n1_; clear n0_ n1_; clear hb ho16; obtain ⟨Ao17, co17, eo17⟩ := Kd.N_slice HO201.out; subst eo17) | ((with_reducible refine gate_callee (f := 23) rfl ?_); refine goesL_ (some 14) rfl rfl Tryd.func23 (by kernel_rfl) rfl #[.slice Ao17 y199.length co17] rfl wm_ ?_; (with_reducible refine (union_Union.calls _ _ y199 t202 t205 _ ?side1 ?side2 ?side3 A1.out).mono ?_); (case side1 => exact A0_ (Tabs.below hT.out (wb_ HB.out))); (case side2 => exact wc_ (Kd.N_reads' HO201.out).2.2); (case side3 => exact (Kd.N_reads' HO201.out).2.1); rintro e w18 ⟨v203, rfl, ho0, hb⟩; refine ⟨_, rfl, ?_⟩; have n0_ := A0_ (Kd.N_below (wN_ HO201.out) hb); have n1_ := A0_ (Kd.V_lower (Kd.V_mono (ok' := fun k_ => some k_ ≠ (.slice Ao17 y199.length co17 : Value).ownBlock) ho0 (fun k_ hk_ => (Kd.fresh' (Kd.N_lt (wN_ HO201.out)) k_ hk_))) (below_size (wb_ HB.out))); have n2_ := A0_ (below_step (wb_ HB.out) hb); clear HO201; clear HB; have HO201 := n0_; have HO204 := n1_; have HB := n2_; clear n0_ n1_ n2_; (try clear hb); (try clear hb2); (try clear hk); (try clear hi); (try clear ho0)) | ((with_reducible refine gate_dst (N := 19) rfl ?_); (try (refine gate_guard (by rfl) ?_; dsimp only)); refine Kd.N_lit k38 _ 38 ?hg (N' := 19) ?hd (xs := ([(⟨(⟨#[]⟩ : ByteArray), (⟨#[]⟩ : ByteArray), (⟨#[]⟩ : ByteArray), 0, (⟨0, 0, 0, 0⟩ : S24), ([] : List Int)⟩ : S38)] : List (S38))) (inner := [.string (⟨#[]⟩ : ByteArray), .string (⟨#[]⟩ : ByteArray), .string (⟨#[]⟩ : ByteArray), .int .u8 0, .int .i64 0, .int .i64 0, .int .i64 0, .int .i64 0, .slice none 0 0]) (ok := (fun k_ => some k_ ≠ (.slice Ao17 y199.length co17 : Value).ownBlock)) (okp := (fun k_ => some k_ ≠ (.slice Ao17 y199.length co17 : Value).ownBlock)) ?hr ?hp (fun _ hk => hk) ((show ∀ k_, w18.heap.size ≤ k_ → (fun k_ => some k_ ≠ (.slice Ao17 y199.length co17 : Value).ownBlock) k_ from fun k_ hk => Kd.fresh' (Kd.N_lt (wN_ HO201.out)) k_ hk) _ (Nat.le_refl _)) (Below.refl _ _) (Nat.le_refl _) (by simp) ?_; (case hd => rfl); (case hg => rfl); (case hr => first | (go_simp; done) | (go_simp; rfl)); (case hp => exact (Reps.c9 (show Kd.FK k38 _ _ (⟨(⟨#[]⟩ : ByteArray), (⟨#[]⟩ : ByteArray), (⟨#[]⟩ : ByteArray), 0, (⟨0, 0, 0, 0⟩ : S24), ([] : List Int)⟩ : S38) [.string (⟨#[]⟩ : ByteArray), .string (⟨#[]⟩ : ByteArray), .string (⟨#[]⟩ : ByteArray), .int .u8 0, .int .i64 0, .int .i64 0, .int .i64 0, .int .i64 0, .slice none 0 0] from (k38_mkF _ _ (⟨(⟨#[]⟩ : ByteArray), (⟨#[]⟩ : ByteArray), (⟨#[]⟩ : ByteArray), 0, (⟨0, 0, 0, 0⟩ : S24), ([] : List Int)⟩ : S38) (Nat.le_refl _) (Kd.F_nil _ _ _))) (Reps.none _ _))); intro v207 w19 ho20 hb hg_ hnew_; clear hg_ hnew_; (first | rw [← Ny206.out] at ho20 | (simp only [Int.reduceToNat] at ho20; rw [← Ny206.out] at ho20)); have n0_ := A0_ (Kd.N_elder' (wN_ HO201.out) (Kd.N_base ho20) hb); have n1_ := A0_ (Kd.V_elder' (wV_ HO204.out) (Kd.N_base ho20) hb); have n2_ := A0_ (Kd.N_lower ho20 (below_size (wb_ HB.out))); have n3_ := A0_ (below_step (wb_ HB.out) hb); clear HO201; clear HO204; clear HB; have HO201 := n0_; have HO204 := n1_; have HO208 := n2_; have HB := n3_; clear n0_ n1_ n2_ n3_; clear hb ho20; obtain ⟨Ao21, co21, eo21⟩ := Kd.N_slice HO208.out; subst eo21) | ((with_reducible refine gate_dst (N := 20) rfl ?_); (try (refine gate_guard (by rfl) ?_; dsimp only)); refine Kd.N_lit (Kd.slice 38 k38) _ 31 ?hg (N' := 20) ?hd (xs := ([y206] : List (List (S38)))) (inner := [.slice Ao21 y206.length co21]) (ok := (fun k_ => some k_ ≠ (.slice Ao17 y199.length co17 : Value).ownBlock)) (okp := (fun k_ => some k_ ≠ (.slice Ao17 y199.length co17 : Value).ownBlock)) ?hr ?hp (fun _ hk => hk) ((show ∀ k_, w19.heap.size ≤ k_ → (fun k_ => some k_ ≠ (.slice Ao17 y199.length co17 : Value).ownBlock) k_ from fun k_ hk => Kd.fresh' (Kd.N_lt (wN_ HO201.out)) k_ hk) _ (Nat.le_refl _)) (Below.refl _ _) (Nat.le_refl _) (by simp) ?_; (case hd => rfl); (case hg => rfl); (case hr => first | (go_simp; done) | (go_simp; rfl)); (case hp => exact (Reps.one (show Kd.FK (Kd.slice 38 k38) _ _ y206 [.slice Ao21 y206.length co21] from (Kd.FK_slice_mk (Kd.N_reads' (Kd.N_mono (ok' := (fun k_ => some k_ ≠ (.slice Ao17 y199.length co17 : Value).ownBlock)) (HO208.out) (fun k_ hk => hk))).2.1 (Kd.N_F (Kd.N_mono (ok' := (fun k_ => some k_ ≠ (.slice Ao17 y199.length co17 : Value).ownBlock)) (HO208.out) (fun k_ hk => hk))))) (Reps.none _ _))); intro v210 w22 ho23 hb hg_ hnew_; clear hg_ hnew_; (first | rw [← Ny209.out] at ho23 | (simp only [Int.reduceToNat] at ho23; rw [← Ny209.out] at ho23)); have n0_ := A0_ (Kd.N_elder' (wN_ HO201.out) (Kd.N_base ho23) hb); have n1_ := A0_ (Kd.V_elder' (wV_ HO204.out) (Kd.N_base ho23) hb); have n2_ := A0_ (Kd.N_lower ho23 (below_size (wb_ HB.out))); have n3_ := A0_ (below_step (wb_ HB.out) hb); clear HO201; clear HO204; clear HB; clear HO208; have HO201 := n0_; have HO204 := n1_; have HO211 := n2_; have HB := n3_; clear n0_ n1_ n2_ n3_; clear hb ho23; obtain ⟨Ao24, co24, eo24⟩ := Kd.N_slice HO211.out; subst eo24) | ((with_reducible refine gate_callee (f := 23) rfl ?_); refine goesL_ (some 21) rfl rfl Tryd.func23 (by kernel_rfl) rfl #[.slice Ao24 y209.length co24] rfl wm_ ?_; (with_reducible refine (union_Union.calls _ _ y209 t212 t215 _ ?side1 ?side2 ?side3 A2.out).mono ?_); (case side1 => exact A0_ (Tabs.below hT.out (wb_ HB.out))); (case side2 => exact wc_ (Kd.N_reads' HO211.out).2.2); (case side3 => exact (Kd.N_reads' HO211.out).2.1); rintro e w25 ⟨v213, rfl, ho0, hb⟩; refine ⟨_, rfl, ?_⟩; have n0_ := A0_ (Kd.N_below (wN_ HO201.out) hb); have n1_ := A0_ (Vb_ (wV_ HO204.out) hb); have n2_ := A0_ (Kd.N_below (wN_ HO211.out) hb); have n3_ := A0_ (Kd.V_lower (Kd.V_mono (ok' := fun k_ => some k_ ≠ (.slice Ao17 y199.length co17 : Value).ownBlock ∧ some k_ ≠ (.slice Ao24 y209.length co24 : Value).ownBlock) ho0 (fun k_ hk_ => ⟨(Kd.fresh' (Kd.N_lt (wN_ HO201.out)) k_ hk_), (Kd.fresh' (Kd.N_lt (wN_ HO211.out)) k_ hk_)⟩)) (below_size (wb_ HB.out))); have n4_ := A0_ (below_step (wb_ HB.out) hb); clear HO201; clear HO204; clear HO211; clear HB; have HO201 := n0_; have HO204 := n1_; have HO211 := n2_; have HO214 := n3_; have HB := n4_; clear n0_ n1_ n2_ n3_ n4_; (try clear hb); (try clear hb2); (try clear hk); (try clear hi); (try clear ho0); obtain ⟨Ao26, co26, eo26⟩ := Kd.V_slice HO204.out; subst eo26; have p216 : 0 ≤ (0 : Int) := (by omega); have q216 : 0 < (t202.length : Int) := wd_; obtain ⟨ad216, A216_8, c216_8, e216, hx216_0, hx216_1, hx216_2, hx216_3, hx216_4, hx216_5, hx216_6, hx216_7, hx216_8, hl216_8, hi216_8⟩ := at_T38 (Kd.V_reads' HO204.out).2.2 0 p216 q216; cases e216; obtain ⟨ce216, hce216, hMe216, hcc216⟩ := Kd.V_get HO204.out z38 0 p216 (by first | exact q216 | exact wd_ | (have e_ := (Kd.V_reads' HO204.out).1; omega)); obtain ⟨ua216_8, uc216_8, rfl, ul216_8, ge216_8⟩ := k38_openF hMe216; have hv216_8 := hcc216 8 _ rfl; rw [add_field _ _ 8 (by omega)] at hv216_8; replace hv216_8 := Option.some.inj (hv216_8.symm.trans hx216_8); injection hv216_8 with hva_ hvn_ hvc_; rw [hva_] at ge216_8; rw [hvc_] at ul216_8; have HL216_8 := A0_ (show Kd.V (Kd.int .u8) 5 _ w.heap.size _ _ ((rd_T38 t202 0).f5) from Kd.V_mk ul216_8 ge216_8); clear hva_ hvn_ hvc_ ge216_8 ul216_8; clear hcc216 hce216; have qi216 : (0 < t202.length) = True := eq_true (by omega); (try rw [show ((0 : Int)).toNat = 0 from rfl] at hx216_0); (try rw [show 0 * 9 = 0 from rfl] at hx216_0); (try rw [Addr.add_zero'] at hx216_0); (try rw [show ((0 : Int)).toNat = 0 from rfl] at hx216_1); (try rw [show 0 * 9 = 0 from rfl] at hx216_1); (try rw [Addr.add_zero'] at hx216_1); (try rw [show ((0 : Int)).toNat = 0 from rfl] at hx216_2); (try rw [show 0 * 9 = 0 from rfl] at hx216_2); (try rw [Addr.add_zero'] at hx216_2); (try rw [show ((0 : Int)).toNat = 0 from rfl] at hx216_3); (try rw [show 0 * 9 = 0 from rfl] at hx216_3); (try rw [Addr.add_zero'] at hx216_3); (try rw [show ((0 : Int)).toNat = 0 from rfl] at hx216_4); (try rw [show 0 * 9 = 0 from rfl] at hx216_4); (try rw [Addr.add_zero'] at hx216_4); (try rw [show ((0 : Int)).toNat = 0 from rfl] at hx216_5); (try rw [show 0 * 9 = 0 from rfl] at hx216_5); (try rw [Addr.add_zero'] at hx216_5); (try rw [show ((0 : Int)).toNat = 0 from rfl] at hx216_6); (try rw [show 0 * 9 = 0 from rfl] at hx216_6); (try rw [Addr.add_zero'] at hx216_6); (try rw [show ((0 : Int)).toNat = 0 from rfl] at hx216_7); (try rw [show 0 * 9 = 0 from rfl] at hx216_7); (try rw [Addr.add_zero'] at hx216_7); (try rw [show ((0 : Int)).toNat = 0 from rfl] at hx216_8); (try rw [show 0 * 9 = 0 from rfl] at hx216_8); (try rw [Addr.add_zero'] at hx216_8); have HR216_8 := A0_ hi216_8; have HC216_8 := A0_ hl216_8; clear hi216_8 hl216_8; replace p216 := eq_true p216; replace q216 := eq_true q216; have p217 : 0 ≤ (1 : Int) := (by omega); have q217 : 1 < (t202.length : Int) := wd_; obtain ⟨ad217, A217_8, c217_8, e217, hx217_0, hx217_1, hx217_2, hx217_3, hx217_4, hx217_5, hx217_6, hx217_7, hx217_8, hl217_8, hi217_8⟩ := at_T38 (Kd.V_reads' HO204.out).2.2 1 p217 q217; obtain rfl : ad216 = ad217 := (by injection e217); obtain ⟨ce217, hce217, hMe217, hcc217⟩ := Kd.V_get HO204.out z38 1 p217 (by first | exact q217 | exact wd_ | (have e_ := (Kd.V_reads' HO204.out).1; omega)); obtain ⟨ua217_8, uc217_8, rfl, ul217_8, ge217_8⟩ := k38_openF hMe217; have hv217_8 := hcc217 8 _ rfl; rw [add_field _ _ 8 (by omega)] at hv217_8; replace hv217_8 := Option.some.inj (hv217_8.symm.trans hx217_8); injection hv217_8 with hva_ hvn_ hvc_; rw [hva_] at ge217_8; rw [hvc_] at ul217_8; have HL217_8 := A0_ (show Kd.V (Kd.int .u8) 5 _ w.heap.size _ _ ((rd_T38 t202 1).f5) from Kd.V_mk ul217_8 ge217_8); clear hva_ hvn_ hvc_ ge217_8 ul217_8; clear hcc217 hce217; (try simp only [one_n, Nat.reduceMul, Nat.reduceEqDiff, Go.Addr.add, ↓reduceIte] at hx217_0); (try simp only [one_n, Nat.reduceMul, Nat.reduceEqDiff, Go.Addr.add, ↓reduceIte] at hx217_1); (try simp only [one_n, Nat.reduceMul, Nat.reduceEqDiff, Go.Addr.add, ↓reduceIte] at hx217_2); (try simp only [one_n, Nat.reduceMul, Nat.reduceEqDiff, Go.Addr.add, ↓reduceIte] at hx217_3); (try simp only [one_n, Nat.reduceMul, Nat.reduceEqDiff, Go.Addr.add, ↓reduceIte] at hx217_4); (try simp only [one_n, Nat.reduceMul, Nat.reduceEqDiff, Go.Addr.add, ↓reduceIte] at hx217_5); (try simp only [one_n, Nat.reduceMul, Nat.reduceEqDiff, Go.Addr.add, ↓reduceIte] at hx217_6); (try simp only [one_n, Nat.reduceMul, Nat.reduceEqDiff, Go.Addr.add, ↓reduceIte] at hx217_7); (try simp only [one_n, Nat.reduceMul, Nat.reduceEqDiff, Go.Addr.add, ↓reduceIte] at hx217_8); have qi217 : (1 < t202.length) = True := eq_true (by omega); (try rw [show ((1 : Int)).toNat = 1 from rfl] at hx217_0); (try rw [show 1 * 9 = 9 from rfl] at hx217_0); (try rw [show ((1 : Int)).toNat = 1 from rfl] at hx217_1); (try rw [show 1 * 9 = 9 from rfl] at hx217_1); (try rw [show ((1 : Int)).toNat = 1 from rfl] at hx217_2); (try rw [show 1 * 9 = 9 from rfl] at hx217_2); (try rw [show ((1 : Int)).toNat = 1 from rfl] at hx217_3); (try rw [show 1 * 9 = 9 from rfl] at hx217_3); (try rw [show ((1 : Int)).toNat = 1 from rfl] at hx217_4); (try rw [show 1 * 9 = 9 from rfl] at hx217_4); (try rw [show ((1 : Int)).toNat = 1 from rfl] at hx217_5); (try rw [show 1 * 9 = 9 from rfl] at hx217_5); (try rw [show ((1 : Int)).toNat = 1 from rfl] at hx217_6); (try rw [show 1 * 9 = 9 from rfl] at hx217_6); (try rw [show ((1 : Int)).toNat = 1 from rfl] at hx217_7); (try rw [show 1 * 9 = 9 from rfl] at hx217_7); (try rw [show ((1 : Int)).toNat = 1 from rfl] at hx217_8); (try rw [show 1 * 9 = 9 from rfl] at hx217_8); have HR217_8 := A0_ hi217_8; have HC217_8 := A0_ hl217_8; clear hi217_8 hl217_8; replace p217 := eq_true p217; replace q217 := eq_true q217))
 go_ret
 exact ⟨we_, wb_ HB.out⟩
end Go.Proofs.YtfmphccoeinhcaaDoor.Print

namespace Go.Proofs.YtfmphccoeinhcaaDoor.Print
open Go.RowKit Go.Proofs.YtfmphccoeinhcaaDoorW.PrintWords Go.Proofs.YtfmphccoeinhcaaDoorW.PrintLast Go.Proofs.YtfmphccoeinhcaaDoorW.PrintMore
attribute [local go_sem] max2_int min2_int max_two min_two max_three min_three max_four min_four   -- for this text's walks alone
set_option linter.unusedVariables false
set_option linter.unusedSimpArgs false
end Go.Proofs.YtfmphccoeinhcaaDoor.Print

namespace Go.Proofs.YtfmphccoeinhcaaDoor
open Go.RowKit Go.Proofs.YtfmphccoeinhcaaDoor.Print Go.Proofs.YtfmphccoeinhcaaDoorW.PrintWords
set_option linter.unusedVariables false
theorem uokl_z {ls : List (List Node)} (h : OkL ls) (hz : ∀ t ∈ ls, ∀ x ∈ t, NodeZ x) : ∀ t ∈ ls, TreeZ t ∧ t.length ≤ 60 := fun t ht => by
 obtain ⟨h1, h2⟩ := h t ht
 refine ⟨treeZ_of (by omega) (fun x hx => ?_), h1⟩
 have h3 := h2 x hx
 have h4 : szN x = x.f5.length + x.f0.size + x.f1.size := rfl
 exact ⟨hz t ht x hx, by omega, by omega⟩
theorem urgood_f {l : List Node} (h : TreeZ l) : bindleref08_GoodTree.f l = some (goodTree l) := by
 unfold bindleref08_GoodTree.f
 rw [if_pos ((nodesZ_iff l).2 h.2.1)]
theorem uunion_f {ls : List (List Node)} (hl : ls.length ≤ 10000) (h : ∀ t ∈ ls, TreeZ t) : union_Union.f ls = some (unionF ls) := by
 unfold union_Union.f
 rw [if_pos ((treesZB_iff ls).2 ⟨hl, h⟩)]
theorem mem2 {P : List Node → Prop} {a b : List Node} (ha : P a) (hb : P b) : ∀ t ∈ [a, b], P t := fun t ht => by
 rcases List.mem_cons.1 ht with rfl | ht
 ·exact ha
 ·rw [List.mem_singleton] at ht; rw [ht]; exact hb
end Go.Proofs.YtfmphccoeinhcaaDoor

namespace Go.Proofs.YtfmphccoeinhcaaDoor
open Go.RowKit Go.Proofs.YtfmphccoeinhcaaDoor.Print Go.Proofs.YtfmphccoeinhcaaDoorW.PrintWords
set_option linter.unusedVariables false
def pickN (a b : List Node) (p : ByteArray) : Node := match findF b p with
  | some y => y
  | none => (findF a p).getD z38
structure ClsCond (a b t : List Node) : Prop where
  la : a.length ≤ 100000
  lb : b.length ≤ 100000
  lt : t.length ≤ 100000
  law : ∀ x ∈ t, ∀ y ∈ t, x.f3 = 48 → y.f3 = 48 → (x.f2 = y.f2 ↔ (findF b x.f0).isSome = (findF b y.f0).isSome ∧ (pickN a b x.f0).f2 = (pickN a b y.f0).f2)
theorem cls_law {a b : List Node} (ga : goodTree a = true) (gb : goodTree b = true) (hl : a.length + b.length ≤ 4096) {x y : Node} (hx : x ∈ (unionF [a, b]).1) (hy : y ∈ (unionF [a, b]).1) (h48 : x.f3 = 48) (h48' : y.f3 = 48) :
    (x.f2 = y.f2 ↔ (findF b x.f0).isSome = (findF b y.f0).isSome ∧ (pickN a b x.f0).f2 = (pickN a b y.f0).f2) := by
  have h := (union_two ga gb hl).2
  have hr := (good_parts h.good).1
  have src : ∀ z ∈ (unionF [a, b]).1, ∃ k n, joinS (srcT a) (srcT b) z.f0 = some (k, n) ∧ n.f3 = z.f3 ∧ (pickN a b z.f0) = n ∧ (((findF b z.f0).isSome = true ∧ k = .inr n.f2) ∨ ((findF b z.f0).isSome = false ∧ k = .inl n.f2)) := by
    intro z hz
    have hf := findF_here hr hz
    cases hb : findF b z.f0 with
    | some n =>
      have hj : joinS (srcT a) (srcT b) z.f0 = some (.inr n.f2, n) := by unfold joinS srcT; rw [hb]; rfl
      obtain ⟨w, hw, he⟩ := h.yes _ _ _ hj
      rw [hf] at hw
      cases hw
      exact ⟨_, n, hj, ((equalB_iff.1 he).2.2.1).symm, by unfold pickN; rw [hb], .inl ⟨rfl, rfl⟩⟩
    | none =>
      cases ha : findF a z.f0 with
      | some n =>
        have hj : joinS (srcT a) (srcT b) z.f0 = some (.inl n.f2, n) := by unfold joinS srcT; rw [hb, ha]; rfl
        obtain ⟨w, hw, he⟩ := h.yes _ _ _ hj
        rw [hf] at hw
        cases hw
        exact ⟨_, n, hj, ((equalB_iff.1 he).2.2.1).symm, by unfold pickN; rw [hb, ha]; rfl, .inr ⟨rfl, rfl⟩⟩
      | none =>
        have hj : joinS (srcT a) (srcT b) z.f0 = none := by unfold joinS srcT; rw [hb, ha]; rfl
        have := h.no _ hj
        rw [hf] at this
        cases this
  obtain ⟨k, n, j1, n3, np, nk⟩ := src x hx
  obtain ⟨l, m, i1, m3, mp, mk⟩ := src y hy
  rw [h.cls x.f0 y.f0 k l n m x y j1 i1 (findF_here hr hx) (findF_here hr hy) (n3.trans h48) (m3.trans h48'), np, mp]
  rcases nk with ⟨b1, rfl⟩ | ⟨b1, rfl⟩ <;> rcases mk with ⟨b2, rfl⟩ | ⟨b2, rfl⟩ <;> rw [b1, b2] <;> simp
theorem cls_cond {a b : List Node} (ga : goodTree a = true) (gb : goodTree b = true) (hl : a.length + b.length ≤ 4096) : ClsCond a b (unionF [a, b]).1 :=
  ⟨by omega, by omega, by have := (good_parts (union_two ga gb hl).2.good).2.2.1; omega, fun x hx y hy h1 h2 => cls_law ga gb hl hx hy h1 h2⟩
structure CMid (W : World) (a b t : List Node) (A0 : Option Addr) (A1 : Option Addr) (A5 : Option Addr) (wx : World) : Prop where
  B : Below W.heap.size W wx
  A : Kd.C k38 wx A0 a.length a
  Bb : Kd.C k38 wx A1 b.length b
  T : Kd.C k38 wx A5 t.length t
theorem CMid.below {W a b t A0 A1 A5 wx wy} (h : CMid W a b t A0 A1 A5 wx) (hb : Below wx.heap.size wx wy) : CMid W a b t A0 A1 A5 wy :=
  ⟨h.B.trans (hb.mono h.B.size), Kd.C_below h.A hb, Kd.C_below h.Bb hb, Kd.C_below h.T hb⟩
def CRel (W : World) (a b t : List Node) (A0 A1 A5 : Option Addr) (n : Int) (wr : World) : Prop := 0 ≤ n ∧ n ≤ t.length ∧ CMid W a b t A0 A1 A5 wr
def nbox (w : World) (g : Nat) (x : Node) (v : Value) : Prop := w.heap[g]? = some (.cells #[.string x.f0, .string x.f1, .string x.f2, .int .u8 x.f3, .int .i64 x.f4.f0, .int .i64 x.f4.f1, .int .i64 x.f4.f2, .int .i64 x.f4.f3, v] 38 (0, 0))
theorem nbox_lt {w : World} {g : Nat} {x : Node} {v : Value} (h : nbox w g x v) : g < w.heap.size := (Array.getElem?_eq_some_iff.1 h).1
theorem nbox.below {w w1 : World} {g : Nat} {x : Node} {v : Value} (h : nbox w g x v) (hb : Below w.heap.size w w1) : nbox w1 g x v := (hb.block _ (nbox_lt h)).trans h
theorem nbox_cells {w : World} {g : Nat} {x : Node} {v : Value} (h : nbox w g x v) : w.cell? ⟨g, 0, none⟩ = some (.string x.f0) ∧ w.cell? ⟨g, 1, none⟩ = some (.string x.f1) ∧ w.cell? ⟨g, 2, none⟩ = some (.string x.f2) ∧ w.cell? ⟨g, 3, none⟩ = some (.int .u8 x.f3) ∧ w.cell? ⟨g, 4, none⟩ = some (.int .i64 x.f4.f0) ∧ w.cell? ⟨g, 5, none⟩ = some (.int .i64 x.f4.f1) ∧ w.cell? ⟨g, 6, none⟩ = some (.int .i64 x.f4.f2) ∧ w.cell? ⟨g, 7, none⟩ = some (.int .i64 x.f4.f3) ∧ w.cell? ⟨g, 8, none⟩ = some v := by
  unfold nbox at h
  refine ⟨?_, ?_, ?_, ?_, ?_, ?_, ?_, ?_, ?_⟩ <;> · unfold World.cell?; dsimp only; rw [h]; rfl
theorem nbox_soft {w : World} {g : Nat} {x : Node} {v : Value} (h : nbox w g x v) (j : Nat) : w.frozen? ⟨g, j, none⟩ = false := by
  unfold nbox at h
  unfold World.frozen?
  dsimp only
  rw [h]
  rfl
theorem nbox_far {w : World} {g g' : Nat} {x : Node} {v : Value} (h : nbox w g x v) (hne : g ≠ g') (j : Nat) (u : Value) : nbox (w.setCell ⟨g', j, none⟩ u) g x v := by
  unfold nbox at h ⊢
  rw [← h]
  have hne' : g' ≠ g := fun e => hne e.symm
  simp [World.setCell, Array.getElem?_modify, hne']
theorem nbox.put {w : World} {g g' : Nat} {x y : Node} {v u : Value} (h : nbox w g x v) (hne : g ≠ g') : nbox (putNode w g' y u) g x v := by
  unfold putNode
  repeat (refine nbox_far ?_ hne _ _)
  exact h
theorem nbox.puts {w : World} {g : Nat} {x : Node} {v : Value} (h : nbox w g x v) (y : Node) (u : Value) : nbox (putNode w g y u) g y u := by
  unfold nbox at h
  have h0 := blk_put (cs' := #[.string y.f0, .string x.f1, .string x.f2, .int .u8 x.f3, .int .i64 x.f4.f0, .int .i64 x.f4.f1, .int .i64 x.f4.f2, .int .i64 x.f4.f3, v]) h 0 (.string y.f0) rfl
  have h1 := blk_put (cs' := #[.string y.f0, .string y.f1, .string x.f2, .int .u8 x.f3, .int .i64 x.f4.f0, .int .i64 x.f4.f1, .int .i64 x.f4.f2, .int .i64 x.f4.f3, v]) h0 1 (.string y.f1) rfl
  have h2 := blk_put (cs' := #[.string y.f0, .string y.f1, .string y.f2, .int .u8 x.f3, .int .i64 x.f4.f0, .int .i64 x.f4.f1, .int .i64 x.f4.f2, .int .i64 x.f4.f3, v]) h1 2 (.string y.f2) rfl
  have h3 := blk_put (cs' := #[.string y.f0, .string y.f1, .string y.f2, .int .u8 y.f3, .int .i64 x.f4.f0, .int .i64 x.f4.f1, .int .i64 x.f4.f2, .int .i64 x.f4.f3, v]) h2 3 (.int .u8 y.f3) rfl
  have h4 := blk_put (cs' := #[.string y.f0, .string y.f1, .string y.f2, .int .u8 y.f3, .int .i64 y.f4.f0, .int .i64 x.f4.f1, .int .i64 x.f4.f2, .int .i64 x.f4.f3, v]) h3 4 (.int .i64 y.f4.f0) rfl
  have h5 := blk_put (cs' := #[.string y.f0, .string y.f1, .string y.f2, .int .u8 y.f3, .int .i64 y.f4.f0, .int .i64 y.f4.f1, .int .i64 x.f4.f2, .int .i64 x.f4.f3, v]) h4 5 (.int .i64 y.f4.f1) rfl
  have h6 := blk_put (cs' := #[.string y.f0, .string y.f1, .string y.f2, .int .u8 y.f3, .int .i64 y.f4.f0, .int .i64 y.f4.f1, .int .i64 y.f4.f2, .int .i64 x.f4.f3, v]) h5 6 (.int .i64 y.f4.f2) rfl
  have h7 := blk_put (cs' := #[.string y.f0, .string y.f1, .string y.f2, .int .u8 y.f3, .int .i64 y.f4.f0, .int .i64 y.f4.f1, .int .i64 y.f4.f2, .int .i64 y.f4.f3, v]) h6 7 (.int .i64 y.f4.f3) rfl
  exact blk_put (cs' := #[.string y.f0, .string y.f1, .string y.f2, .int .u8 y.f3, .int .i64 y.f4.f0, .int .i64 y.f4.f1, .int .i64 y.f4.f2, .int .i64 y.f4.f3, u]) h7 8 u rfl
def FindIs (l : List Node) (p : ByteArray) (y : Node) (b : Bool) : Prop := (findF l p = some y ∧ b = true) ∨ (findF l p = none ∧ y = z38 ∧ b = false)
def CFindPost (l : List Node) (p : ByteArray) (W : World) (e : Ending) (W' : World) : Prop := ∃ y b A c, FindIs l p y b ∧ e = .returned (.tuple #[.agg #[.string y.f0, .string y.f1, .string y.f2, .int .u8 y.f3, .int .i64 y.f4.f0, .int .i64 y.f4.f1, .int .i64 y.f4.f2, .int .i64 y.f4.f3, .slice A y.f5.length c], .bool b]) ∧ Below W.heap.size W W'
theorem CFind (A0 : Option Addr) (c0 : Nat) (l : List Node) (p : ByteArray) (W : World) (hC : Kd.C k38 W A0 l.length l) (hc : l.length ≤ c0) (hlen : l.length ≤ 100000) : Calls Tryd.prog 19 #[.slice A0 l.length c0, .string p] W (CFindPost l p W) := by
  refine (RefFind_calls A0 c0 l p W hC hc (by omega)).mono ?_
  rintro e w' ⟨x, b, A, c, h1, h2, h3, h4, h5⟩
  refine ⟨x, b, A, c, ?_, h2, h5⟩
  cases hf : findF l p with
  | some z => rw [hf] at h1; exact .inl ⟨hf.trans (by rw [h1.1]), h1.2⟩
  | none => rw [hf] at h1; exact .inr ⟨hf, h1⟩
theorem pick_hit {a b : List Node} {p : ByteArray} {y : Node} (h : FindIs b p y true) : pickN a b p = y := by
  rcases h with ⟨h, _⟩ | ⟨_, _, h⟩
  · unfold pickN; rw [h]
  · cases h
theorem pick_miss {a b : List Node} {p : ByteArray} {y z : Node} {q : Bool} (h : FindIs b p y false) (hz : FindIs a p z q) : pickN a b p = z := by
  rcases h with ⟨_, h⟩ | ⟨h, _, _⟩
  · cases h
  · rcases hz with ⟨g, _⟩ | ⟨g, g2, _⟩
    · unfold pickN; rw [h, g]; rfl
    · unfold pickN; rw [h, g, g2]; rfl
theorem find_some {b : List Node} {p : ByteArray} {y : Node} {q : Bool} (h : FindIs b p y q) : (findF b p).isSome = q := by
  rcases h with ⟨h, rfl⟩ | ⟨h, _, rfl⟩ <;> rw [h] <;> rfl
structure CB1 (w0 : World) (g h : Nat) (x : Node) (v : Value) (y : Node) (u : Value) (wx : World) : Prop where
  B : Below w0.heap.size w0 wx
  X : nbox wx g x v
  Y : nbox wx h y u
theorem CB1.below {w0 g h x v y u w w'} (H : CB1 w0 g h x v y u w) (hb : Below w.heap.size w w') : CB1 w0 g h x v y u w' := ⟨H.B.trans (hb.mono H.B.size), H.X.below hb, H.Y.below hb⟩
theorem CB1.putX {w0 g h x v y u w} (H : CB1 w0 g h x v y u w) (hg : w0.heap.size ≤ g) (hne : g ≠ h) (z : Node) (s : Value) : CB1 w0 g h z s y u (putNode w g z s) := ⟨below_putNode H.B g hg z s, H.X.puts z s, H.Y.put hne.symm⟩
theorem CB1.putY {w0 g h x v y u w} (H : CB1 w0 g h x v y u w) (hg : w0.heap.size ≤ h) (hne : g ≠ h) (z : Node) (s : Value) : CB1 w0 g h x v z s (putNode w h z s) := ⟨below_putNode H.B h hg z s, H.X.put hne, H.Y.puts z s⟩
end Go.Proofs.YtfmphccoeinhcaaDoor
namespace Go.Proofs.YtfmphccoeinhcaaDoor.Print
open Go.RowKit Go.Proofs.YtfmphccoeinhcaaDoorW.PrintWords Go.Proofs.YtfmphccoeinhcaaDoorW.PrintLast Go.Proofs.YtfmphccoeinhcaaDoorW.PrintMore
attribute [local go_sem] max2_int min2_int max_two min_two max_three min_three max_four min_four   -- for this text's walks alone
open Go.Proofs.YtfmphccoeinhcaaDoor
set_option linter.unusedVariables false
set_option linter.unusedSimpArgs false
open Classical in
noncomputable def bindlelaw19_UnionClasses.l0 (a b t : List S38) : Option Bool := if ClsCond a b t then some true else none
noncomputable def bindlelaw19_UnionClasses.j0 : Nat → List S38 → List S38 → Bool → Option Bool
  | 0, _, _, _ => none
  | k + 1, x0, x1, x => if x = true then ((bindlelaw19_answers.f).bind fun t343 => (some t343)) else ((union_Union.f (([x0, x1] : List (List S38)))).bind fun bt347 => (bindlelaw19_UnionClasses.l0 x0 x1 bt347.1))
noncomputable def bindlelaw19_UnionClasses.f (k : Nat) (l0 : List S38) (l1 : List S38) : Option Bool := (bindlelaw19_light.f k (([l0, l1] : List (List S38)))).bind fun t340 => (if t340 = true then ((bindleref08_GoodTree.f l0).bind fun t341 => (if t341 = true then ((bindleref08_GoodTree.f l1).bind fun t342 => (bindlelaw19_UnionClasses.j0 k l0 l1 (!t342))) else (bindlelaw19_UnionClasses.j0 k l0 l1 true))) else (bindlelaw19_UnionClasses.j0 k l0 l1 true))
set_option maxHeartbeats 8000000 in
set_option maxRecDepth 100000 in
theorem bindlelaw19_UnionClasses.calls (k : Nat) (P0_ : Nat → Prop) (A0 : Option Addr) (c0 : Nat) (l0 : List (S38)) (P1_ : Nat → Prop) (A1 : Option Addr) (c1 : Nat) (l1 : List (S38)) (r : Bool) (w : World) (hT : Aside0 (Tabs w)) (hs0 : Kd.V k38 38 w w.heap.size (fun k_ => P0_ k_) (.slice A0 l0.length c0) l0) (hs1 : Kd.V k38 38 w w.heap.size (fun k_ => P1_ k_) (.slice A1 l1.length c1) l1) (h : bindlelaw19_UnionClasses.f k l0 l1 = some r) :
  Calls Tryd.prog 7 #[.slice A0 l0.length c0, .slice A1 l1.length c1] w fun e w' => e = .returned (.bool r) ∧ Below w.heap.size w w' := by
 have hu38 := Tryd.underlying38
 have HO0 := A0_ (show Kd.V k38 38 w w.heap.size (fun k_ => ((P0_ k_ ∨ P1_ k_) ∨ w.heap.size ≤ k_)) (.slice A0 l0.length c0) l0 from Kd.V_mono hs0 (fun k_ hk => .inl (.inl hk)))
 have HO1 := A0_ (show Kd.V k38 38 w w.heap.size (fun k_ => ((P0_ k_ ∨ P1_ k_) ∨ w.heap.size ≤ k_)) (.slice A1 l1.length c1) l1 from Kd.V_mono hs1 (fun k_ hk => .inl (.inr hk)))
 have HB := A0_ (Below.refl w.heap.size w)
 have H : ((bindlelaw19_light.f k (([l0, l1] : List (List (S38))))).bind fun t340 => (if t340 = true then ((bindleref08_GoodTree.f l0).bind fun t341 => (if t341 = true then ((bindleref08_GoodTree.f l1).bind fun t342 => (bindlelaw19_UnionClasses.j0 k l0 l1 (!t342))) else (bindlelaw19_UnionClasses.j0 k l0 l1 true))) else (bindlelaw19_UnionClasses.j0 k l0 l1 true))) = some r := h
 clear h
 have HC3 := A0_ H
 clear H
 go_enter Tryd.func7, Tryd.ntmps7
 go_upto_region 1 with (fail)
 go_cut [28] (fun v30 wc => ∃ (kq : Nat) (x30_2 : Bool), v30 = .bool x30_2 ∧ Aside0 (bindlelaw19_UnionClasses.j0 kq l0 l1 x30_2 = some r) ∧ Aside0 (kq ≤ k) ∧ Aside0 (Kd.V k38 38 wc w.heap.size (fun k_ => ((P0_ k_ ∨ P1_ k_) ∨ w.heap.size ≤ k_)) (.slice A0 l0.length c0) l0) ∧ Aside0 (Kd.V k38 38 wc w.heap.size (fun k_ => ((P0_ k_ ∨ P1_ k_) ∨ w.heap.size ≤ k_)) (.slice A1 l1.length c1) l1) ∧ Aside0 (Below w.heap.size w wc))
 case first =>
  have H := HC3.out
  clear HC3
  obtain ⟨y337, hy337⟩ : ∃ y_ : List (List (S38)), y_ = (([l0, l1] : List (List (S38)))) := ⟨_, rfl⟩
  replace H : ((bindlelaw19_light.f k y337).bind fun t340 => (if t340 = true then ((bindleref08_GoodTree.f l0).bind fun t341 => (if t341 = true then ((bindleref08_GoodTree.f l1).bind fun t342 => (bindlelaw19_UnionClasses.j0 k l0 l1 (!t342))) else (bindlelaw19_UnionClasses.j0 k l0 l1 true))) else (bindlelaw19_UnionClasses.j0 k l0 l1 true))) = some r := by first | (rw [hy337]; with_reducible exact H) | (have H2_ := (Option.bind_some _ _).symm.trans H; rw [hy337]; with_reducible exact H2_) | (have H2_ := (Option.bind_some _ _).symm.trans H; with_reducible exact H2_) | with_reducible exact H | (rw [hy337]; exact H) | exact H
  have Ny337 := A0_ hy337
  clear hy337
  replace H := Option.bind_eq_some_iff.mp H
  obtain ⟨t340, A40, H⟩ := H
  replace H : (if t340 = true then ((bindleref08_GoodTree.f l0).bind fun t341 => (if t341 = true then ((bindleref08_GoodTree.f l1).bind fun t342 => (bindlelaw19_UnionClasses.j0 k l0 l1 (!t342))) else (bindlelaw19_UnionClasses.j0 k l0 l1 true))) else (bindlelaw19_UnionClasses.j0 k l0 l1 true)) = some r := H
  have A4 := A0_ A40
  clear A40
  by_cases c5 : t340 = true
  rotate_left
  ·replace c5 := Bool.eq_false_iff.mpr c5
   subst c5
   have H1 : (bindlelaw19_UnionClasses.j0 k l0 l1 true) = some r := by rw [if_neg (show ¬ (false = true) by decide)] at H; exact H
   clear H
   have H := H1
   clear H1
   have H' := A0_ H
   clear H
   go_wp2_with (first | ((with_reducible refine gate_dst (N := 16) rfl ?_); (try (refine gate_guard (by rfl) ?_; dsimp only)); refine Kd.N_lit (Kd.slice 38 k38) _ 31 ?hg (N' := 16) ?hd (xs := ([l0, l1] : List (List (S38)))) (inner := [.slice A0 l0.length c0, .slice A1 l1.length c1]) (ok := (fun k_ => ((P0_ k_ ∨ P1_ k_) ∨ w.heap.size ≤ k_))) (okp := (fun k_ => ((P0_ k_ ∨ P1_ k_) ∨ w.heap.size ≤ k_))) ?hr ?hp (fun _ hk => hk) ((show ∀ k_, w.heap.size ≤ k_ → (fun k_ => ((P0_ k_ ∨ P1_ k_) ∨ w.heap.size ≤ k_)) k_ from fun k_ hk => (.inr (Nat.le_trans (below_size (wb_ HB.out)) hk))) _ (Nat.le_refl _)) (Below.refl _ _) (Nat.le_refl _) (by simp) ?_; (case hd => rfl); (case hg => rfl); (case hr => first | (go_simp; done) | (go_simp; rfl)); (case hp => exact (Reps.one (show Kd.FK (Kd.slice 38 k38) _ _ l0 [.slice A0 l0.length c0] from (Kd.FK_slice_mk (Kd.V_reads' (Kd.V_mono (ok' := (fun k_ => ((P0_ k_ ∨ P1_ k_) ∨ w.heap.size ≤ k_))) (HO0.out) (fun k_ hk => hk))).2.1 (Kd.V_F (Kd.V_mono (ok' := (fun k_ => ((P0_ k_ ∨ P1_ k_) ∨ w.heap.size ≤ k_))) (HO0.out) (fun k_ hk => hk))))) (Reps.one (show Kd.FK (Kd.slice 38 k38) _ _ l1 [.slice A1 l1.length c1] from (Kd.FK_slice_mk (Kd.V_reads' (Kd.V_mono (ok' := (fun k_ => ((P0_ k_ ∨ P1_ k_) ∨ w.heap.size ≤ k_))) (HO1.out) (fun k_ hk => hk))).2.1 (Kd.V_F (Kd.V_mono (ok' := (fun k_ => ((P0_ k_ ∨ P1_ k_) ∨ w.heap.size ≤ k_))) (HO1.out) (fun k_ hk => hk))))) (Reps.none _ _)))); intro v338 w18 ho19 hb hg_ hnew_; clear hg_ hnew_; (first | rw [← Ny337.out] at ho19 | (simp only [Int.reduceToNat] at ho19; rw [← Ny337.out] at ho19)); have n0_ := A0_ (Kd.V_elder' (wV_ HO0.out) (Kd.N_base ho19) hb); have n1_ := A0_ (Kd.V_elder' (wV_ HO1.out) (Kd.N_base ho19) hb); have n2_ := A0_ (Kd.N_lower ho19 (below_size (wb_ HB.out))); have n3_ := A0_ (below_step (wb_ HB.out) hb); clear HO0; clear HO1; clear HB; have HO0 := n0_; have HO1 := n1_; have HO339 := n2_; have HB := n3_; clear n0_ n1_ n2_ n3_; clear hb ho19; obtain ⟨Ao20, co20, eo20⟩ := Kd.N_slice HO339.out; subst eo20) | ((with_reducible refine gate_callee (f := 21) rfl ?_); refine goesL_ (some 17) rfl rfl Tryd.func21 (by kernel_rfl) rfl #[.slice Ao20 y337.length co20] rfl wm_ ?_; (with_reducible refine (bindlelaw19_light.calls k _ _ y337 false _ ?side1 ?side2 A4.out).mono ?_); (case side1 => exact wc_ (Kd.N_reads' HO339.out).2.2); (case side2 => exact (Kd.N_reads' HO339.out).2.1); rintro e w' ⟨rfl, ⟨nd, rfl⟩⟩; refine ⟨_, rfl, ?_⟩))
   go_meet
   case rel => exact ⟨_, (true), wr_, H', ⟨by first | omega | exact Nat.le_refl _⟩, ⟨by (with_reducible repeat (first | apply Va_ | apply VN_ | apply V1_)); exact Kd.V_mono HO0.out (fun _ hk => hk.1)⟩, ⟨by (with_reducible repeat (first | apply Va_ | apply VN_ | apply V1_)); exact Kd.V_mono HO1.out (fun _ hk => hk.1)⟩, ⟨wb_ HB.out⟩⟩
  subst c5
  have H1 : ((bindleref08_GoodTree.f l0).bind fun t341 => (if t341 = true then ((bindleref08_GoodTree.f l1).bind fun t342 => (bindlelaw19_UnionClasses.j0 k l0 l1 (!t342))) else (bindlelaw19_UnionClasses.j0 k l0 l1 true))) = some r := by rw [if_pos rfl] at H; exact H
  clear H
  have H := H1
  clear H1
  replace H := Option.bind_eq_some_iff.mp H
  obtain ⟨t341, A60, H⟩ := H
  replace H : (if t341 = true then ((bindleref08_GoodTree.f l1).bind fun t342 => (bindlelaw19_UnionClasses.j0 k l0 l1 (!t342))) else (bindlelaw19_UnionClasses.j0 k l0 l1 true)) = some r := H
  have A6 := A0_ A60
  clear A60
  by_cases c7 : t341 = true
  rotate_left
  ·replace c7 := Bool.eq_false_iff.mpr c7
   subst c7
   have H1 : (bindlelaw19_UnionClasses.j0 k l0 l1 true) = some r := by rw [if_neg (show ¬ (false = true) by decide)] at H; exact H
   clear H
   have H := H1
   clear H1
   have H' := A0_ H
   clear H
   go_wp2_with (first | ((with_reducible refine gate_dst (N := 16) rfl ?_); (try (refine gate_guard (by rfl) ?_; dsimp only)); refine Kd.N_lit (Kd.slice 38 k38) _ 31 ?hg (N' := 16) ?hd (xs := ([l0, l1] : List (List (S38)))) (inner := [.slice A0 l0.length c0, .slice A1 l1.length c1]) (ok := (fun k_ => ((P0_ k_ ∨ P1_ k_) ∨ w.heap.size ≤ k_))) (okp := (fun k_ => ((P0_ k_ ∨ P1_ k_) ∨ w.heap.size ≤ k_))) ?hr ?hp (fun _ hk => hk) ((show ∀ k_, w.heap.size ≤ k_ → (fun k_ => ((P0_ k_ ∨ P1_ k_) ∨ w.heap.size ≤ k_)) k_ from fun k_ hk => (.inr (Nat.le_trans (below_size (wb_ HB.out)) hk))) _ (Nat.le_refl _)) (Below.refl _ _) (Nat.le_refl _) (by simp) ?_; (case hd => rfl); (case hg => rfl); (case hr => first | (go_simp; done) | (go_simp; rfl)); (case hp => exact (Reps.one (show Kd.FK (Kd.slice 38 k38) _ _ l0 [.slice A0 l0.length c0] from (Kd.FK_slice_mk (Kd.V_reads' (Kd.V_mono (ok' := (fun k_ => ((P0_ k_ ∨ P1_ k_) ∨ w.heap.size ≤ k_))) (HO0.out) (fun k_ hk => hk))).2.1 (Kd.V_F (Kd.V_mono (ok' := (fun k_ => ((P0_ k_ ∨ P1_ k_) ∨ w.heap.size ≤ k_))) (HO0.out) (fun k_ hk => hk))))) (Reps.one (show Kd.FK (Kd.slice 38 k38) _ _ l1 [.slice A1 l1.length c1] from (Kd.FK_slice_mk (Kd.V_reads' (Kd.V_mono (ok' := (fun k_ => ((P0_ k_ ∨ P1_ k_) ∨ w.heap.size ≤ k_))) (HO1.out) (fun k_ hk => hk))).2.1 (Kd.V_F (Kd.V_mono (ok' := (fun k_ => ((P0_ k_ ∨ P1_ k_) ∨ w.heap.size ≤ k_))) (HO1.out) (fun k_ hk => hk))))) (Reps.none _ _)))); intro v338 w14 ho15 hb hg_ hnew_; clear hg_ hnew_; (first | rw [← Ny337.out] at ho15 | (simp only [Int.reduceToNat] at ho15; rw [← Ny337.out] at ho15)); have n0_ := A0_ (Kd.V_elder' (wV_ HO0.out) (Kd.N_base ho15) hb); have n1_ := A0_ (Kd.V_elder' (wV_ HO1.out) (Kd.N_base ho15) hb); have n2_ := A0_ (Kd.N_lower ho15 (below_size (wb_ HB.out))); have n3_ := A0_ (below_step (wb_ HB.out) hb); clear HO0; clear HO1; clear HB; have HO0 := n0_; have HO1 := n1_; have HO339 := n2_; have HB := n3_; clear n0_ n1_ n2_ n3_; clear hb ho15; obtain ⟨Ao16, co16, eo16⟩ := Kd.N_slice HO339.out; subst eo16) | ((with_reducible refine gate_callee (f := 21) rfl ?_); refine goesL_ (some 17) rfl rfl Tryd.func21 (by kernel_rfl) rfl #[.slice Ao16 y337.length co16] rfl wm_ ?_; (with_reducible refine (bindlelaw19_light.calls k _ _ y337 true _ ?side1 ?side2 A4.out).mono ?_); (case side1 => exact wc_ (Kd.N_reads' HO339.out).2.2); (case side2 => exact (Kd.N_reads' HO339.out).2.1); rintro e w' ⟨rfl, ⟨nd, rfl⟩⟩; refine ⟨_, rfl, ?_⟩) | (go_at_call 26; (with_reducible refine (bindleref08_GoodTree.calls _ _ l0 false _ ?side1 ?side2 A6.out).mono ?_); (case side1 => exact wc_ (Kd.V_reads' HO0.out).2.2); (case side2 => exact (Kd.V_reads' HO0.out).2.1); rintro e w17 ⟨rfl, hb⟩; have n0_ := A0_ (Vb_ (wV_ HO0.out) hb); have n1_ := A0_ (Vb_ (wV_ HO1.out) hb); have n2_ := A0_ (Kd.N_below (wN_ HO339.out) hb); have n3_ := A0_ (below_step (wb_ HB.out) hb); clear HO0; clear HO1; clear HO339; clear HB; have HO0 := n0_; have HO1 := n1_; have HO339 := n2_; have HB := n3_; clear n0_ n1_ n2_ n3_; (try clear hb); (try clear hb2); (try clear hk); (try clear hi)))
   go_meet
   case rel => exact ⟨_, (true), wr_, H', ⟨by first | omega | exact Nat.le_refl _⟩, ⟨by (with_reducible repeat (first | apply Va_ | apply VN_ | apply V1_)); exact Kd.V_mono HO0.out (fun _ hk => hk.1)⟩, ⟨by (with_reducible repeat (first | apply Va_ | apply VN_ | apply V1_)); exact Kd.V_mono HO1.out (fun _ hk => hk.1)⟩, ⟨wb_ HB.out⟩⟩
  subst c7
  have H1 : ((bindleref08_GoodTree.f l1).bind fun t342 => (bindlelaw19_UnionClasses.j0 k l0 l1 (!t342))) = some r := by rw [if_pos rfl] at H; exact H
  clear H
  have H := H1
  clear H1
  replace H := Option.bind_eq_some_iff.mp H
  obtain ⟨t342, A80, H⟩ := H
  replace H : (bindlelaw19_UnionClasses.j0 k l0 l1 (!t342)) = some r := H
  have A8 := A0_ A80
  clear A80
  have H' := A0_ H
  clear H
  go_wp2_with (first | ((with_reducible refine gate_dst (N := 16) rfl ?_); (try (refine gate_guard (by rfl) ?_; dsimp only)); refine Kd.N_lit (Kd.slice 38 k38) _ 31 ?hg (N' := 16) ?hd (xs := ([l0, l1] : List (List (S38)))) (inner := [.slice A0 l0.length c0, .slice A1 l1.length c1]) (ok := (fun k_ => ((P0_ k_ ∨ P1_ k_) ∨ w.heap.size ≤ k_))) (okp := (fun k_ => ((P0_ k_ ∨ P1_ k_) ∨ w.heap.size ≤ k_))) ?hr ?hp (fun _ hk => hk) ((show ∀ k_, w.heap.size ≤ k_ → (fun k_ => ((P0_ k_ ∨ P1_ k_) ∨ w.heap.size ≤ k_)) k_ from fun k_ hk => (.inr (Nat.le_trans (below_size (wb_ HB.out)) hk))) _ (Nat.le_refl _)) (Below.refl _ _) (Nat.le_refl _) (by simp) ?_; (case hd => rfl); (case hg => rfl); (case hr => first | (go_simp; done) | (go_simp; rfl)); (case hp => exact (Reps.one (show Kd.FK (Kd.slice 38 k38) _ _ l0 [.slice A0 l0.length c0] from (Kd.FK_slice_mk (Kd.V_reads' (Kd.V_mono (ok' := (fun k_ => ((P0_ k_ ∨ P1_ k_) ∨ w.heap.size ≤ k_))) (HO0.out) (fun k_ hk => hk))).2.1 (Kd.V_F (Kd.V_mono (ok' := (fun k_ => ((P0_ k_ ∨ P1_ k_) ∨ w.heap.size ≤ k_))) (HO0.out) (fun k_ hk => hk))))) (Reps.one (show Kd.FK (Kd.slice 38 k38) _ _ l1 [.slice A1 l1.length c1] from (Kd.FK_slice_mk (Kd.V_reads' (Kd.V_mono (ok' := (fun k_ => ((P0_ k_ ∨ P1_ k_) ∨ w.heap.size ≤ k_))) (HO1.out) (fun k_ hk => hk))).2.1 (Kd.V_F (Kd.V_mono (ok' := (fun k_ => ((P0_ k_ ∨ P1_ k_) ∨ w.heap.size ≤ k_))) (HO1.out) (fun k_ hk => hk))))) (Reps.none _ _)))); intro v338 w9 ho10 hb hg_ hnew_; clear hg_ hnew_; (first | rw [← Ny337.out] at ho10 | (simp only [Int.reduceToNat] at ho10; rw [← Ny337.out] at ho10)); have n0_ := A0_ (Kd.V_elder' (wV_ HO0.out) (Kd.N_base ho10) hb); have n1_ := A0_ (Kd.V_elder' (wV_ HO1.out) (Kd.N_base ho10) hb); have n2_ := A0_ (Kd.N_lower ho10 (below_size (wb_ HB.out))); have n3_ := A0_ (below_step (wb_ HB.out) hb); clear HO0; clear HO1; clear HB; have HO0 := n0_; have HO1 := n1_; have HO339 := n2_; have HB := n3_; clear n0_ n1_ n2_ n3_; clear hb ho10; obtain ⟨Ao11, co11, eo11⟩ := Kd.N_slice HO339.out; subst eo11) | ((with_reducible refine gate_callee (f := 21) rfl ?_); refine goesL_ (some 17) rfl rfl Tryd.func21 (by kernel_rfl) rfl #[.slice Ao11 y337.length co11] rfl wm_ ?_; (with_reducible refine (bindlelaw19_light.calls k _ _ y337 true _ ?side1 ?side2 A4.out).mono ?_); (case side1 => exact wc_ (Kd.N_reads' HO339.out).2.2); (case side2 => exact (Kd.N_reads' HO339.out).2.1); rintro e w' ⟨rfl, ⟨nd, rfl⟩⟩; refine ⟨_, rfl, ?_⟩) | (go_at_call 26; (with_reducible refine (bindleref08_GoodTree.calls _ _ l0 true _ ?side1 ?side2 A6.out).mono ?_); (case side1 => exact wc_ (Kd.V_reads' HO0.out).2.2); (case side2 => exact (Kd.V_reads' HO0.out).2.1); rintro e w12 ⟨rfl, hb⟩; have n0_ := A0_ (Vb_ (wV_ HO0.out) hb); have n1_ := A0_ (Vb_ (wV_ HO1.out) hb); have n2_ := A0_ (Kd.N_below (wN_ HO339.out) hb); have n3_ := A0_ (below_step (wb_ HB.out) hb); clear HO0; clear HO1; clear HO339; clear HB; have HO0 := n0_; have HO1 := n1_; have HO339 := n2_; have HB := n3_; clear n0_ n1_ n2_ n3_; (try clear hb); (try clear hb2); (try clear hk); (try clear hi)) | (go_at_call 26; (with_reducible refine (bindleref08_GoodTree.calls _ _ l1 t342 _ ?side1 ?side2 A8.out).mono ?_); (case side1 => exact wc_ (Kd.V_reads' HO1.out).2.2); (case side2 => exact (Kd.V_reads' HO1.out).2.1); rintro e w13 ⟨rfl, hb⟩; have n0_ := A0_ (Vb_ (wV_ HO0.out) hb); have n1_ := A0_ (Vb_ (wV_ HO1.out) hb); have n2_ := A0_ (Kd.N_below (wN_ HO339.out) hb); have n3_ := A0_ (below_step (wb_ HB.out) hb); clear HO0; clear HO1; clear HO339; clear HB; have HO0 := n0_; have HO1 := n1_; have HO339 := n2_; have HB := n3_; clear n0_ n1_ n2_ n3_; (try clear hb); (try clear hb2); (try clear hk); (try clear hi)))
  go_meet
  case rel => exact ⟨_, (!t342), wr_, H', ⟨by first | omega | exact Nat.le_refl _⟩, ⟨by (with_reducible repeat (first | apply Va_ | apply VN_ | apply V1_)); exact Kd.V_mono HO0.out (fun _ hk => hk.1)⟩, ⟨by (with_reducible repeat (first | apply Va_ | apply VN_ | apply V1_)); exact Kd.V_mono HO1.out (fun _ hk => hk.1)⟩, ⟨wb_ HB.out⟩⟩
 case rest =>
  clear HC3
  try clear c1
  try clear c2
  try clear p2
  try clear c5
  try clear c6
  try clear c7
  obtain ⟨kq, x30_2, rfl, HA, HJ2, HO_0, HO_1, HB⟩ := hcut
  cases kq with
  | zero => exact absurd HA.out (by simp [bindlelaw19_UnionClasses.j0])
  | succ kj2 =>
   have H := HA.out
   clear HA
   simp only [bindlelaw19_UnionClasses.j0] at H
   by_cases c21 : x30_2 = true
   ·subst c21
    have H1 : ((bindlelaw19_answers.f).bind fun t343 => (some t343)) = some r := by rw [if_pos rfl] at H; exact H
    clear H
    have H := H1
    clear H1
    replace H := Option.bind_eq_some_iff.mp H
    obtain ⟨t343, A220, H⟩ := H
    replace H : (some t343) = some r := H
    have A22 := A0_ A220
    clear A220
    obtain rfl := Option.some.inj H
    go_wp2_with (first | ((with_reducible refine gate_callee (f := 22) rfl ?_); refine goesL_ (some 29) rfl rfl Tryd.func22 (by kernel_rfl) rfl #[] rfl wm_ ?_; (with_reducible refine (bindlelaw19_answers.calls  t343 _ ?side1 A22.out).mono ?_); (case side1 => exact A0_ (Tabs.below hT.out (wb_ HB.out))); rintro e w23 ⟨rfl, hb⟩; refine ⟨_, rfl, ?_⟩; have n0_ := A0_ (Vb_ (wV_ HO_0.out) hb); have n1_ := A0_ (Vb_ (wV_ HO_1.out) hb); have n2_ := A0_ (below_step (wb_ HB.out) hb); clear HO_0; clear HO_1; clear HB; have HO_0 := n0_; have HO_1 := n1_; have HB := n2_; clear n0_ n1_ n2_; (try clear hb); (try clear hb2); (try clear hk); (try clear hi)))
    go_ret
    exact ⟨we_, wb_ HB.out⟩
   replace c21 := Bool.eq_false_iff.mpr c21
   subst c21
   have H1 : ((union_Union.f (([l0, l1] : List (List (S38))))).bind fun bt347 => (bindlelaw19_UnionClasses.l0 l0 l1 bt347.1)) = some r := by rw [if_neg (show ¬ (false = true) by decide)] at H; exact H
   clear H
   have H := H1
   clear H1
   obtain ⟨y344, hy344⟩ : ∃ y_ : List (List (S38)), y_ = (([l0, l1] : List (List (S38)))) := ⟨_, rfl⟩
   replace H : ((union_Union.f y344).bind fun bt347 => (bindlelaw19_UnionClasses.l0 l0 l1 bt347.1)) = some r := by first | (rw [hy344]; with_reducible exact H) | (have H2_ := (Option.bind_some _ _).symm.trans H; rw [hy344]; with_reducible exact H2_) | (have H2_ := (Option.bind_some _ _).symm.trans H; with_reducible exact H2_) | with_reducible exact H | (rw [hy344]; exact H) | exact H
   have Ny344 := A0_ hy344
   clear hy344
   replace H := Option.bind_eq_some_iff.mp H
   obtain ⟨⟨t347, t350⟩, A240, H⟩ := H
   replace H : (bindlelaw19_UnionClasses.l0 l0 l1 t347) = some r := H
   have A24 := A0_ A240
   clear A240
   have H' := A0_ H
   clear H
   go_wp2_with (first | ((with_reducible refine gate_dst (N := 33) rfl ?_); (try (refine gate_guard (by rfl) ?_; dsimp only)); refine Kd.N_lit (Kd.slice 38 k38) _ 31 ?hg (N' := 33) ?hd (xs := ([l0, l1] : List (List (S38)))) (inner := [.slice A0 l0.length c0, .slice A1 l1.length c1]) (ok := (fun k_ => ((P0_ k_ ∨ P1_ k_) ∨ w.heap.size ≤ k_))) (okp := (fun k_ => ((P0_ k_ ∨ P1_ k_) ∨ w.heap.size ≤ k_))) ?hr ?hp (fun _ hk => hk) ((show ∀ k_, wc.heap.size ≤ k_ → (fun k_ => ((P0_ k_ ∨ P1_ k_) ∨ w.heap.size ≤ k_)) k_ from fun k_ hk => (.inr (Nat.le_trans (below_size (wb_ HB.out)) hk))) _ (Nat.le_refl _)) (Below.refl _ _) (Nat.le_refl _) (by simp) ?_; (case hd => rfl); (case hg => rfl); (case hr => first | (go_simp; done) | (go_simp; rfl)); (case hp => exact (Reps.one (show Kd.FK (Kd.slice 38 k38) _ _ l0 [.slice A0 l0.length c0] from (Kd.FK_slice_mk (Kd.V_reads' (Kd.V_mono (ok' := (fun k_ => ((P0_ k_ ∨ P1_ k_) ∨ w.heap.size ≤ k_))) (HO_0.out) (fun k_ hk => hk))).2.1 (Kd.V_F (Kd.V_mono (ok' := (fun k_ => ((P0_ k_ ∨ P1_ k_) ∨ w.heap.size ≤ k_))) (HO_0.out) (fun k_ hk => hk))))) (Reps.one (show Kd.FK (Kd.slice 38 k38) _ _ l1 [.slice A1 l1.length c1] from (Kd.FK_slice_mk (Kd.V_reads' (Kd.V_mono (ok' := (fun k_ => ((P0_ k_ ∨ P1_ k_) ∨ w.heap.size ≤ k_))) (HO_1.out) (fun k_ hk => hk))).2.1 (Kd.V_F (Kd.V_mono (ok' := (fun k_ => ((P0_ k_ ∨ P1_ k_) ∨ w.heap.size ≤ k_))) (HO_1.out) (fun k_ hk => hk))))) (Reps.none _ _)))); intro v345 w25 ho26 hb hg_ hnew_; clear hg_ hnew_; (first | rw [← Ny344.out] at ho26 | (simp only [Int.reduceToNat] at ho26; rw [← Ny344.out] at ho26)); have n0_ := A0_ (Kd.V_elder' (wV_ HO_0.out) (Kd.N_base ho26) hb); have n1_ := A0_ (Kd.V_elder' (wV_ HO_1.out) (Kd.N_base ho26) hb); have n2_ := A0_ (Kd.N_lower ho26 (below_size (wb_ HB.out))); have n3_ := A0_ (below_step (wb_ HB.out) hb); clear HO_0; clear HO_1; clear HB; have HO_0 := n0_; have HO_1 := n1_; have HO346 := n2_; have HB := n3_; clear n0_ n1_ n2_ n3_; clear hb ho26; obtain ⟨Ao27, co27, eo27⟩ := Kd.N_slice HO346.out; subst eo27) | ((with_reducible refine gate_callee (f := 23) rfl ?_); refine goesL_ (some 34) rfl rfl Tryd.func23 (by kernel_rfl) rfl #[.slice Ao27 y344.length co27] rfl wm_ ?_; (with_reducible refine (union_Union.calls _ _ y344 t347 t350 _ ?side1 ?side2 ?side3 A24.out).mono ?_); (case side1 => exact A0_ (Tabs.below hT.out (wb_ HB.out))); (case side2 => exact wc_ (Kd.N_reads' HO346.out).2.2); (case side3 => exact (Kd.N_reads' HO346.out).2.1); rintro e w28 ⟨v348, rfl, ho0, hb⟩; refine ⟨_, rfl, ?_⟩; have n0_ := A0_ (Vb_ (wV_ HO_0.out) hb); have n1_ := A0_ (Vb_ (wV_ HO_1.out) hb); have n2_ := A0_ (Kd.N_below (wN_ HO346.out) hb); have n3_ := A0_ (Kd.V_lower (Kd.V_mono (ok' := fun k_ => ((P0_ k_ ∨ P1_ k_) ∨ w.heap.size ≤ k_) ∧ some k_ ≠ (.slice Ao27 y344.length co27 : Value).ownBlock) ho0 (fun k_ hk_ => ⟨(.inr (Nat.le_trans (below_size (wb_ HB.out)) hk_)), (Kd.fresh' (Kd.N_lt (wN_ HO346.out)) k_ hk_)⟩)) (below_size (wb_ HB.out))); have n4_ := A0_ (below_step (wb_ HB.out) hb); clear HO_0; clear HO_1; clear HO346; clear HB; have HO_0 := n0_; have HO_1 := n1_; have HO346 := n2_; have HO349 := n3_; have HB := n4_; clear n0_ n1_ n2_ n3_ n4_; (try clear hb); (try clear hb2); (try clear hk); (try clear hi); (try clear ho0)))
   have hcond : ClsCond l0 l1 t347 ∧ r = true := by
    have h1 := H'.out
    unfold bindlelaw19_UnionClasses.l0 at h1
    split at h1
    · rename_i hc
      exact ⟨hc, (Option.some.inj h1).symm⟩
    · cases h1
   obtain ⟨hcond, rfl⟩ := hcond
   have HCD := A0_ hcond
   clear H' hcond
   obtain ⟨A5, c5, rfl⟩ := Kd.V_slice HO349.out
   have hHM : Go.Proofs.YtfmphccoeinhcaaDoor.CMid w l0 l1 t347 A0 A1 A5 _ := ⟨wb_ HB.out, (Kd.V_reads' HO_0.out).2.2, (Kd.V_reads' HO_1.out).2.2, (Kd.V_reads' HO349.out).2.2⟩
   have hcaps : l0.length ≤ c0 ∧ l1.length ≤ c1 ∧ t347.length ≤ c5 := ⟨(Kd.V_reads' HO_0.out).2.1, (Kd.V_reads' HO_1.out).2.1, (Kd.V_reads' HO349.out).2.1⟩
   have HST : Aside0 (CRel w l0 l1 t347 A0 A1 A5 0 w28) := ⟨⟨by omega, by omega, hHM⟩⟩
   have HC0 := A0_ hcaps.1
   have HC1 := A0_ hcaps.2.1
   clear hHM hcaps HO_0 HO_1 HO346 HO349 HB
   go_loopw [7] (fun i wr => ∃ n : Int, i = .int .i64 n ∧ Aside0 (CRel w l0 l1 t347 A0 A1 A5 n wr)) (fun i _ => (t347.length - (intOf i)).toNat)
   case atStart => exact ⟨0, rfl, HST⟩
   case round =>
     clear HST
     obtain ⟨n, rfl, HR⟩ := hrel
     have h0 := HR.out.1
     have h1 := HR.out.2.1
     have hT5 : (t347.length : Int) ≤ 100000 := by have := HCD.out.lt; omega
     by_cases hlt : n < (t347.length : Int)
     · have c1b : decide (n < (t347.length : Int)) = true := decide_eq_true hlt
       go_wp2
       go_loopw [8] (fun i wr => ∃ m : Int, i = .int .i64 m ∧ Aside0 (0 ≤ m ∧ m ≤ n ∧ CMid w l0 l1 t347 A0 A1 A5 wr)) (fun i _ => (n - (intOf i)).toNat)
       case atStart => exact ⟨0, rfl, ⟨⟨by omega, by omega, HR.out.2.2⟩⟩⟩
       case round =>
         clear HR
         obtain ⟨m, rfl, HS⟩ := hrel
         have g0 := HS.out.1
         have g1 := HS.out.2.1
         have HM := A0_ HS.out.2.2
         clear HS
         by_cases hmn : m < n
         · have c2b : decide (m < n) = true := decide_eq_true hmn
           obtain ⟨ad, Ax, cx, hA5, x0, _⟩ := at_T38 HM.out.T n h0 hlt
           have hxm : rd_T38 t347 n ∈ t347 := by rw [rdN_at t347 n h0 hlt]; exact List.getElem_mem _
           have hym : rd_T38 t347 m ∈ t347 := by rw [rdN_at t347 m g0 (by omega)]; exact List.getElem_mem _
           generalize hxe : rd_T38 t347 n = x at x0 hxm
           generalize hye : rd_T38 t347 m = y at hym
           have HXE := A0_ hxe
           have HYE := A0_ hye
           have HXM := A0_ hxm
           have HYM := A0_ hym
           clear hxe hye hxm hym
           subst hA5
           go_upto_region 11 with (first
             | (go_at_call 19; refine (CFind A1 c1 l1 x.f0 _ HM.out.Bb HC1.out HCD.out.lb).mono ?_; rintro e w1 ⟨p', bp, Ap, cp, hp, rfl, hbp⟩; have HP := A0_ hp; have HB1 := A0_ hbp; clear hp hbp x0)
             | fail)
           have f2 : ∃ w2 b9, w2 = w1.alloc (Obj.cells #[Value.string p'.f0, Value.string p'.f1, Value.string p'.f2, Value.int IntKind.u8 p'.f3, Value.int IntKind.i64 p'.f4.f0, Value.int IntKind.i64 p'.f4.f1, Value.int IntKind.i64 p'.f4.f2, Value.int IntKind.i64 p'.f4.f3, Value.slice Ap p'.f5.length cp] 38) ∧ b9 = w1.heap.size ∧ Below wr.heap.size wr w2 ∧ nbox w2 b9 p' (.slice Ap p'.f5.length cp) ∧ wr.heap.size ≤ b9 :=
             ⟨_, _, rfl, rfl, below_alloc HB1.out _, blk_new w1 _, HB1.out.size⟩
           obtain ⟨w2, b9, e2, e9, hB2, hX2, hb9⟩ := f2
           rw [← e2, ← e9]
           have HB2 := A0_ hB2
           have HX2 := A0_ hX2
           have HB9 := A0_ hb9
           clear e2 e9 hB2 hX2 hb9 HB1
           obtain ⟨ad', Ay, cy, hA5, y0, _⟩ := at_T38 (HM.out.below HB2.out).T m g0 (by omega)
           rw [HYE.out] at y0
           obtain rfl := Option.some.inj hA5
           clear hA5
           go_upto_if 69 with (first
             | (go_at_call 19; refine (CFind A1 c1 l1 y.f0 _ (HM.out.below HB2.out).Bb HC1.out HCD.out.lb).mono ?_; rintro e w3 ⟨q', bq, Aq, cq, hq, rfl, hbq⟩; have HQ := A0_ hq; have HB3 := A0_ hbq; clear hq hbq y0)
             | fail)
           have f4 : ∃ w4 b11, w4 = w3.alloc (Obj.cells #[Value.string q'.f0, Value.string q'.f1, Value.string q'.f2, Value.int IntKind.u8 q'.f3, Value.int IntKind.i64 q'.f4.f0, Value.int IntKind.i64 q'.f4.f1, Value.int IntKind.i64 q'.f4.f2, Value.int IntKind.i64 q'.f4.f3, Value.slice Aq q'.f5.length cq] 38) ∧ b11 = w3.heap.size ∧ CB1 wr b9 b11 p' (.slice Ap p'.f5.length cp) q' (.slice Aq q'.f5.length cq) w4 ∧ b9 < b11 :=
             ⟨_, _, rfl, rfl, ⟨below_alloc (HB2.out.trans (HB3.out.mono HB2.out.size)) _, (HX2.out.below HB3.out).below (below_alloc (Below.refl _ _) _), blk_new w3 _⟩, Nat.lt_of_lt_of_le (nbox_lt HX2.out) HB3.out.size⟩
           obtain ⟨w4, b11, e4, e11, hB4, hlt11⟩ := f4
           rw [← e4, ← e11]
           have HB4 := A0_ hB4
           have HLT := A0_ hlt11
           clear e4 e11 hB4 hlt11 HB2 HX2 HB3
           go_cut [10] (fun v10 wx => v10 = .bool bp ∧ ∃ vx, Aside0 (CB1 wr b9 b11 (pickN l0 l1 x.f0) vx q' (.slice Aq q'.f5.length cq) wx))
           case first =>
             cases bp with
             | true =>
               go_wp2
               go_meet
               exact ⟨rfl, _, ⟨by rw [pick_hit HP.out]; exact HB4.out⟩⟩
             | false =>
               obtain ⟨ad', Ax, cx, hA5, x0, _⟩ := at_T38 (HM.out.below HB4.out.B).T n h0 hlt
               rw [HXE.out] at x0
               obtain rfl := Option.some.inj hA5
               clear hA5
               go_wp2_with (first
                 | (go_at_call 19; refine (CFind A0 c0 l0 x.f0 _ (HM.out.below HB4.out.B).A HC0.out HCD.out.la).mono ?_; rintro e w5 ⟨z', bz, Az, cz, hz, rfl, hbz⟩; have HZ := A0_ hz; have HB5 := A0_ (HB4.out.below hbz); obtain ⟨d0, d1, d2, d3, d4, d5, d6, d7, d8⟩ := nbox_cells HB5.out.X; have s0 := nbox_soft HB5.out.X 0; have s1 := nbox_soft HB5.out.X 1; have s2 := nbox_soft HB5.out.X 2; have s3 := nbox_soft HB5.out.X 3; have s4 := nbox_soft HB5.out.X 4; have s5 := nbox_soft HB5.out.X 5; have s6 := nbox_soft HB5.out.X 6; have s7 := nbox_soft HB5.out.X 7; have s8 := nbox_soft HB5.out.X 8; clear hz hbz x0)
                 | fail)
               go_meet
               exact ⟨rfl, _, ⟨by rw [pick_miss HP.out HZ.out]; exact HB5.out.putX HB9.out (by have := HLT.out; omega) z' (.slice Az z'.f5.length cz)⟩⟩
           case rest =>
             obtain ⟨rfl, vx, HR12⟩ := hcut
             clear HB4
             go_upto_if 81 with (fail)
             go_cut [12] (fun v12 wx => v12 = .bool bq ∧ ∃ vy, Aside0 (CB1 wr b9 b11 (pickN l0 l1 x.f0) vx (pickN l0 l1 y.f0) vy wx))
             case first =>
               cases bq with
               | true =>
                 go_wp2
                 go_meet
                 exact ⟨rfl, _, ⟨by rw [pick_hit (a := l0) HQ.out]; exact HR12.out⟩⟩
               | false =>
                 obtain ⟨ad', Ay, cy, hA5, y0, _⟩ := at_T38 (HM.out.below HR12.out.B).T m g0 (by omega)
                 rw [HYE.out] at y0
                 obtain rfl := Option.some.inj hA5
                 clear hA5
                 go_wp2_with (first
                   | (go_at_call 19; refine (CFind A0 c0 l0 y.f0 _ (HM.out.below HR12.out.B).A HC0.out HCD.out.la).mono ?_; rintro e w6 ⟨z', bz, Az, cz, hz, rfl, hbz⟩; have HZ := A0_ hz; have HB6 := A0_ (HR12.out.below hbz); obtain ⟨d0, d1, d2, d3, d4, d5, d6, d7, d8⟩ := nbox_cells HB6.out.Y; have s0 := nbox_soft HB6.out.Y 0; have s1 := nbox_soft HB6.out.Y 1; have s2 := nbox_soft HB6.out.Y 2; have s3 := nbox_soft HB6.out.Y 3; have s4 := nbox_soft HB6.out.Y 4; have s5 := nbox_soft HB6.out.Y 5; have s6 := nbox_soft HB6.out.Y 6; have s7 := nbox_soft HB6.out.Y 7; have s8 := nbox_soft HB6.out.Y 8; clear hz hbz y0)
                   | fail)
                 go_meet
                 exact ⟨rfl, _, ⟨by rw [pick_miss HQ.out HZ.out]; exact HB6.out.putY (by have := HB9.out; have := HLT.out; omega) (by have := HLT.out; omega) z' (.slice Az z'.f5.length cz)⟩⟩
             case rest =>
               obtain ⟨rfl, vy, HR14⟩ := hcut
               have hfx := find_some HP.out
               have hfy := find_some HQ.out
               clear HR12 HP HQ
               have HM6 := A0_ (HM.out.below HR14.out.B)
               obtain ⟨ad', Ax, cx, hA5, _, _, x2, x3, _⟩ := at_T38 HM6.out.T n h0 hlt
               obtain rfl := Option.some.inj hA5
               obtain ⟨ad', Ay, cy, hA5, _, _, y2, y3, _⟩ := at_T38 HM6.out.T m g0 (by omega)
               obtain rfl := Option.some.inj hA5
               rw [HXE.out] at x2 x3
               rw [HYE.out] at y2 y3
               obtain ⟨_, _, d2, _⟩ := nbox_cells HR14.out.X
               obtain ⟨_, _, d2', _⟩ := nbox_cells HR14.out.Y
               clear hA5 HR14
               have hlaw := HCD.out.law x HXM.out y HYM.out
               rw [hfx, hfy] at hlaw
               have HLAW := A0_ hlaw
               clear hlaw hfx hfy
               generalize (pickN l0 l1 x.f0).f2 = lx at d2 HLAW
               generalize (pickN l0 l1 y.f0).f2 = ly at d2' HLAW
               by_cases hx48 : x.f3 = 48
               · have e1 : (x.f3 == 48) = true := beq_iff_eq.2 hx48
                 have HX48 := A0_ hx48
                 clear hx48
                 by_cases hy48 : y.f3 = 48
                 · have e2 : (y.f3 == 48) = true := beq_iff_eq.2 hy48
                   have hl := HLAW.out HX48.out hy48
                   clear hy48
                   by_cases hpq : bp = bq
                   · subst hpq
                     have e3 : (bp == bp) = true := by simp
                     by_cases hll : lx = ly
                     · have e4 : (lx.toList == ly.toList) = true := by rw [hll]; simp
                       have e5 : (x.f2.toList == y.f2.toList) = true := by rw [hl.2 ⟨rfl, hll⟩]; simp
                       clear hll hl
                       go_upto_region 17 with (fail)
                       go_quiet (fail)
                       have HFIN := A0_ (HM6.out.below (pw_below_drewN (Below.refl _ _) nq))
                       clear HM6 x2 x3 y2 y3 d2 d2'
                       go_wp2
                       go_roundw
                       case rel => exact ⟨m + 1, by go_num, ⟨⟨by omega, by omega, HFIN.out⟩⟩⟩
                       case measure => simp [intOf]; omega
                     · have e4 : (lx.toList == ly.toList) = false := by rw [beq_eq_false_iff_ne]; exact fun h => hll (ba_ext h)
                       have e5 : (x.f2.toList == y.f2.toList) = false := by rw [beq_eq_false_iff_ne]; exact fun h => hll (hl.1 (ba_ext h)).2
                       clear hll hl
                       go_upto_region 17 with (fail)
                       go_quiet (fail)
                       have HFIN := A0_ (HM6.out.below (pw_below_drewN (Below.refl _ _) nq))
                       clear HM6 x2 x3 y2 y3 d2 d2'
                       go_wp2
                       go_roundw
                       case rel => exact ⟨m + 1, by go_num, ⟨⟨by omega, by omega, HFIN.out⟩⟩⟩
                       case measure => simp [intOf]; omega
                   · have e3 : (bp == bq) = false := by rw [beq_eq_false_iff_ne]; exact hpq
                     have e5 : (x.f2.toList == y.f2.toList) = false := by rw [beq_eq_false_iff_ne]; exact fun h => hpq (hl.1 (ba_ext h)).1
                     clear hpq hl
                     go_upto_region 17 with (fail)
                     go_quiet (fail)
                     have HFIN := A0_ (HM6.out.below (pw_below_drewN (Below.refl _ _) nq))
                     clear HM6 x2 x3 y2 y3 d2 d2'
                     go_wp2
                     go_roundw
                     case rel => exact ⟨m + 1, by go_num, ⟨⟨by omega, by omega, HFIN.out⟩⟩⟩
                     case measure => simp [intOf]; omega
                 · have e2 : (y.f3 == 48) = false := beq_eq_false_iff_ne.2 hy48
                   clear hy48
                   go_upto_region 17 with (fail)
                   go_quiet (fail)
                   have HFIN := A0_ (HM6.out.below (pw_below_drewN (Below.refl _ _) nq))
                   clear HM6 x2 x3 y2 y3 d2 d2'
                   go_wp2
                   go_roundw
                   case rel => exact ⟨m + 1, by go_num, ⟨⟨by omega, by omega, HFIN.out⟩⟩⟩
                   case measure => simp [intOf]; omega
               · have e1 : (x.f3 == 48) = false := beq_eq_false_iff_ne.2 hx48
                 clear hx48
                 go_upto_region 17 with (fail)
                 go_quiet (fail)
                 have HFIN := A0_ (HM6.out.below (pw_below_drewN (Below.refl _ _) nq))
                 clear HM6 x2 x3 y2 y3 d2 d2'
                 go_wp2
                 go_roundw
                 case rel => exact ⟨m + 1, by go_num, ⟨⟨by omega, by omega, HFIN.out⟩⟩⟩
                 case measure => simp [intOf]; omega
         · have c2b : decide (m < n) = false := decide_eq_false hmn
           go_wp2
           go_roundw
           case rel => exact ⟨n + 1, by go_num, ⟨⟨by omega, by omega, HM.out⟩⟩⟩
           case measure => simp [intOf]; omega
     · have c1b : decide (n < (t347.length : Int)) = false := decide_eq_false hlt
       go_wp2_with (first
         | (go_at_call 22; refine (bindlelaw19_answers.calls true _ (A0_ (Tabs.below hT.out HR.out.2.2.B)) bindlelaw19_answers.val).mono ?_; rintro e w9 ⟨rfl, hbe⟩; have HBE := A0_ (HR.out.2.2.B.trans (hbe.mono HR.out.2.2.B.size)); clear hbe)
         | fail)
       go_ret
       exact ⟨we_, HBE.out⟩
end Go.Proofs.YtfmphccoeinhcaaDoor.Print

namespace Go.Proofs.YtfmphccoeinhcaaDoor
open Go.RowKit Go.Proofs.YtfmphccoeinhcaaDoor.Print Go.Proofs.YtfmphccoeinhcaaDoorW.PrintWords
set_option linter.unusedVariables false
theorem classes_ans (a b : List Node) : Ev (fun k => bindlelaw19_UnionClasses.j0 k a b true) true :=
 Ev.step (f := fun _ => some true) (fun k => by rw [bindlelaw19_UnionClasses.j0, if_pos rfl, bindlelaw19_answers.val]; rfl) (Ev.now _)
theorem UnionClasses_true (a b : List Node) (ha : ∀ x ∈ a, NodeZ x) (hb : ∀ x ∈ b, NodeZ x) : Ev (fun k => bindlelaw19_UnionClasses.f k a b) true := by
 have hzs : ∀ t ∈ [a, b], ∀ x ∈ t, NodeZ x := mem2 (P := fun t => ∀ x ∈ t, NodeZ x) ha hb
 obtain ⟨r, h1, h2⟩ := light19_eq [a, b] hzs
 unfold bindlelaw19_UnionClasses.f
 refine Ev.bind h1 ?_
 cases r with
 | false => exact Ev.congr (fun k => by rw [if_neg (by decide)]) (classes_ans a b)
 | true =>
  have hz := uokl_z (h2 rfl).1 hzs
  have za := hz a (by simp)
  have zb := hz b (by simp)
  refine Ev.congr (fun k => by rw [if_pos rfl, urgood_f za.1, Option.bind_some]) ?_
  cases ga : goodTree a with
  | false => exact Ev.congr (fun k => by rw [if_neg (by decide)]) (classes_ans a b)
  | true =>
   refine Ev.congr (fun k => by rw [if_pos rfl, urgood_f zb.1, Option.bind_some]) ?_
   cases gb : goodTree b with
   | false => exact classes_ans a b
   | true =>
    refine Ev.step (f := fun _ => some true) (fun k => ?_) (Ev.now true)
    rw [bindlelaw19_UnionClasses.j0, if_neg (by decide), uunion_f (by simp) (mem2 za.1 zb.1), Option.bind_some]
    unfold bindlelaw19_UnionClasses.l0
    rw [if_pos (cls_cond ga gb (by have := za.2; have := zb.2; omega))]
end Go.Proofs.YtfmphccoeinhcaaDoor

namespace Go.Proofs.YtfmphccoeinhcaaDoor
open Go.RowKit Go.Lib Go.Proofs.YtfmphccoeinhcaaDoorW.PrintWords
theorem laidOut : laidOutB Tryd.prog = true := by kernel_rfl
end Go.Proofs.YtfmphccoeinhcaaDoor

namespace Go.Proofs.YtfmphccoeinhcaaDoor
open Go.ChangeShapes Go.WideShapes Go.RowKit Go.Proofs.YtfmphccoeinhcaaDoorW.PrintWords
structure Opens {α : Type} (P : Program) (d : Kd α) (t : TypeId) (B : α → Prop) : Prop where
 sz : P.cellsOf t = d.sz
 get : ∀ {H : Type} {enc : TypeId × Value → H} {W : World} {fuel : Nat} {cs : List Value} {x : DataW H × List MemPlace},
  DataW.trod enc P W 0 (fun _ => true) true fuel t cs = some x → (∀ n ∈ x.1.weights P t, n ≤ reachBytes) → ∃ a, d.K W a cs ∧ B a
theorem Opens.int {P : Program} {t : TypeId} {k : IntKind} (ht : P.underlying t = some (.int k)) (hc : P.cellsOf t = 1) : Opens P (Kd.int k) t (fun n => (Lit.int k n).wf = true) :=
 ⟨hc, fun h _ => by
  obtain ⟨n, rfl, rfl, hw⟩ := DataW.trod_int ht h
  exact ⟨n, rfl, hw⟩⟩
theorem Opens.bool {P : Program} {t : TypeId} (ht : P.underlying t = some .bool) (hc : P.cellsOf t = 1) : Opens P Kd.bool t (fun _ => True) :=
 ⟨hc, fun h _ => by
  obtain ⟨n, rfl, rfl⟩ := DataW.trod_bool ht h
  exact ⟨n, rfl, trivial⟩⟩
theorem Opens.string {P : Program} {t : TypeId} (ht : P.underlying t = some .string) (hc : P.cellsOf t = 1) : Opens P Kd.string t (fun s => s.size ≤ 140737488351232) :=
 ⟨hc, fun h hw => by
  obtain ⟨s, rfl, rfl, _⟩ := DataW.trod_string ht h
  refine ⟨s, rfl, ?_⟩
  have := hw s.data.toList.length (by simp [DataW.weights])
  have e : s.data.toList.length = s.size := by simp
  rw [e] at this
  exact this⟩
theorem each_list {α : Type} {Q : Nat → α → Prop} : ∀ n : Nat, (∀ i, i < n → ∃ x, Q i x) → ∃ xs : List α, xs.length = n ∧ ∀ i x, xs[i]? = some x → Q i x := by
 intro n
 induction n with
 | zero => exact fun _ => ⟨[], rfl, fun i x h => by simp at h⟩
 | succ n ih =>
  intro h
  obtain ⟨xs, hl, hx⟩ := ih (fun i hi => h i (by omega))
  obtain ⟨y, hy⟩ := h n (by omega)
  refine ⟨xs ++ [y], by simp [hl], fun i x hi => ?_⟩
  rcases Nat.lt_or_ge i n with h1 | h1
  ·rw [List.getElem?_append_left (by omega)] at hi
   exact hx i x hi
  ·rw [List.getElem?_append_right (by omega)] at hi
   have h0 : i - xs.length = 0 := by
    have := (List.getElem?_eq_some_iff.1 hi).1
    simp at this
    omega
   rw [h0] at hi
   simp at hi
   subst hi
   obtain rfl : i = n := by omega
   exact hy
theorem weights_all {H : Type} {P : Program} {e : TypeId} : ∀ {l : List (DataW H)} {y : DataW H}, y ∈ l → ∀ n ∈ y.weights P e, n ∈ DataW.weightsAll P e l
 | z :: r, y, hy, n, hn => by
  simp only [DataW.weightsAll, List.mem_append]
  rcases List.mem_cons.1 hy with rfl | hy
  ·exact .inl hn
  ·exact .inr (weights_all hy n hn)
theorem add_add (a : Addr) (x y : Nat) : (a.add x).add y = a.add (x + y) := by
 unfold Addr.add
 split
 ·rename_i h
  subst h
  simp
 ·rename_i h
  split
  ·rename_i h2
   subst h2
   simp [h]
  ·rw [if_neg (by omega)]
   simp [Nat.add_assoc]
theorem Opens.slice {α : Type} {P : Program} {d : Kd α} {B : α → Prop} {t e : TypeId} (ht : P.underlying t = some (.slice e)) (hc : P.cellsOf t = 1) (h : Opens P d e B) :
  Opens P (Kd.slice e d) t (fun xs => xs.length * P.bytesOf e ≤ 140737488351232 ∧ ∀ x ∈ xs, B x) :=
 ⟨hc, fun {H enc W fuel cs x} hf hw => by
  rcases DataW.trod_slice ht hf with ⟨rfl, rfl⟩ | ⟨a, len, cap, elems, rest, n, _, rfl, rfl, hb, hl, hm, hlen, hel, hsp, hns⟩
  ·exact ⟨[], ⟨none, 0, rfl, Nat.le_refl _, Kd.C_nil d W⟩, by simp, fun x hx => by cases hx⟩
  ·simp only [DataW.weights, ht] at hw
   have each : ∀ i, i < len → ∃ z : α, B z ∧ ∃ c, c.length = d.sz ∧ d.K W z c ∧ ∀ j u, c[j]? = some u → W.cell? (a.add (i * d.sz + j)) = some u := by
    intro i hi
    have h1 := hel i hi
    have hi' : i < elems.length := by omega
    rw [List.getElem?_eq_getElem hi', Option.bind_eq_some_iff] at h1
    obtain ⟨c, hcs, hy⟩ := h1
    obtain ⟨-, h2, h3⟩ := World.cells?_some hcs
    obtain ⟨z, hz, hB⟩ := h.get hy (fun n hn => hw n (by
     simp only [List.mem_cons, List.mem_append]
     exact .inr (.inl (weights_all (List.mem_map.2 ⟨_, List.getElem_mem hi', rfl⟩) n hn))))
    refine ⟨z, hB, c, by rw [h2, h.sz], hz, fun j u hj => ?_⟩
    have hj' : j < P.cellsOf e := by
     have := (List.getElem?_eq_some_iff.1 hj).1
     omega
    have h4 := h3 j hj'
    rw [add_add, h.sz] at h4
    rw [h4, hj]
   obtain ⟨xs, hxl, hxs⟩ := each_list len each
   subst hxl
   have hz := hw _ (List.mem_cons_self ..)
   simp only [List.length_map] at hz
   have h5 : xs.length * P.bytesOf e ≤ (elems.length + rest.length) * P.bytesOf e := Nat.mul_le_mul_right _ (by omega)
   have h6 : reachBytes = 140737488351232 := rfl
   refine ⟨xs, ⟨some a, cap, rfl, hl, rfl, ?_, fun _ => ⟨a, rfl, fun j p hj => (hxs j p hj).2⟩⟩, by omega, fun x hx => ?_⟩
   ·have : maxLen = 9223372036854775807 := rfl
    omega
   ·obtain ⟨i, hi⟩ := List.getElem?_of_mem hx
    exact (hxs i x hi).1⟩
structure OpensF {α : Type} (P : Program) (d : Kd α) (fs : List Field) (o : Nat) (B : α → Prop) : Prop where
 get : ∀ {H : Type} {enc : TypeId × Value → H} {W : World} {n : Nat} {cs : List Value} {xs : List (DataW H × List MemPlace)}, xs.length = fs.length →
  (∀ (i : Nat) (f : Field), fs[i]? = some f → DataW.trod enc P W 0 (fun _ => true) true n f.type ((cs.drop f.offset).take (P.cellsOf f.type)) = xs[i]?) →
  (∀ m ∈ DataW.weightsEach P (fs.map (·.type)) (xs.map (·.1)), m ≤ reachBytes) → ∃ a, d.K W a ((cs.drop o).take d.sz) ∧ B a
theorem OpensF.one {α : Type} {P : Program} {d : Kd α} {B : α → Prop} {f : Field} {o : Nat} (ho : f.offset = o) (h : Opens P d f.type B) : OpensF P d [f] o B := by
 refine ⟨fun {H enc W n cs xs} hl hx hw => ?_⟩
 match xs, hl with
 | [x], _ =>
  have h0 := hx 0 f rfl
  rw [h.sz, ho] at h0
  simp only [List.getElem?_cons_zero] at h0
  exact h.get h0 (fun m hm => hw m (by simp only [List.map_cons, List.map_nil, DataW.weightsEach, List.mem_append]; exact .inl hm))
theorem OpensF.cons {α β : Type} {P : Program} {d : Kd α} {d' : Kd β} {B : α → Prop} {B' : β → Prop} {f : Field} {fs : List Field} {o : Nat} (ho : f.offset = o) (h : Opens P d f.type B) (h' : OpensF P d' fs (o + d.sz) B') :
  OpensF P (Kd.pair d d') (f :: fs) o (fun x => B x.1 ∧ B' x.2) := by
 refine ⟨fun {H enc W n cs xs} hl hx hw => ?_⟩
 match xs, hl with
 | x :: xs, hl =>
  have h0 := hx 0 f rfl
  rw [h.sz, ho] at h0
  simp only [List.getElem?_cons_zero] at h0
  obtain ⟨a, ha, hB⟩ := h.get h0 (fun m hm => hw m (by simp only [List.map_cons, DataW.weightsEach, List.mem_append]; exact .inl hm))
  obtain ⟨b, hb, hB'⟩ := h'.get (enc := enc) (W := W) (n := n) (cs := cs) (xs := xs) (by simpa using hl) (fun i g hg => by have := hx (i + 1) g (by simpa using hg); simpa using this)
   (fun m hm => hw m (by simp only [List.map_cons, DataW.weightsEach, List.mem_append]; exact .inr hm))
  refine ⟨(a, b), ⟨_, _, ?_, ha, hb⟩, hB, hB'⟩
  show (cs.drop o).take (d.sz + d'.sz) = _
  rw [List.take_add, List.drop_drop]
theorem Opens.struct {α β : Type} {P : Program} {d : Kd α} {B : α → Prop} {t : TypeId} {fs : Array Field} (ht : P.underlying t = some (.struct fs)) (hc : P.cellsOf t = d.sz) (h : OpensF P d fs.toList 0 B) (f : β → α) (g : α → β) (hg : ∀ a, f (g a) = a) :
  Opens P (Kd.iso d f) t (fun x => B (f x)) :=
 ⟨hc, fun {H enc W fuel cs x} hf hw => by
  obtain ⟨xs, n, _, rfl, hl, hlen, hx⟩ := DataW.trod_struct ht hf
  simp only [DataW.weights, ht] at hw
  obtain ⟨a, ha, hB⟩ := h.get (enc := enc) (W := W) (n := n) (cs := cs) (xs := xs) (by simpa using hlen) (fun i g hg => hx i g (by simpa using hg)) hw
  refine ⟨g a, ?_, by rw [hg]; exact hB⟩
  show d.K W (f (g a)) cs
  rw [hg]
  rw [List.drop_zero, List.take_of_length_le (by omega)] at ha
  exact ha⟩
theorem Opens.imp {α : Type} {P : Program} {d : Kd α} {t : TypeId} {B B' : α → Prop} (h : Opens P d t B) (hB : ∀ a, B a → B' a) : Opens P d t B' :=
 ⟨h.sz, fun hf hw => by obtain ⟨a, ha, hb⟩ := h.get hf hw; exact ⟨a, ha, hB a hb⟩⟩
theorem Opens.param {α : Type} {P : Program} {d : Kd α} {t : TypeId} {B : α → Prop} (h : Opens P d t B) {H : Type} {enc : TypeId × Value → H} {W : World} {v : Value} {x : DataW H} {p : List MemPlace} {ts : List TypeId} {ds : List (DataW H)} {j : Nat}
  (hsz : (DataW.weightsEach P ts ds).all (· ≤ reachBytes) = true) (hj : ts[j]? = some t) (hd : ds[j]? = some x) (ht : DataW.Trod enc P W 0 (fun _ => true) true t v x p) : ∃ a, d.K W a v.cells.toList ∧ B a := by
 obtain ⟨fuel, hf⟩ := ht
 exact h.get hf (fun n hn => by simpa using List.all_eq_true.1 hsz _ (DataW.weights_mem_each hj hd n hn))
theorem Opens.row {α : Type} {P : Program} {d : Kd α} {t e : TypeId} {B : List α → Prop} (h : Opens P (Kd.slice e d) t B) {H : Type} {enc : TypeId × Value → H} {W : World} {A : Option Addr} {n c : Nat} {x : DataW H} {p : List MemPlace} {ts : List TypeId} {ds : List (DataW H)} {j : Nat}
  (hsz : (DataW.weightsEach P ts ds).all (· ≤ reachBytes) = true) (hj : ts[j]? = some t) (hd : ds[j]? = some x) (ht : DataW.Trod enc P W 0 (fun _ => true) true t (.slice A n c) x p) :
  ∃ xs : List α, xs.length = n ∧ d.C W A n xs ∧ n ≤ c ∧ B xs := by
 obtain ⟨xs, ⟨A', c', he, hl, hC⟩, hB⟩ := h.param hsz hj hd ht
 simp [Value.cells] at he
 obtain ⟨rfl, rfl, rfl⟩ := he
 exact ⟨xs, rfl, hC, hl, hB⟩
end Go.Proofs.YtfmphccoeinhcaaDoor

namespace Go.Proofs.YtfmphccoeinhcaaDoor
open Go.RowKit Go.Proofs.YtfmphccoeinhcaaDoor.Print Go.Proofs.YtfmphccoeinhcaaDoorW.PrintWords
theorem o_str : Opens Tryd.prog Kd.string 9 (fun s => s.size ≤ 140737488351232) := Opens.string Tryd.underlying9 (by kernel_rfl)
theorem o_u8 : Opens Tryd.prog (Kd.int .u8) 5 (fun n => (Lit.int .u8 n).wf = true) := Opens.int Tryd.underlying5 (by kernel_rfl)
theorem o_int : Opens Tryd.prog (Kd.int .i64) 3 (fun n => (Lit.int .i64 n).wf = true) := Opens.int Tryd.underlying3 (by kernel_rfl)
theorem o_bytes : Opens Tryd.prog (Kd.slice 5 (Kd.int .u8)) 25 (fun xs => xs.length ≤ 140737488351232) :=
 (Opens.slice Tryd.underlying25 (by kernel_rfl) o_u8).imp (fun xs h => by
  have hb : Tryd.prog.bytesOf 5 = 1 := by kernel_rfl
  have h1 := h.1
  rw [hb] at h1
  omega)
theorem o_meta : Opens Tryd.prog k24 24 (fun _ => True) := by
 have h := Opens.struct Tryd.underlying24 (by kernel_rfl) (OpensF.cons rfl o_int (OpensF.cons rfl o_int (OpensF.cons rfl o_int (OpensF.one rfl o_int)))) (fun x : S24 => (x.f0, x.f1, x.f2, x.f3)) (fun p => ⟨p.1, p.2.1, p.2.2.1, p.2.2.2⟩) (fun _ => rfl)
 exact Opens.imp h (fun _ _ => trivial)
theorem o_node : Opens Tryd.prog k38 38 NodeZ := by
 have h := Opens.struct Tryd.underlying38 (by kernel_rfl) (OpensF.cons rfl o_str (OpensF.cons rfl o_str (OpensF.cons rfl o_str (OpensF.cons rfl o_u8 (OpensF.cons rfl o_meta (OpensF.one rfl o_bytes)))))) (fun x : S38 => (x.f0, x.f1, x.f2, x.f3, x.f4, x.f5)) (fun p => ⟨p.1, p.2.1, p.2.2.1, p.2.2.2.1, p.2.2.2.2.1, p.2.2.2.2.2⟩) (fun _ => rfl)
 exact Opens.imp h (fun _ hx => ⟨hx.1, hx.2.1, hx.2.2.1, hx.2.2.2.2.2⟩)
theorem o_nodes : Opens Tryd.prog (Kd.slice 38 k38) 31 (fun xs => (∀ x ∈ xs, NodeZ x) ∧ xs.length ≤ 140737488351232) :=
 (Opens.slice Tryd.underlying31 (by kernel_rfl) o_node).imp (fun xs h => ⟨h.2, by
  have hb : Tryd.prog.bytesOf 38 = 112 := by kernel_rfl
  have h1 := h.1
  rw [hb] at h1
  omega⟩)
end Go.Proofs.YtfmphccoeinhcaaDoor
