/-
  Part of the proof that SubParts answers true: texts put together (wip/bundle.py).
-/
import Derived.Test.YtfmphccoeinhcaaDoorCSubParts4
import Derived.SizedLaws
import Derived.ChangeSlices
import Derived.OpenShut
namespace Go.Proofs.YtfmphccoeinhcaaDoor
open Go.RowKit Go.Proofs.YtfmphccoeinhcaaDoor.Print Go.Proofs.YtfmphccoeinhcaaDoorW.PrintWords
set_option linter.unusedVariables false
theorem requal_f (a b : Node) : bindleref08_Equal.f a.f0 a.f1 a.f2 a.f3 a.f4.f0 a.f4.f1 a.f4.f2 a.f4.f3 a.f5 b.f0 b.f1 b.f2 b.f3 b.f4.f0 b.f4.f1 b.f4.f2 b.f4.f3 b.f5 = some (equalB a b) := by
 unfold bindleref08_Equal.f
 exact equal_chain a b rfl
theorem rdN_nat' (l : List Node) (j : Nat) (h : j < l.length) : rd_T38 l (j : Int) = l[j] := by rw [rdN_at l j (by omega) (by omega)]; simp
theorem sameB_size : ∀ (l r : List Node), sameB l r = true → l.length = r.length
 | [], [], _ => rfl
 | [], _ :: _, h => by cases h
 | _ :: _, [], h => by cases h
 | a :: l, b :: r, h => by
  rw [sameB, Bool.and_eq_true] at h
  rw [List.length_cons, List.length_cons, sameB_size l r h.2]
theorem sameTree_l (l r : List Node) (hl : l.length = r.length) (hlen : l.length ≤ 4611686018427387904) : ∀ (d i : Nat), i + d = l.length → Ev (fun k => bindleref08_SameTree.l0 k l r (i : Int)) (sameB (l.drop i) (r.drop i)) := by
 intro d
 induction d with
 | zero =>
  intro i hi
  rw [List.drop_of_length_le (by omega), List.drop_of_length_le (by omega)]
  exact Ev.step (f := fun _ => some true) (fun k => by rw [bindleref08_SameTree.l0, if_neg (by omega)]) (Ev.now _)
 | succ d ih =>
  intro i hi
  have hil : i < l.length := by omega
  have hir : i < r.length := by omega
  rw [List.drop_eq_getElem_cons hil, List.drop_eq_getElem_cons hir, sameB]
  by_cases he : l[i].f2.toList = r[i].f2.toList
  ·rw [decide_eq_true he, Bool.true_and]
   cases hb : equalB l[i] r[i] with
   | true =>
    rw [Bool.true_and]
    refine Ev.step (fun k => ?_) (ih (i + 1) (by omega))
    rw [bindleref08_SameTree.l0, if_pos (by omega), if_pos (by omega), if_pos (by omega), rdN_nat' l i hil, rdN_nat' r i hir, if_pos he, requal_f, hb, Option.bind_some, if_pos rfl]
    rw [show wrap64 ((i : Int) + 1) = ((i + 1 : Nat) : Int) by unfold wrap64; omega]
   | false =>
    rw [Bool.false_and]
    refine Ev.step (f := fun _ => some false) (fun k => ?_) (Ev.now _)
    rw [bindleref08_SameTree.l0, if_pos (by omega), if_pos (by omega), if_pos (by omega), rdN_nat' l i hil, rdN_nat' r i hir, if_pos he, requal_f, hb, Option.bind_some, if_neg (by simp)]
  ·rw [decide_eq_false he, Bool.false_and, Bool.false_and]
   refine Ev.step (f := fun _ => some false) (fun k => ?_) (Ev.now _)
   rw [bindleref08_SameTree.l0, if_pos (by omega), if_pos (by omega), if_pos (by omega), rdN_nat' l i hil, rdN_nat' r i hir, if_neg he]
theorem sameTree_eq (l r : List Node) (hlen : l.length ≤ 4611686018427387904) : Ev (fun k => bindleref08_SameTree.f k l r) (sameB l r) := by
 by_cases hl : l.length = r.length
 ·refine Ev.congr (fun k => ?_) (sameTree_l l r hl hlen l.length 0 (by omega))
  unfold bindleref08_SameTree.f
  rw [if_pos (by omega)]
  rfl
 ·have hf : sameB l r = false := by
   rw [Bool.eq_false_iff]
   exact fun h => hl (sameB_size l r h)
  rw [hf]
  refine Ev.congr (f := fun _ => some false) (fun k => ?_) (Ev.now _)
  unfold bindleref08_SameTree.f
  rw [if_neg (by omega)]
end Go.Proofs.YtfmphccoeinhcaaDoor

namespace Go.Proofs.YtfmphccoeinhcaaDoor.Print
open Go.RowKit Go.Proofs.YtfmphccoeinhcaaDoorW.PrintWords Go.Proofs.YtfmphccoeinhcaaDoorW.PrintLast Go.Proofs.YtfmphccoeinhcaaDoorW.PrintMore
attribute [local go_sem] max2_int min2_int max_two min_two max_three min_three max_four min_four   -- for this text's walks alone
set_option linter.unusedVariables false
set_option linter.unusedSimpArgs false
def bindlelaw20_pair.f  : Option ((List (S38))) := some (([(⟨(⟨#[97]⟩ : ByteArray), (⟨#[]⟩ : ByteArray), (⟨#[97]⟩ : ByteArray), 48, (⟨0, 0, 0, 0⟩ : S24), ([] : List Int)⟩ : S38), (⟨(⟨#[98]⟩ : ByteArray), (⟨#[]⟩ : ByteArray), (⟨#[97]⟩ : ByteArray), 48, (⟨0, 0, 0, 0⟩ : S24), ([] : List Int)⟩ : S38)] : List (S38)))
set_option maxHeartbeats 8000000 in
set_option maxRecDepth 100000 in
theorem bindlelaw20_pair.calls  (r : List (S38)) (w : World) (h : bindlelaw20_pair.f  = some r) :
  Calls Tryd.prog 53 #[] w fun e w' => ∃ v0_ : Value, e = .returned (v0_) ∧ Kd.S k38 38 w' w.heap.size (fun _ => True) v0_ r ∧ Below w.heap.size w w' := by
 have hu38 := Tryd.underlying38
 have HB := A0_ (Below.refl w.heap.size w)
 have H : (some (([(⟨(⟨#[97]⟩ : ByteArray), (⟨#[]⟩ : ByteArray), (⟨#[97]⟩ : ByteArray), 48, (⟨0, 0, 0, 0⟩ : S24), ([] : List Int)⟩ : S38), (⟨(⟨#[98]⟩ : ByteArray), (⟨#[]⟩ : ByteArray), (⟨#[97]⟩ : ByteArray), 48, (⟨0, 0, 0, 0⟩ : S24), ([] : List Int)⟩ : S38)] : List (S38)))) = some r := h
 clear h
 obtain ⟨y704, hy704⟩ : ∃ y_ : List (S38), y_ = (([(⟨(⟨#[97]⟩ : ByteArray), (⟨#[]⟩ : ByteArray), (⟨#[97]⟩ : ByteArray), 48, (⟨0, 0, 0, 0⟩ : S24), ([] : List Int)⟩ : S38), (⟨(⟨#[98]⟩ : ByteArray), (⟨#[]⟩ : ByteArray), (⟨#[97]⟩ : ByteArray), 48, (⟨0, 0, 0, 0⟩ : S24), ([] : List Int)⟩ : S38)] : List (S38))) := ⟨_, rfl⟩
 replace H : (some y704) = some r := by first | (rw [hy704]; with_reducible exact H) | (have H2_ := (Option.bind_some _ _).symm.trans H; rw [hy704]; with_reducible exact H2_) | (have H2_ := (Option.bind_some _ _).symm.trans H; with_reducible exact H2_) | with_reducible exact H | (rw [hy704]; exact H) | exact H
 have Ny704 := A0_ hy704
 clear hy704
 obtain rfl := Option.some.inj H
 go_enter Tryd.func53, Tryd.ntmps53
 go_wp2_with (first | ((with_reducible refine gate_dst (N := 3) rfl ?_); refine Kd.S_lit k38 _ 38 ?hg (N := 3) ?hd (xs := ([(⟨(⟨#[97]⟩ : ByteArray), (⟨#[]⟩ : ByteArray), (⟨#[97]⟩ : ByteArray), 48, (⟨0, 0, 0, 0⟩ : S24), ([] : List Int)⟩ : S38), (⟨(⟨#[98]⟩ : ByteArray), (⟨#[]⟩ : ByteArray), (⟨#[97]⟩ : ByteArray), 48, (⟨0, 0, 0, 0⟩ : S24), ([] : List Int)⟩ : S38)] : List (S38))) (inner := [.string (⟨#[97]⟩ : ByteArray), .string (⟨#[]⟩ : ByteArray), .string (⟨#[97]⟩ : ByteArray), .int .u8 48, .int .i64 0, .int .i64 0, .int .i64 0, .int .i64 0, .slice none 0 0, .string (⟨#[98]⟩ : ByteArray), .string (⟨#[]⟩ : ByteArray), .string (⟨#[97]⟩ : ByteArray), .int .u8 48, .int .i64 0, .int .i64 0, .int .i64 0, .int .i64 0, .slice none 0 0]) (ok := fun _ => True) (okp := fun _ => True) ?hr ?hp (fun _ hk => hk) trivial (Below.refl _ _) (Nat.le_refl _) (by simp) ?_; (case hd => rfl); (case hg => rfl); (case hr => first | (go_simp; done) | (go_simp; rfl)); (case hp => exact (Reps.c9 (show Kd.M k38 _ _ _ (⟨(⟨#[97]⟩ : ByteArray), (⟨#[]⟩ : ByteArray), (⟨#[97]⟩ : ByteArray), 48, (⟨0, 0, 0, 0⟩ : S24), ([] : List Int)⟩ : S38) [.string (⟨#[97]⟩ : ByteArray), .string (⟨#[]⟩ : ByteArray), .string (⟨#[97]⟩ : ByteArray), .int .u8 48, .int .i64 0, .int .i64 0, .int .i64 0, .int .i64 0, .slice none 0 0] from (k38_mkM _ _ _ (⟨(⟨#[97]⟩ : ByteArray), (⟨#[]⟩ : ByteArray), (⟨#[97]⟩ : ByteArray), 48, (⟨0, 0, 0, 0⟩ : S24), ([] : List Int)⟩ : S38) (Kd.R_nil _ _ _ _ _))) (Reps.c9 (show Kd.M k38 _ _ _ (⟨(⟨#[98]⟩ : ByteArray), (⟨#[]⟩ : ByteArray), (⟨#[97]⟩ : ByteArray), 48, (⟨0, 0, 0, 0⟩ : S24), ([] : List Int)⟩ : S38) [.string (⟨#[98]⟩ : ByteArray), .string (⟨#[]⟩ : ByteArray), .string (⟨#[97]⟩ : ByteArray), .int .u8 48, .int .i64 0, .int .i64 0, .int .i64 0, .int .i64 0, .slice none 0 0] from (k38_mkM _ _ _ (⟨(⟨#[98]⟩ : ByteArray), (⟨#[]⟩ : ByteArray), (⟨#[97]⟩ : ByteArray), 48, (⟨0, 0, 0, 0⟩ : S24), ([] : List Int)⟩ : S38) (Kd.R_nil _ _ _ _ _))) (Reps.none _ _)))); intro v705 w1 ho2 hb hg_ hnew_; clear hg_ hnew_; (first | rw [← Ny704.out] at ho2 | (simp only [Int.reduceToNat] at ho2; rw [← Ny704.out] at ho2)); have n0_ := A0_ (Kd.S_lower ho2 (below_size (wb_ HB.out))); have n1_ := A0_ (below_step (wb_ HB.out) hb); clear HB; have HO706 := n0_; have HB := n1_; clear n0_ n1_; clear hb ho2))
 go_ret
 exact ⟨_, we_, wS_ HO706.out, wb_ HB.out⟩
end Go.Proofs.YtfmphccoeinhcaaDoor.Print

namespace Go.Proofs.YtfmphccoeinhcaaDoor.Print
open Go.RowKit Go.Proofs.YtfmphccoeinhcaaDoorW.PrintWords Go.Proofs.YtfmphccoeinhcaaDoorW.PrintLast Go.Proofs.YtfmphccoeinhcaaDoorW.PrintMore
attribute [local go_sem] max2_int min2_int max_two min_two max_three min_three max_four min_four   -- for this text's walks alone
set_option linter.unusedVariables false
set_option linter.unusedSimpArgs false
def bindlelaw20_answers.f  : Option (Bool) := (bindlelaw20_pair.f).bind fun t707 => ((sub_Keep.f t707 (([(⟨#[98]⟩ : ByteArray), (⟨#[120]⟩ : ByteArray)] : List ByteArray))).bind fun bt713 => ((bindlelaw20_pair.f).bind fun t717 => ((sub_Subtract.f t717 bt713.1 false).bind fun bt720 => ((sub_Keep.f (([(⟨(⟨#[]⟩ : ByteArray), (⟨#[]⟩ : ByteArray), (⟨#[]⟩ : ByteArray), 0, (⟨0, 0, 0, 0⟩ : S24), ([] : List Int)⟩ : S38)] : List (S38))) ([] : List ByteArray)).bind fun bt727 => (if bt713.2 = 0 then (if (bt713.1.length : Int) = 1 then (if 0 < (bt713.1.length : Int) then (if ((rd_T38 bt713.1 0).f2).toList = ([98] : List UInt8) then (if bt720.2 = 0 then (if (bt720.1.length : Int) = 1 then (if 0 < (bt720.1.length : Int) then (if ((rd_T38 bt720.1 0).f0).toList = ([97] : List UInt8) then (some (bt727.2 == 1)) else (some false)) else (none)) else (some false)) else (some false)) else (some false)) else (none)) else (some false)) else (some false))))))
theorem bindlelaw20_answers.val : bindlelaw20_answers.f = some true := by kernel_rfl
set_option maxHeartbeats 8000000 in
set_option maxRecDepth 100000 in
theorem bindlelaw20_answers.calls  (r : Bool) (w : World) (hT : Aside0 (Tabs w)) (h : bindlelaw20_answers.f  = some r) :
  Calls Tryd.prog 35 #[] w fun e w' => e = .returned (.bool r) ∧ Below w.heap.size w w' := by
 have hr_ : r = true := Option.some.inj (h.symm.trans bindlelaw20_answers.val)
 have hu38 := Tryd.underlying38
 have HB := A0_ (Below.refl w.heap.size w)
 have H : ((bindlelaw20_pair.f).bind fun t707 => ((sub_Keep.f t707 (([(⟨#[98]⟩ : ByteArray), (⟨#[120]⟩ : ByteArray)] : List ByteArray))).bind fun bt713 => ((bindlelaw20_pair.f).bind fun t717 => ((sub_Subtract.f t717 bt713.1 false).bind fun bt720 => ((sub_Keep.f (([(⟨(⟨#[]⟩ : ByteArray), (⟨#[]⟩ : ByteArray), (⟨#[]⟩ : ByteArray), 0, (⟨0, 0, 0, 0⟩ : S24), ([] : List Int)⟩ : S38)] : List (S38))) ([] : List ByteArray)).bind fun bt727 => (if bt713.2 = 0 then (if (bt713.1.length : Int) = 1 then (if 0 < (bt713.1.length : Int) then (if ((rd_T38 bt713.1 0).f2).toList = ([98] : List UInt8) then (if bt720.2 = 0 then (if (bt720.1.length : Int) = 1 then (if 0 < (bt720.1.length : Int) then (if ((rd_T38 bt720.1 0).f0).toList = ([97] : List UInt8) then (some (bt727.2 == 1)) else (some false)) else (none)) else (some false)) else (some false)) else (some false)) else (none)) else (some false)) else (some false))))))) = some r := h
 clear h
 replace H := Option.bind_eq_some_iff.mp H
 obtain ⟨t707, A10, H⟩ := H
 replace H : ((sub_Keep.f t707 (([(⟨#[98]⟩ : ByteArray), (⟨#[120]⟩ : ByteArray)] : List ByteArray))).bind fun bt713 => ((bindlelaw20_pair.f).bind fun t717 => ((sub_Subtract.f t717 bt713.1 false).bind fun bt720 => ((sub_Keep.f (([(⟨(⟨#[]⟩ : ByteArray), (⟨#[]⟩ : ByteArray), (⟨#[]⟩ : ByteArray), 0, (⟨0, 0, 0, 0⟩ : S24), ([] : List Int)⟩ : S38)] : List (S38))) ([] : List ByteArray)).bind fun bt727 => (if bt713.2 = 0 then (if (bt713.1.length : Int) = 1 then (if 0 < (bt713.1.length : Int) then (if ((rd_T38 bt713.1 0).f2).toList = ([98] : List UInt8) then (if bt720.2 = 0 then (if (bt720.1.length : Int) = 1 then (if 0 < (bt720.1.length : Int) then (if ((rd_T38 bt720.1 0).f0).toList = ([97] : List UInt8) then (some (bt727.2 == 1)) else (some false)) else (none)) else (some false)) else (some false)) else (some false)) else (none)) else (some false)) else (some false)))))) = some r := H
 have A1 := A0_ A10
 clear A10
 obtain ⟨y710, hy710⟩ : ∃ y_ : List ByteArray, y_ = (([(⟨#[98]⟩ : ByteArray), (⟨#[120]⟩ : ByteArray)] : List ByteArray)) := ⟨_, rfl⟩
 replace H : ((sub_Keep.f t707 y710).bind fun bt713 => ((bindlelaw20_pair.f).bind fun t717 => ((sub_Subtract.f t717 bt713.1 false).bind fun bt720 => ((sub_Keep.f (([(⟨(⟨#[]⟩ : ByteArray), (⟨#[]⟩ : ByteArray), (⟨#[]⟩ : ByteArray), 0, (⟨0, 0, 0, 0⟩ : S24), ([] : List Int)⟩ : S38)] : List (S38))) ([] : List ByteArray)).bind fun bt727 => (if bt713.2 = 0 then (if (bt713.1.length : Int) = 1 then (if 0 < (bt713.1.length : Int) then (if ((rd_T38 bt713.1 0).f2).toList = ([98] : List UInt8) then (if bt720.2 = 0 then (if (bt720.1.length : Int) = 1 then (if 0 < (bt720.1.length : Int) then (if ((rd_T38 bt720.1 0).f0).toList = ([97] : List UInt8) then (some (bt727.2 == 1)) else (some false)) else (none)) else (some false)) else (some false)) else (some false)) else (none)) else (some false)) else (some false)))))) = some r := by first | (rw [hy710]; with_reducible exact H) | (have H2_ := (Option.bind_some _ _).symm.trans H; rw [hy710]; with_reducible exact H2_) | (have H2_ := (Option.bind_some _ _).symm.trans H; with_reducible exact H2_) | with_reducible exact H | (rw [hy710]; exact H) | exact H
 have Ny710 := A0_ hy710
 clear hy710
 replace H := Option.bind_eq_some_iff.mp H
 obtain ⟨⟨t713, t716⟩, A20, H⟩ := H
 replace H : ((bindlelaw20_pair.f).bind fun t717 => ((sub_Subtract.f t717 t713 false).bind fun bt720 => ((sub_Keep.f (([(⟨(⟨#[]⟩ : ByteArray), (⟨#[]⟩ : ByteArray), (⟨#[]⟩ : ByteArray), 0, (⟨0, 0, 0, 0⟩ : S24), ([] : List Int)⟩ : S38)] : List (S38))) ([] : List ByteArray)).bind fun bt727 => (if t716 = 0 then (if (t713.length : Int) = 1 then (if 0 < (t713.length : Int) then (if ((rd_T38 t713 0).f2).toList = ([98] : List UInt8) then (if bt720.2 = 0 then (if (bt720.1.length : Int) = 1 then (if 0 < (bt720.1.length : Int) then (if ((rd_T38 bt720.1 0).f0).toList = ([97] : List UInt8) then (some (bt727.2 == 1)) else (some false)) else (none)) else (some false)) else (some false)) else (some false)) else (none)) else (some false)) else (some false))))) = some r := H
 have A2 := A0_ A20
 clear A20
 replace H := Option.bind_eq_some_iff.mp H
 obtain ⟨t717, A30, H⟩ := H
 replace H : ((sub_Subtract.f t717 t713 false).bind fun bt720 => ((sub_Keep.f (([(⟨(⟨#[]⟩ : ByteArray), (⟨#[]⟩ : ByteArray), (⟨#[]⟩ : ByteArray), 0, (⟨0, 0, 0, 0⟩ : S24), ([] : List Int)⟩ : S38)] : List (S38))) ([] : List ByteArray)).bind fun bt727 => (if t716 = 0 then (if (t713.length : Int) = 1 then (if 0 < (t713.length : Int) then (if ((rd_T38 t713 0).f2).toList = ([98] : List UInt8) then (if bt720.2 = 0 then (if (bt720.1.length : Int) = 1 then (if 0 < (bt720.1.length : Int) then (if ((rd_T38 bt720.1 0).f0).toList = ([97] : List UInt8) then (some (bt727.2 == 1)) else (some false)) else (none)) else (some false)) else (some false)) else (some false)) else (none)) else (some false)) else (some false)))) = some r := H
 have A3 := A0_ A30
 clear A30
 replace H := Option.bind_eq_some_iff.mp H
 obtain ⟨⟨t720, t723⟩, A40, H⟩ := H
 replace H : ((sub_Keep.f (([(⟨(⟨#[]⟩ : ByteArray), (⟨#[]⟩ : ByteArray), (⟨#[]⟩ : ByteArray), 0, (⟨0, 0, 0, 0⟩ : S24), ([] : List Int)⟩ : S38)] : List (S38))) ([] : List ByteArray)).bind fun bt727 => (if t716 = 0 then (if (t713.length : Int) = 1 then (if 0 < (t713.length : Int) then (if ((rd_T38 t713 0).f2).toList = ([98] : List UInt8) then (if t723 = 0 then (if (t720.length : Int) = 1 then (if 0 < (t720.length : Int) then (if ((rd_T38 t720 0).f0).toList = ([97] : List UInt8) then (some (bt727.2 == 1)) else (some false)) else (none)) else (some false)) else (some false)) else (some false)) else (none)) else (some false)) else (some false))) = some r := H
 have A4 := A0_ A40
 clear A40
 obtain ⟨y724, hy724⟩ : ∃ y_ : List (S38), y_ = (([(⟨(⟨#[]⟩ : ByteArray), (⟨#[]⟩ : ByteArray), (⟨#[]⟩ : ByteArray), 0, (⟨0, 0, 0, 0⟩ : S24), ([] : List Int)⟩ : S38)] : List (S38))) := ⟨_, rfl⟩
 replace H : ((sub_Keep.f y724 ([] : List ByteArray)).bind fun bt727 => (if t716 = 0 then (if (t713.length : Int) = 1 then (if 0 < (t713.length : Int) then (if ((rd_T38 t713 0).f2).toList = ([98] : List UInt8) then (if t723 = 0 then (if (t720.length : Int) = 1 then (if 0 < (t720.length : Int) then (if ((rd_T38 t720 0).f0).toList = ([97] : List UInt8) then (some (bt727.2 == 1)) else (some false)) else (none)) else (some false)) else (some false)) else (some false)) else (none)) else (some false)) else (some false))) = some r := by first | (rw [hy724]; with_reducible exact H) | (have H2_ := (Option.bind_some _ _).symm.trans H; rw [hy724]; with_reducible exact H2_) | (have H2_ := (Option.bind_some _ _).symm.trans H; with_reducible exact H2_) | with_reducible exact H | (rw [hy724]; exact H) | exact H
 have Ny724 := A0_ hy724
 clear hy724
 replace H := Option.bind_eq_some_iff.mp H
 obtain ⟨⟨t727, t730⟩, A50, H⟩ := H
 replace H : (if t716 = 0 then (if (t713.length : Int) = 1 then (if 0 < (t713.length : Int) then (if ((rd_T38 t713 0).f2).toList = ([98] : List UInt8) then (if t723 = 0 then (if (t720.length : Int) = 1 then (if 0 < (t720.length : Int) then (if ((rd_T38 t720 0).f0).toList = ([97] : List UInt8) then (some (t730 == 1)) else (some false)) else (none)) else (some false)) else (some false)) else (some false)) else (none)) else (some false)) else (some false)) = some r := H
 have A5 := A0_ A50
 clear A50
 by_cases c6 : t716 = 0
 rotate_left
 ·rw [if_neg c6] at H
  have c6b0 : (t716 == 0) = false := beq_eq_false_iff_ne.mpr c6
  have c6b1 : (t716 != 0) = true := bne_iff_ne.mpr c6
  exact absurd ((Option.some.inj H).trans hr_) (by decide)
 rw [if_pos c6] at H
 have c6b0 : (t716 == 0) = true := beq_iff_eq.mpr c6
 have c6b1 : (t716 != 0) = false := bne_eq_false_iff_eq.mpr c6
 clear c6
 by_cases c7 : (t713.length : Int) = 1
 rotate_left
 ·rw [if_neg c7] at H
  have c7b0 : ((t713.length : Int) == 1) = false := beq_eq_false_iff_ne.mpr c7
  have c7b1 : ((t713.length : Int) != 1) = true := bne_iff_ne.mpr c7
  exact absurd ((Option.some.inj H).trans hr_) (by decide)
 rw [if_pos c7] at H
 have c7b0 : ((t713.length : Int) == 1) = true := beq_iff_eq.mpr c7
 have c7b1 : ((t713.length : Int) != 1) = false := bne_eq_false_iff_eq.mpr c7
 clear c7
 by_cases c8 : 0 < (t713.length : Int)
 rotate_left
 ·rw [if_neg c8] at H
  exact absurd H (by simp)
 rw [if_pos c8] at H
 have c8b0 : decide (0 < (t713.length : Int)) = true := decide_eq_true c8
 have c8b1 : decide (0 < t713.length) = true := decide_eq_true (by omega)
 clear c8
 by_cases c9 : ((rd_T38 t713 0).f2).toList = ([98] : List UInt8)
 rotate_left
 ·rw [if_neg c9] at H
  have c9b0 : (((rd_T38 t713 0).f2).toList == ([98] : List UInt8)) = false := beq_eq_false_iff_ne.mpr c9
  have c9b1 : (((rd_T38 t713 0).f2).toList != ([98] : List UInt8)) = true := bne_iff_ne.mpr c9
  exact absurd ((Option.some.inj H).trans hr_) (by decide)
 rw [if_pos c9] at H
 have c9b0 : (((rd_T38 t713 0).f2).toList == ([98] : List UInt8)) = true := beq_iff_eq.mpr c9
 have c9b1 : (((rd_T38 t713 0).f2).toList != ([98] : List UInt8)) = false := bne_eq_false_iff_eq.mpr c9
 clear c9
 by_cases c10 : t723 = 0
 rotate_left
 ·rw [if_neg c10] at H
  have c10b0 : (t723 == 0) = false := beq_eq_false_iff_ne.mpr c10
  have c10b1 : (t723 != 0) = true := bne_iff_ne.mpr c10
  exact absurd ((Option.some.inj H).trans hr_) (by decide)
 rw [if_pos c10] at H
 have c10b0 : (t723 == 0) = true := beq_iff_eq.mpr c10
 have c10b1 : (t723 != 0) = false := bne_eq_false_iff_eq.mpr c10
 clear c10
 by_cases c11 : (t720.length : Int) = 1
 rotate_left
 ·rw [if_neg c11] at H
  have c11b0 : ((t720.length : Int) == 1) = false := beq_eq_false_iff_ne.mpr c11
  have c11b1 : ((t720.length : Int) != 1) = true := bne_iff_ne.mpr c11
  exact absurd ((Option.some.inj H).trans hr_) (by decide)
 rw [if_pos c11] at H
 have c11b0 : ((t720.length : Int) == 1) = true := beq_iff_eq.mpr c11
 have c11b1 : ((t720.length : Int) != 1) = false := bne_eq_false_iff_eq.mpr c11
 clear c11
 by_cases c12 : 0 < (t720.length : Int)
 rotate_left
 ·rw [if_neg c12] at H
  exact absurd H (by simp)
 rw [if_pos c12] at H
 have c12b0 : decide (0 < (t720.length : Int)) = true := decide_eq_true c12
 have c12b1 : decide (0 < t720.length) = true := decide_eq_true (by omega)
 clear c12
 by_cases c13 : ((rd_T38 t720 0).f0).toList = ([97] : List UInt8)
 rotate_left
 ·rw [if_neg c13] at H
  have c13b0 : (((rd_T38 t720 0).f0).toList == ([97] : List UInt8)) = false := beq_eq_false_iff_ne.mpr c13
  have c13b1 : (((rd_T38 t720 0).f0).toList != ([97] : List UInt8)) = true := bne_iff_ne.mpr c13
  exact absurd ((Option.some.inj H).trans hr_) (by decide)
 rw [if_pos c13] at H
 have c13b0 : (((rd_T38 t720 0).f0).toList == ([97] : List UInt8)) = true := beq_iff_eq.mpr c13
 have c13b1 : (((rd_T38 t720 0).f0).toList != ([97] : List UInt8)) = false := bne_eq_false_iff_eq.mpr c13
 clear c13
 clear hr_
 obtain rfl := Option.some.inj H
 go_enter Tryd.func35, Tryd.ntmps35
 go_wp2_with (first | ((with_reducible refine gate_callee (f := 53) rfl ?_); refine goesL_ (some 8) rfl rfl Tryd.func53 (by kernel_rfl) rfl #[] rfl wm_ ?_; (with_reducible refine (bindlelaw20_pair.calls  t707 _ A1.out).mono ?_); rintro e w14 ⟨v708, rfl, ho0, hb⟩; refine ⟨_, rfl, ?_⟩; have n0_ := A0_ (Kd.S_lower ho0 (below_size (wb_ HB.out))); have n1_ := A0_ (below_step (wb_ HB.out) hb); clear HB; have HO709 := n0_; have HB := n1_; clear n0_ n1_; (try clear hb); (try clear hb2); (try clear hk); (try clear hi); (try clear ho0)) | ((with_reducible refine gate_dst (N := 9) rfl ?_); (try (refine gate_guard (by rfl) ?_; dsimp only)); refine Kd.R_lit Kd.string _ 9 ?hg (N := 9) ?hd (xs := ([(⟨#[98]⟩ : ByteArray), (⟨#[120]⟩ : ByteArray)] : List ByteArray)) (inner := [.string (⟨#[98]⟩ : ByteArray), .string (⟨#[120]⟩ : ByteArray)]) (ok := fun _ => True) (okp := fun _ => True) ?hr ?hp (fun _ hk => hk) trivial (Below.refl _ _) (Nat.le_refl _) (by simp) ?_; (case hd => rfl); (case hg => rfl); (case hr => first | (go_simp; done) | (go_simp; rfl)); (case hp => exact (Reps.one (show Kd.M Kd.string _ _ _ (⟨#[98]⟩ : ByteArray) [.string (⟨#[98]⟩ : ByteArray)] from rfl) (Reps.one (show Kd.M Kd.string _ _ _ (⟨#[120]⟩ : ByteArray) [.string (⟨#[120]⟩ : ByteArray)] from rfl) (Reps.none _ _)))); intro v711 w15 ho16 hb hg_ hnew_; clear hg_ hnew_; (first | rw [← Ny710.out] at ho16 | (simp only [Int.reduceToNat] at ho16; rw [← Ny710.out] at ho16)); have n0_ := A0_ (Sb_ (wS_ HO709.out) hb); have n1_ := A0_ (Kd.R_lower ho16 (below_size (wb_ HB.out))); have n2_ := A0_ (below_step (wb_ HB.out) hb); clear HO709; clear HB; have HO709 := n0_; have HO712 := n1_; have HB := n2_; clear n0_ n1_ n2_; clear hb ho16; obtain ⟨Ao17, co17, eo17⟩ := Kd.S_slice HO709.out; subst eo17; obtain ⟨Ao18, co18, eo18⟩ := Kd.R_slice HO712.out; subst eo18) | ((with_reducible refine gate_callee (f := 36) rfl ?_); refine goesL_ (some 10) rfl rfl Tryd.func36 (by kernel_rfl) rfl #[.slice Ao17 t707.length co17, .slice Ao18 y710.length co18] rfl wm_ ?_; (with_reducible refine (sub_Keep.calls _ _ t707 _ _ y710 t713 t716 _ ?side1 ?side2 ?side3 ?side4 ?side5 A2.out).mono ?_); (case side1 => exact A0_ (Tabs.below hT.out (wb_ HB.out))); (case side2 => exact wc_ (Kd.S_reads' HO709.out).2.2); (case side3 => exact (Kd.S_reads' HO709.out).2.1); (case side4 => exact wc_ (Kd.R_reads' HO712.out).2.2); (case side5 => exact (Kd.R_reads' HO712.out).2.1); rintro e w19 ⟨v714, rfl, ho0, hb⟩; refine ⟨_, rfl, ?_⟩; have n0_ := A0_ (Sb_ (wS_ HO709.out) hb); have n1_ := A0_ (Rb_ (wR_ HO712.out) hb); have n2_ := A0_ (Kd.V_lower (Kd.V_mono (ok' := fun k_ => some k_ ≠ (.slice Ao17 t707.length co17 : Value).ownBlock ∧ some k_ ≠ (.slice Ao18 y710.length co18 : Value).ownBlock) ho0 (fun k_ hk_ => ⟨(Kd.fresh' (Kd.S_lt (wS_ HO709.out)) k_ hk_), (Kd.fresh' (Kd.R_lt (wR_ HO712.out)) k_ hk_)⟩)) (below_size (wb_ HB.out))); have n3_ := A0_ (below_step (wb_ HB.out) hb); clear HO709; clear HO712; clear HB; have HO709 := n0_; have HO712 := n1_; have HO715 := n2_; have HB := n3_; clear n0_ n1_ n2_ n3_; (try clear hb); (try clear hb2); (try clear hk); (try clear hi); (try clear ho0)) | ((with_reducible refine gate_callee (f := 53) rfl ?_); refine goesL_ (some 14) rfl rfl Tryd.func53 (by kernel_rfl) rfl #[] rfl wm_ ?_; (with_reducible refine (bindlelaw20_pair.calls  t717 _ A3.out).mono ?_); rintro e w20 ⟨v718, rfl, ho0, hb⟩; refine ⟨_, rfl, ?_⟩; have n0_ := A0_ (Kd.S_elder' (wS_ HO709.out) (Kd.S_base ho0) hb); have n1_ := A0_ (Rb_ (wR_ HO712.out) hb); have n2_ := A0_ (Kd.V_elder' (wV_ HO715.out) (Kd.S_base ho0) hb); have n3_ := A0_ (Kd.S_lower (Kd.S_new' ho0 (Kd.S_lt (wS_ HO709.out))) (below_size (wb_ HB.out))); have n4_ := A0_ (below_step (wb_ HB.out) hb); clear HO709; clear HO712; clear HO715; clear HB; have HO709 := n0_; have HO712 := n1_; have HO715 := n2_; have HO719 := n3_; have HB := n4_; clear n0_ n1_ n2_ n3_ n4_; (try clear hb); (try clear hb2); (try clear hk); (try clear hi); (try clear ho0); obtain ⟨Ao21, co21, eo21⟩ := Kd.S_slice HO719.out; subst eo21; obtain ⟨Ao22, co22, eo22⟩ := Kd.V_slice HO715.out; subst eo22) | ((with_reducible refine gate_callee (f := 38) rfl ?_); refine goesL_ (some 16) rfl rfl Tryd.func38 (by kernel_rfl) rfl #[.slice Ao21 t717.length co21, .slice Ao22 t713.length co22, .bool false] rfl wm_ ?_; (with_reducible refine (sub_Subtract.calls _ _ t717 _ _ t713 false t720 t723 _ ?side1 ?side2 ?side3 ?side4 ?side5 A4.out).mono ?_); (case side1 => exact A0_ (Tabs.below hT.out (wb_ HB.out))); (case side2 => exact wc_ (Kd.S_reads' HO719.out).2.2); (case side3 => exact (Kd.S_reads' HO719.out).2.1); (case side4 => exact wc_ (Kd.V_reads' HO715.out).2.2); (case side5 => exact (Kd.V_reads' HO715.out).2.1); rintro e w23 ⟨v721, rfl, ho0, hb⟩; refine ⟨_, rfl, ?_⟩; have n0_ := A0_ (Sb_ (wS_ HO709.out) hb); have n1_ := A0_ (Rb_ (wR_ HO712.out) hb); have n2_ := A0_ (Vb_ (wV_ HO715.out) hb); have n3_ := A0_ (Sb_ (wS_ HO719.out) hb); have n4_ := A0_ (Kd.V_lower (Kd.V_mono (ok' := fun k_ => some k_ ≠ (.slice Ao17 t707.length co17 : Value).ownBlock ∧ some k_ ≠ (.slice Ao18 y710.length co18 : Value).ownBlock ∧ some k_ ≠ (.slice Ao21 t717.length co21 : Value).ownBlock) ho0 (fun k_ hk_ => ⟨(Kd.fresh' (Kd.S_lt (wS_ HO709.out)) k_ hk_), (Kd.fresh' (Kd.R_lt (wR_ HO712.out)) k_ hk_), (Kd.fresh' (Kd.S_lt (wS_ HO719.out)) k_ hk_)⟩)) (below_size (wb_ HB.out))); have n5_ := A0_ (below_step (wb_ HB.out) hb); clear HO709; clear HO712; clear HO715; clear HO719; clear HB; have HO709 := n0_; have HO712 := n1_; have HO715 := n2_; have HO719 := n3_; have HO722 := n4_; have HB := n5_; clear n0_ n1_ n2_ n3_ n4_ n5_; (try clear hb); (try clear hb2); (try clear hk); (try clear hi); (try clear ho0)) | ((with_reducible refine gate_dst (N := 21) rfl ?_); (try (refine gate_guard (by rfl) ?_; dsimp only)); refine Kd.S_lit k38 _ 38 ?hg (N := 21) ?hd (xs := ([(⟨(⟨#[]⟩ : ByteArray), (⟨#[]⟩ : ByteArray), (⟨#[]⟩ : ByteArray), 0, (⟨0, 0, 0, 0⟩ : S24), ([] : List Int)⟩ : S38)] : List (S38))) (inner := [.string (⟨#[]⟩ : ByteArray), .string (⟨#[]⟩ : ByteArray), .string (⟨#[]⟩ : ByteArray), .int .u8 0, .int .i64 0, .int .i64 0, .int .i64 0, .int .i64 0, .slice none 0 0]) (ok := fun _ => True) (okp := fun _ => True) ?hr ?hp (fun _ hk => hk) trivial (Below.refl _ _) (Nat.le_refl _) (by simp) ?_; (case hd => rfl); (case hg => rfl); (case hr => first | (go_simp; done) | (go_simp; rfl)); (case hp => exact (Reps.c9 (show Kd.M k38 _ _ _ (⟨(⟨#[]⟩ : ByteArray), (⟨#[]⟩ : ByteArray), (⟨#[]⟩ : ByteArray), 0, (⟨0, 0, 0, 0⟩ : S24), ([] : List Int)⟩ : S38) [.string (⟨#[]⟩ : ByteArray), .string (⟨#[]⟩ : ByteArray), .string (⟨#[]⟩ : ByteArray), .int .u8 0, .int .i64 0, .int .i64 0, .int .i64 0, .int .i64 0, .slice none 0 0] from (k38_mkM _ _ _ (⟨(⟨#[]⟩ : ByteArray), (⟨#[]⟩ : ByteArray), (⟨#[]⟩ : ByteArray), 0, (⟨0, 0, 0, 0⟩ : S24), ([] : List Int)⟩ : S38) (Kd.R_nil _ _ _ _ _))) (Reps.none _ _))); intro v725 w24 ho25 hb hg_ hnew_; clear hg_ hnew_; (first | rw [← Ny724.out] at ho25 | (simp only [Int.reduceToNat] at ho25; rw [← Ny724.out] at ho25)); have n0_ := A0_ (Kd.S_elder' (wS_ HO709.out) (Kd.S_base ho25) hb); have n1_ := A0_ (Rb_ (wR_ HO712.out) hb); have n2_ := A0_ (Kd.V_elder' (wV_ HO715.out) (Kd.S_base ho25) hb); have n3_ := A0_ (Kd.S_elder' (wS_ HO719.out) (Kd.S_base ho25) hb); have n4_ := A0_ (Kd.V_elder' (wV_ HO722.out) (Kd.S_base ho25) hb); have n5_ := A0_ (Kd.S_lower (Kd.S_new' (Kd.S_new' ho25 (Kd.S_lt (wS_ HO709.out))) (Kd.S_lt (wS_ HO719.out))) (below_size (wb_ HB.out))); have n6_ := A0_ (below_step (wb_ HB.out) hb); clear HO709; clear HO712; clear HO715; clear HO719; clear HO722; clear HB; have HO709 := n0_; have HO712 := n1_; have HO715 := n2_; have HO719 := n3_; have HO722 := n4_; have HO726 := n5_; have HB := n6_; clear n0_ n1_ n2_ n3_ n4_ n5_ n6_; clear hb ho25; obtain ⟨Ao26, co26, eo26⟩ := Kd.S_slice HO726.out; subst eo26) | ((with_reducible refine gate_callee (f := 36) rfl ?_); refine goesL_ (some 22) rfl rfl Tryd.func36 (by kernel_rfl) rfl #[.slice Ao26 y724.length co26, .slice none 0 0] rfl wm_ ?_; (refine (sub_Keep.calls _ _ y724 _ _ ([] : List ByteArray) t727 t730 _ ?side1 ?side2 ?side3 ?side4 ?side5 A5.out).mono ?_); (case side1 => exact A0_ (Tabs.below hT.out (wb_ HB.out))); (case side2 => exact wc_ (Kd.S_reads' HO726.out).2.2); (case side3 => exact (Kd.S_reads' HO726.out).2.1); (case side4 => exact Kd.C_nil _ _); (case side5 => exact Nat.le_refl _); rintro e w27 ⟨v728, rfl, ho0, hb⟩; refine ⟨_, rfl, ?_⟩; have n0_ := A0_ (Sb_ (wS_ HO709.out) hb); have n1_ := A0_ (Rb_ (wR_ HO712.out) hb); have n2_ := A0_ (Vb_ (wV_ HO715.out) hb); have n3_ := A0_ (Sb_ (wS_ HO719.out) hb); have n4_ := A0_ (Vb_ (wV_ HO722.out) hb); have n5_ := A0_ (Sb_ (wS_ HO726.out) hb); have n6_ := A0_ (Kd.V_lower (Kd.V_mono (ok' := fun k_ => some k_ ≠ (.slice Ao17 t707.length co17 : Value).ownBlock ∧ some k_ ≠ (.slice Ao18 y710.length co18 : Value).ownBlock ∧ some k_ ≠ (.slice Ao21 t717.length co21 : Value).ownBlock ∧ some k_ ≠ (.slice Ao26 y724.length co26 : Value).ownBlock) ho0 (fun k_ hk_ => ⟨(Kd.fresh' (Kd.S_lt (wS_ HO709.out)) k_ hk_), (Kd.fresh' (Kd.R_lt (wR_ HO712.out)) k_ hk_), (Kd.fresh' (Kd.S_lt (wS_ HO719.out)) k_ hk_), (Kd.fresh' (Kd.S_lt (wS_ HO726.out)) k_ hk_)⟩)) (below_size (wb_ HB.out))); have n7_ := A0_ (below_step (wb_ HB.out) hb); clear HO709; clear HO712; clear HO715; clear HO719; clear HO722; clear HO726; clear HB; have HO709 := n0_; have HO712 := n1_; have HO715 := n2_; have HO719 := n3_; have HO722 := n4_; have HO726 := n5_; have HO729 := n6_; have HB := n7_; clear n0_ n1_ n2_ n3_ n4_ n5_ n6_ n7_; (try clear hb); (try clear hb2); (try clear hk); (try clear hi); (try clear ho0); have p731 : 0 ≤ (0 : Int) := (by omega); have q731 : 0 < (t713.length : Int) := wd_; obtain ⟨ad731, A731_8, c731_8, e731, hx731_0, hx731_1, hx731_2, hx731_3, hx731_4, hx731_5, hx731_6, hx731_7, hx731_8, hl731_8, hi731_8⟩ := at_T38 (Kd.V_reads' HO715.out).2.2 0 p731 q731; cases e731; obtain ⟨ce731, hce731, hMe731, hcc731⟩ := Kd.V_get HO715.out z38 0 p731 (by first | exact q731 | exact wd_ | (have e_ := (Kd.V_reads' HO715.out).1; omega)); obtain ⟨ua731_8, uc731_8, rfl, ul731_8, ge731_8⟩ := k38_openF hMe731; have hv731_8 := hcc731 8 _ rfl; rw [add_field _ _ 8 (by omega)] at hv731_8; replace hv731_8 := Option.some.inj (hv731_8.symm.trans hx731_8); injection hv731_8 with hva_ hvn_ hvc_; rw [hva_] at ge731_8; rw [hvc_] at ul731_8; have HL731_8 := A0_ (show Kd.V (Kd.int .u8) 5 _ w.heap.size _ _ ((rd_T38 t713 0).f5) from Kd.V_mk ul731_8 ge731_8); clear hva_ hvn_ hvc_ ge731_8 ul731_8; clear hcc731 hce731; have qi731 : (0 < t713.length) = True := eq_true (by omega); (try rw [show ((0 : Int)).toNat = 0 from rfl] at hx731_0); (try rw [show 0 * 9 = 0 from rfl] at hx731_0); (try rw [Addr.add_zero'] at hx731_0); (try rw [show ((0 : Int)).toNat = 0 from rfl] at hx731_1); (try rw [show 0 * 9 = 0 from rfl] at hx731_1); (try rw [Addr.add_zero'] at hx731_1); (try rw [show ((0 : Int)).toNat = 0 from rfl] at hx731_2); (try rw [show 0 * 9 = 0 from rfl] at hx731_2); (try rw [Addr.add_zero'] at hx731_2); (try rw [show ((0 : Int)).toNat = 0 from rfl] at hx731_3); (try rw [show 0 * 9 = 0 from rfl] at hx731_3); (try rw [Addr.add_zero'] at hx731_3); (try rw [show ((0 : Int)).toNat = 0 from rfl] at hx731_4); (try rw [show 0 * 9 = 0 from rfl] at hx731_4); (try rw [Addr.add_zero'] at hx731_4); (try rw [show ((0 : Int)).toNat = 0 from rfl] at hx731_5); (try rw [show 0 * 9 = 0 from rfl] at hx731_5); (try rw [Addr.add_zero'] at hx731_5); (try rw [show ((0 : Int)).toNat = 0 from rfl] at hx731_6); (try rw [show 0 * 9 = 0 from rfl] at hx731_6); (try rw [Addr.add_zero'] at hx731_6); (try rw [show ((0 : Int)).toNat = 0 from rfl] at hx731_7); (try rw [show 0 * 9 = 0 from rfl] at hx731_7); (try rw [Addr.add_zero'] at hx731_7); (try rw [show ((0 : Int)).toNat = 0 from rfl] at hx731_8); (try rw [show 0 * 9 = 0 from rfl] at hx731_8); (try rw [Addr.add_zero'] at hx731_8); have HR731_8 := A0_ hi731_8; have HC731_8 := A0_ hl731_8; clear hi731_8 hl731_8; replace p731 := eq_true p731; replace q731 := eq_true q731; obtain ⟨Ao28, co28, eo28⟩ := Kd.V_slice HO722.out; subst eo28; have p732 : 0 ≤ (0 : Int) := (by omega); have q732 : 0 < (t720.length : Int) := wd_; obtain ⟨ad732, A732_8, c732_8, e732, hx732_0, hx732_1, hx732_2, hx732_3, hx732_4, hx732_5, hx732_6, hx732_7, hx732_8, hl732_8, hi732_8⟩ := at_T38 (Kd.V_reads' HO722.out).2.2 0 p732 q732; cases e732; obtain ⟨ce732, hce732, hMe732, hcc732⟩ := Kd.V_get HO722.out z38 0 p732 (by first | exact q732 | exact wd_ | (have e_ := (Kd.V_reads' HO722.out).1; omega)); obtain ⟨ua732_8, uc732_8, rfl, ul732_8, ge732_8⟩ := k38_openF hMe732; have hv732_8 := hcc732 8 _ rfl; rw [add_field _ _ 8 (by omega)] at hv732_8; replace hv732_8 := Option.some.inj (hv732_8.symm.trans hx732_8); injection hv732_8 with hva_ hvn_ hvc_; rw [hva_] at ge732_8; rw [hvc_] at ul732_8; have HL732_8 := A0_ (show Kd.V (Kd.int .u8) 5 _ w.heap.size _ _ ((rd_T38 t720 0).f5) from Kd.V_mk ul732_8 ge732_8); clear hva_ hvn_ hvc_ ge732_8 ul732_8; clear hcc732 hce732; have qi732 : (0 < t720.length) = True := eq_true (by omega); (try rw [show ((0 : Int)).toNat = 0 from rfl] at hx732_0); (try rw [show 0 * 9 = 0 from rfl] at hx732_0); (try rw [Addr.add_zero'] at hx732_0); (try rw [show ((0 : Int)).toNat = 0 from rfl] at hx732_1); (try rw [show 0 * 9 = 0 from rfl] at hx732_1); (try rw [Addr.add_zero'] at hx732_1); (try rw [show ((0 : Int)).toNat = 0 from rfl] at hx732_2); (try rw [show 0 * 9 = 0 from rfl] at hx732_2); (try rw [Addr.add_zero'] at hx732_2); (try rw [show ((0 : Int)).toNat = 0 from rfl] at hx732_3); (try rw [show 0 * 9 = 0 from rfl] at hx732_3); (try rw [Addr.add_zero'] at hx732_3); (try rw [show ((0 : Int)).toNat = 0 from rfl] at hx732_4); (try rw [show 0 * 9 = 0 from rfl] at hx732_4); (try rw [Addr.add_zero'] at hx732_4); (try rw [show ((0 : Int)).toNat = 0 from rfl] at hx732_5); (try rw [show 0 * 9 = 0 from rfl] at hx732_5); (try rw [Addr.add_zero'] at hx732_5); (try rw [show ((0 : Int)).toNat = 0 from rfl] at hx732_6); (try rw [show 0 * 9 = 0 from rfl] at hx732_6); (try rw [Addr.add_zero'] at hx732_6); (try rw [show ((0 : Int)).toNat = 0 from rfl] at hx732_7); (try rw [show 0 * 9 = 0 from rfl] at hx732_7); (try rw [Addr.add_zero'] at hx732_7); (try rw [show ((0 : Int)).toNat = 0 from rfl] at hx732_8); (try rw [show 0 * 9 = 0 from rfl] at hx732_8); (try rw [Addr.add_zero'] at hx732_8); have HR732_8 := A0_ hi732_8; have HC732_8 := A0_ hl732_8; clear hi732_8 hl732_8; replace p732 := eq_true p732; replace q732 := eq_true q732))
 go_ret
 exact ⟨we_, wb_ HB.out⟩
end Go.Proofs.YtfmphccoeinhcaaDoor.Print

namespace Go.Proofs.YtfmphccoeinhcaaDoor.Print
open Go.RowKit Go.Proofs.YtfmphccoeinhcaaDoorW.PrintWords Go.Proofs.YtfmphccoeinhcaaDoorW.PrintLast Go.Proofs.YtfmphccoeinhcaaDoorW.PrintMore
attribute [local go_sem] max2_int min2_int max_two min_two max_three min_three max_four min_four   -- for this text's walks alone
set_option linter.unusedVariables false
set_option linter.unusedSimpArgs false
end Go.Proofs.YtfmphccoeinhcaaDoor.Print

namespace Go.Proofs.YtfmphccoeinhcaaDoor.Print
open Go.RowKit Go.Proofs.YtfmphccoeinhcaaDoorW.PrintWords Go.Proofs.YtfmphccoeinhcaaDoorW.PrintLast Go.Proofs.YtfmphccoeinhcaaDoorW.PrintMore
attribute [local go_sem] max2_int min2_int max_two min_two max_three min_three max_four min_four   -- for this text's walks alone
set_option linter.unusedVariables false
set_option linter.unusedSimpArgs false
abbrev q13_0 : Array Bool := #[false, false, false, false, false, false, false, false, false, false]
abbrev q13_1 : Array Bool := #[true, false, false, false, false, false, false, false, false, false]
abbrev q13_2 : Array Bool := #[true, true, false, false, false, false, false, false, false, false]
abbrev q13_3 : Array Bool := #[true, true, true, false, false, false, false, false, false, false]
abbrev q13_4 : Array Bool := #[true, true, true, false, true, false, false, false, false, false]
abbrev q13_5 : Array Bool := #[true, true, true, false, true, true, false, false, false, false]
abbrev q13_6 : Array Bool := #[true, true, true, false, true, true, true, false, false, false]
abbrev q13_7 : Array Bool := #[true, true, true, true, true, true, true, false, false, false]
abbrev q13_8 : Array Bool := #[true, true, true, true, true, true, true, true, false, false]
abbrev q13_9 : Array Bool := #[true, true, true, true, true, true, true, true, true, false]
abbrev q13_10 : Array Bool := #[true, true, true, true, true, true, true, true, true, true]
mutual
def bindlelaw20_SubParts.j0 : Nat → List (S38) → List (S38) → Bool → Bool → Option (Bool)
 | 0, _, _, _, _ => none
 | k + 1, x0, x1, x2, x32 => if x32 = true then ((bindlelaw20_answers.f).bind fun t824 => (some t824)) else ((sub_Subtract.f x0 x1 x2).bind fun bt825 => ((sub_Subtract.f x0 bt825.1 false).bind fun bt829 => ((union_Union.f (([bt825.1, bt829.1] : List (List (S38))))).bind fun bt836 => ((sub_Subtract.f x0 x0 x2).bind fun bt840 => ((sub_Subtract.f x0 ([] : List (S38)) x2).bind fun bt844 => (if bt836.2 = 0 then (if (bt836.1.length : Int) = (x0.length : Int) then (bindlelaw20_SubParts.j1 k x0 bt836.1 bt840.1 bt844.1 ((wrap64 ((bt825.1.length : Int) + (bt829.1.length : Int))) != (x0.length : Int))) else (bindlelaw20_SubParts.j1 k x0 bt836.1 bt840.1 bt844.1 true)) else (bindlelaw20_SubParts.j1 k x0 bt836.1 bt840.1 bt844.1 true)))))))
def bindlelaw20_SubParts.j1 : Nat → List (S38) → List (S38) → List (S38) → List (S38) → Bool → Option (Bool)
 | 0, _, _, _, _, _ => none
 | k + 1, x0, x11, x13, x15, x85 => if x85 = true then (some false) else (bindlelaw20_SubParts.l0 k x0 x11 x13 x15 0)
def bindlelaw20_SubParts.l0 : Nat → List (S38) → List (S38) → List (S38) → List (S38) → Int → Option (Bool)
 | 0, _, _, _, _, _ => none
 | k + 1, x0, x11, x13, x15, x17 => if x17 < (x0.length : Int) then (if 0 ≤ x17 then (if x17 < (x11.length : Int) then ((bindleref08_Equal.f ((rd_T38 x0 x17).f0) ((rd_T38 x0 x17).f1) ((rd_T38 x0 x17).f2) ((rd_T38 x0 x17).f3) ((rd_T38 x0 x17).f4.f0) ((rd_T38 x0 x17).f4.f1) ((rd_T38 x0 x17).f4.f2) ((rd_T38 x0 x17).f4.f3) ((rd_T38 x0 x17).f5) ((rd_T38 x11 x17).f0) ((rd_T38 x11 x17).f1) ((rd_T38 x11 x17).f2) ((rd_T38 x11 x17).f3) ((rd_T38 x11 x17).f4.f0) ((rd_T38 x11 x17).f4.f1) ((rd_T38 x11 x17).f4.f2) ((rd_T38 x11 x17).f4.f3) ((rd_T38 x11 x17).f5)).bind fun t850 => (if t850 = true then (bindlelaw20_SubParts.l0 k x0 x11 x13 x15 (wrap64 (x17 + 1))) else (some false))) else (none)) else (none)) else ((bindlelaw20_answers.f).bind fun t851 => (if t851 = true then (if (x13.length : Int) = 0 then ((bindleref08_SameTree.f k x15 x0).bind fun t852 => (some t852)) else (some false)) else (some false)))
end
def bindlelaw20_SubParts.f (k : Nat) (l0 : List (S38)) (l1 : List (S38)) (a2 : Bool) : Option (Bool) := (bindlelaw20_light.f k (([l0, l1] : List (List (S38))))).bind fun t821 => (if t821 = true then ((bindleref08_GoodTree.f l0).bind fun t822 => (if t822 = true then ((bindleref08_GoodTree.f l1).bind fun t823 => (bindlelaw20_SubParts.j0 k l0 l1 a2 (!t823))) else (bindlelaw20_SubParts.j0 k l0 l1 a2 true))) else (bindlelaw20_SubParts.j0 k l0 l1 a2 true))
def bindlelaw20_SubParts.T13 : Bool × List (List Nat × List Nat) := (true, [([], []), ([], []), ([0, 1], [0, 1]), ([2], [2]), ([], []), ([], []), ([4, 5], [4, 5]), ([6], [6]), ([3, 7], [3, 7]), ([8], [8])])
def bindlelaw20_SubParts.B13 : List Nat := [0, 0, 3, 7, 0, 0, 48, 112, 255, 511]
theorem bindlelaw20_SubParts.tab13 : rtab .any (opsOf Tryd.f13 13) = bindlelaw20_SubParts.T13 := by kernel_rfl
theorem bindlelaw20_SubParts.bits13 : waitsOk bindlelaw20_SubParts.T13.2 bindlelaw20_SubParts.B13 = true := by kernel_rfl
set_option maxHeartbeats 8000000 in
set_option maxRecDepth 100000 in
theorem bindlelaw20_SubParts.calls (k : Nat) (P0_ : Nat → Prop) (A0 : Option Addr) (c0 : Nat) (l0 : List (S38)) (P1_ : Nat → Prop) (A1 : Option Addr) (c1 : Nat) (l1 : List (S38)) (a2 : Bool) (r : Bool) (w : World) (hT : Aside0 (Tabs w)) (hs0 : Kd.V k38 38 w w.heap.size (fun k_ => P0_ k_) (.slice A0 l0.length c0) l0) (hs1 : Kd.V k38 38 w w.heap.size (fun k_ => P1_ k_) (.slice A1 l1.length c1) l1) (h : bindlelaw20_SubParts.f k l0 l1 a2 = some r) :
  Calls Tryd.prog 13 #[.slice A0 l0.length c0, .slice A1 l1.length c1, .bool a2] w fun e w' => e = .returned (.bool r) ∧ Below w.heap.size w w' := by
 have hu38 := Tryd.underlying38
 have HO0 := A0_ (show Kd.V k38 38 w w.heap.size (fun k_ => ((P0_ k_ ∨ P1_ k_) ∨ w.heap.size ≤ k_)) (.slice A0 l0.length c0) l0 from Kd.V_mono hs0 (fun k_ hk => .inl (.inl hk)))
 have HO1 := A0_ (show Kd.V k38 38 w w.heap.size (fun k_ => ((P0_ k_ ∨ P1_ k_) ∨ w.heap.size ≤ k_)) (.slice A1 l1.length c1) l1 from Kd.V_mono hs1 (fun k_ hk => .inl (.inr hk)))
 have HB := A0_ (Below.refl w.heap.size w)
 have H : ((bindlelaw20_light.f k (([l0, l1] : List (List (S38))))).bind fun t821 => (if t821 = true then ((bindleref08_GoodTree.f l0).bind fun t822 => (if t822 = true then ((bindleref08_GoodTree.f l1).bind fun t823 => (bindlelaw20_SubParts.j0 k l0 l1 a2 (!t823))) else (bindlelaw20_SubParts.j0 k l0 l1 a2 true))) else (bindlelaw20_SubParts.j0 k l0 l1 a2 true))) = some r := h
 clear h
 have HC4 := A0_ H
 clear H
 go_enter Tryd.func13, Tryd.ntmps13
 go_upto_region 1 with (fail)
 go_cut [32] (fun v32 wc => ∃ (kq : Nat) (x32_3 : Bool), v32 = .bool x32_3 ∧ Aside0 (bindlelaw20_SubParts.j0 kq l0 l1 a2 x32_3 = some r) ∧ Aside0 (kq ≤ k) ∧ Aside0 (Kd.V k38 38 wc w.heap.size (fun k_ => ((P0_ k_ ∨ P1_ k_) ∨ w.heap.size ≤ k_)) (.slice A0 l0.length c0) l0) ∧ Aside0 (Kd.V k38 38 wc w.heap.size (fun k_ => ((P0_ k_ ∨ P1_ k_) ∨ w.heap.size ≤ k_)) (.slice A1 l1.length c1) l1) ∧ Aside0 (Below w.heap.size w wc))
 case first =>
  have H := HC4.out
  clear HC4
  obtain ⟨y818, hy818⟩ : ∃ y_ : List (List (S38)), y_ = (([l0, l1] : List (List (S38)))) := ⟨_, rfl⟩
  replace H : ((bindlelaw20_light.f k y818).bind fun t821 => (if t821 = true then ((bindleref08_GoodTree.f l0).bind fun t822 => (if t822 = true then ((bindleref08_GoodTree.f l1).bind fun t823 => (bindlelaw20_SubParts.j0 k l0 l1 a2 (!t823))) else (bindlelaw20_SubParts.j0 k l0 l1 a2 true))) else (bindlelaw20_SubParts.j0 k l0 l1 a2 true))) = some r := by first | (rw [hy818]; with_reducible exact H) | (have H2_ := (Option.bind_some _ _).symm.trans H; rw [hy818]; with_reducible exact H2_) | (have H2_ := (Option.bind_some _ _).symm.trans H; with_reducible exact H2_) | with_reducible exact H | (rw [hy818]; exact H) | exact H
  have Ny818 := A0_ hy818
  clear hy818
  replace H := Option.bind_eq_some_iff.mp H
  obtain ⟨t821, A50, H⟩ := H
  replace H : (if t821 = true then ((bindleref08_GoodTree.f l0).bind fun t822 => (if t822 = true then ((bindleref08_GoodTree.f l1).bind fun t823 => (bindlelaw20_SubParts.j0 k l0 l1 a2 (!t823))) else (bindlelaw20_SubParts.j0 k l0 l1 a2 true))) else (bindlelaw20_SubParts.j0 k l0 l1 a2 true)) = some r := H
  have A5 := A0_ A50
  clear A50
  by_cases c6 : t821 = true
  rotate_left
  ·replace c6 := Bool.eq_false_iff.mpr c6
   subst c6
   have H1 : (bindlelaw20_SubParts.j0 k l0 l1 a2 true) = some r := by rw [if_neg (show ¬ (false = true) by decide)] at H; exact H
   clear H
   have H := H1
   clear H1
   have H' := A0_ H
   clear H
   go_wp2_with (first | ((with_reducible refine gate_dst (N := 20) rfl ?_); (try (refine gate_guard (by rfl) ?_; dsimp only)); refine Kd.N_lit (Kd.slice 38 k38) _ 31 ?hg (N' := 20) ?hd (xs := ([l0, l1] : List (List (S38)))) (inner := [.slice A0 l0.length c0, .slice A1 l1.length c1]) (ok := (fun k_ => ((P0_ k_ ∨ P1_ k_) ∨ w.heap.size ≤ k_))) (okp := (fun k_ => ((P0_ k_ ∨ P1_ k_) ∨ w.heap.size ≤ k_))) ?hr ?hp (fun _ hk => hk) ((show ∀ k_, w.heap.size ≤ k_ → (fun k_ => ((P0_ k_ ∨ P1_ k_) ∨ w.heap.size ≤ k_)) k_ from fun k_ hk => (.inr (Nat.le_trans (below_size (wb_ HB.out)) hk))) _ (Nat.le_refl _)) (Below.refl _ _) (Nat.le_refl _) (by simp) ?_; (case hd => rfl); (case hg => rfl); (case hr => first | (go_simp; done) | (go_simp; rfl)); (case hp => exact (Reps.one (show Kd.FK (Kd.slice 38 k38) _ _ l0 [.slice A0 l0.length c0] from (Kd.FK_slice_mk (Kd.V_reads' (Kd.V_mono (ok' := (fun k_ => ((P0_ k_ ∨ P1_ k_) ∨ w.heap.size ≤ k_))) (HO0.out) (fun k_ hk => hk))).2.1 (Kd.V_F (Kd.V_mono (ok' := (fun k_ => ((P0_ k_ ∨ P1_ k_) ∨ w.heap.size ≤ k_))) (HO0.out) (fun k_ hk => hk))))) (Reps.one (show Kd.FK (Kd.slice 38 k38) _ _ l1 [.slice A1 l1.length c1] from (Kd.FK_slice_mk (Kd.V_reads' (Kd.V_mono (ok' := (fun k_ => ((P0_ k_ ∨ P1_ k_) ∨ w.heap.size ≤ k_))) (HO1.out) (fun k_ hk => hk))).2.1 (Kd.V_F (Kd.V_mono (ok' := (fun k_ => ((P0_ k_ ∨ P1_ k_) ∨ w.heap.size ≤ k_))) (HO1.out) (fun k_ hk => hk))))) (Reps.none _ _)))); intro v819 w19 ho20 hb hg_ hnew_; clear hg_ hnew_; (first | rw [← Ny818.out] at ho20 | (simp only [Int.reduceToNat] at ho20; rw [← Ny818.out] at ho20)); have n0_ := A0_ (Kd.V_elder' (wV_ HO0.out) (Kd.N_base ho20) hb); have n1_ := A0_ (Kd.V_elder' (wV_ HO1.out) (Kd.N_base ho20) hb); have n2_ := A0_ (Kd.N_lower ho20 (below_size (wb_ HB.out))); have n3_ := A0_ (below_step (wb_ HB.out) hb); clear HO0; clear HO1; clear HB; have HO0 := n0_; have HO1 := n1_; have HO820 := n2_; have HB := n3_; clear n0_ n1_ n2_ n3_; clear hb ho20; obtain ⟨Ao21, co21, eo21⟩ := Kd.N_slice HO820.out; subst eo21) | ((with_reducible refine gate_callee (f := 34) rfl ?_); refine goesL_ (some 21) rfl rfl Tryd.func34 (by kernel_rfl) rfl #[.slice Ao21 y818.length co21] rfl wm_ ?_; (with_reducible refine (bindlelaw20_light.calls k _ _ y818 false _ ?side1 ?side2 A5.out).mono ?_); (case side1 => exact wc_ (Kd.N_reads' HO820.out).2.2); (case side2 => exact (Kd.N_reads' HO820.out).2.1); rintro e w' ⟨rfl, ⟨nd, rfl⟩⟩; refine ⟨_, rfl, ?_⟩))
   go_meet
   case rel => exact ⟨_, (true), wr_, H', ⟨by first | omega | exact Nat.le_refl _⟩, ⟨by (with_reducible repeat (first | apply Va_ | apply VN_ | apply V1_)); exact Kd.V_mono HO0.out (fun _ hk => hk.1)⟩, ⟨by (with_reducible repeat (first | apply Va_ | apply VN_ | apply V1_)); exact Kd.V_mono HO1.out (fun _ hk => hk.1)⟩, ⟨wb_ HB.out⟩⟩
  subst c6
  have H1 : ((bindleref08_GoodTree.f l0).bind fun t822 => (if t822 = true then ((bindleref08_GoodTree.f l1).bind fun t823 => (bindlelaw20_SubParts.j0 k l0 l1 a2 (!t823))) else (bindlelaw20_SubParts.j0 k l0 l1 a2 true))) = some r := by rw [if_pos rfl] at H; exact H
  clear H
  have H := H1
  clear H1
  replace H := Option.bind_eq_some_iff.mp H
  obtain ⟨t822, A70, H⟩ := H
  replace H : (if t822 = true then ((bindleref08_GoodTree.f l1).bind fun t823 => (bindlelaw20_SubParts.j0 k l0 l1 a2 (!t823))) else (bindlelaw20_SubParts.j0 k l0 l1 a2 true)) = some r := H
  have A7 := A0_ A70
  clear A70
  by_cases c8 : t822 = true
  rotate_left
  ·replace c8 := Bool.eq_false_iff.mpr c8
   subst c8
   have H1 : (bindlelaw20_SubParts.j0 k l0 l1 a2 true) = some r := by rw [if_neg (show ¬ (false = true) by decide)] at H; exact H
   clear H
   have H := H1
   clear H1
   have H' := A0_ H
   clear H
   go_wp2_with (first | ((with_reducible refine gate_dst (N := 20) rfl ?_); (try (refine gate_guard (by rfl) ?_; dsimp only)); refine Kd.N_lit (Kd.slice 38 k38) _ 31 ?hg (N' := 20) ?hd (xs := ([l0, l1] : List (List (S38)))) (inner := [.slice A0 l0.length c0, .slice A1 l1.length c1]) (ok := (fun k_ => ((P0_ k_ ∨ P1_ k_) ∨ w.heap.size ≤ k_))) (okp := (fun k_ => ((P0_ k_ ∨ P1_ k_) ∨ w.heap.size ≤ k_))) ?hr ?hp (fun _ hk => hk) ((show ∀ k_, w.heap.size ≤ k_ → (fun k_ => ((P0_ k_ ∨ P1_ k_) ∨ w.heap.size ≤ k_)) k_ from fun k_ hk => (.inr (Nat.le_trans (below_size (wb_ HB.out)) hk))) _ (Nat.le_refl _)) (Below.refl _ _) (Nat.le_refl _) (by simp) ?_; (case hd => rfl); (case hg => rfl); (case hr => first | (go_simp; done) | (go_simp; rfl)); (case hp => exact (Reps.one (show Kd.FK (Kd.slice 38 k38) _ _ l0 [.slice A0 l0.length c0] from (Kd.FK_slice_mk (Kd.V_reads' (Kd.V_mono (ok' := (fun k_ => ((P0_ k_ ∨ P1_ k_) ∨ w.heap.size ≤ k_))) (HO0.out) (fun k_ hk => hk))).2.1 (Kd.V_F (Kd.V_mono (ok' := (fun k_ => ((P0_ k_ ∨ P1_ k_) ∨ w.heap.size ≤ k_))) (HO0.out) (fun k_ hk => hk))))) (Reps.one (show Kd.FK (Kd.slice 38 k38) _ _ l1 [.slice A1 l1.length c1] from (Kd.FK_slice_mk (Kd.V_reads' (Kd.V_mono (ok' := (fun k_ => ((P0_ k_ ∨ P1_ k_) ∨ w.heap.size ≤ k_))) (HO1.out) (fun k_ hk => hk))).2.1 (Kd.V_F (Kd.V_mono (ok' := (fun k_ => ((P0_ k_ ∨ P1_ k_) ∨ w.heap.size ≤ k_))) (HO1.out) (fun k_ hk => hk))))) (Reps.none _ _)))); intro v819 w15 ho16 hb hg_ hnew_; clear hg_ hnew_; (first | rw [← Ny818.out] at ho16 | (simp only [Int.reduceToNat] at ho16; rw [← Ny818.out] at ho16)); have n0_ := A0_ (Kd.V_elder' (wV_ HO0.out) (Kd.N_base ho16) hb); have n1_ := A0_ (Kd.V_elder' (wV_ HO1.out) (Kd.N_base ho16) hb); have n2_ := A0_ (Kd.N_lower ho16 (below_size (wb_ HB.out))); have n3_ := A0_ (below_step (wb_ HB.out) hb); clear HO0; clear HO1; clear HB; have HO0 := n0_; have HO1 := n1_; have HO820 := n2_; have HB := n3_; clear n0_ n1_ n2_ n3_; clear hb ho16; obtain ⟨Ao17, co17, eo17⟩ := Kd.N_slice HO820.out; subst eo17) | ((with_reducible refine gate_callee (f := 34) rfl ?_); refine goesL_ (some 21) rfl rfl Tryd.func34 (by kernel_rfl) rfl #[.slice Ao17 y818.length co17] rfl wm_ ?_; (with_reducible refine (bindlelaw20_light.calls k _ _ y818 true _ ?side1 ?side2 A5.out).mono ?_); (case side1 => exact wc_ (Kd.N_reads' HO820.out).2.2); (case side2 => exact (Kd.N_reads' HO820.out).2.1); rintro e w' ⟨rfl, ⟨nd, rfl⟩⟩; refine ⟨_, rfl, ?_⟩) | (go_at_call 26; (with_reducible refine (bindleref08_GoodTree.calls _ _ l0 false _ ?side1 ?side2 A7.out).mono ?_); (case side1 => exact wc_ (Kd.V_reads' HO0.out).2.2); (case side2 => exact (Kd.V_reads' HO0.out).2.1); rintro e w18 ⟨rfl, hb⟩; have n0_ := A0_ (Vb_ (wV_ HO0.out) hb); have n1_ := A0_ (Vb_ (wV_ HO1.out) hb); have n2_ := A0_ (Kd.N_below (wN_ HO820.out) hb); have n3_ := A0_ (below_step (wb_ HB.out) hb); clear HO0; clear HO1; clear HO820; clear HB; have HO0 := n0_; have HO1 := n1_; have HO820 := n2_; have HB := n3_; clear n0_ n1_ n2_ n3_; (try clear hb); (try clear hb2); (try clear hk); (try clear hi)))
   go_meet
   case rel => exact ⟨_, (true), wr_, H', ⟨by first | omega | exact Nat.le_refl _⟩, ⟨by (with_reducible repeat (first | apply Va_ | apply VN_ | apply V1_)); exact Kd.V_mono HO0.out (fun _ hk => hk.1)⟩, ⟨by (with_reducible repeat (first | apply Va_ | apply VN_ | apply V1_)); exact Kd.V_mono HO1.out (fun _ hk => hk.1)⟩, ⟨wb_ HB.out⟩⟩
  subst c8
  have H1 : ((bindleref08_GoodTree.f l1).bind fun t823 => (bindlelaw20_SubParts.j0 k l0 l1 a2 (!t823))) = some r := by rw [if_pos rfl] at H; exact H
  clear H
  have H := H1
  clear H1
  replace H := Option.bind_eq_some_iff.mp H
  obtain ⟨t823, A90, H⟩ := H
  replace H : (bindlelaw20_SubParts.j0 k l0 l1 a2 (!t823)) = some r := H
  have A9 := A0_ A90
  clear A90
  have H' := A0_ H
  clear H
  go_wp2_with (first | ((with_reducible refine gate_dst (N := 20) rfl ?_); (try (refine gate_guard (by rfl) ?_; dsimp only)); refine Kd.N_lit (Kd.slice 38 k38) _ 31 ?hg (N' := 20) ?hd (xs := ([l0, l1] : List (List (S38)))) (inner := [.slice A0 l0.length c0, .slice A1 l1.length c1]) (ok := (fun k_ => ((P0_ k_ ∨ P1_ k_) ∨ w.heap.size ≤ k_))) (okp := (fun k_ => ((P0_ k_ ∨ P1_ k_) ∨ w.heap.size ≤ k_))) ?hr ?hp (fun _ hk => hk) ((show ∀ k_, w.heap.size ≤ k_ → (fun k_ => ((P0_ k_ ∨ P1_ k_) ∨ w.heap.size ≤ k_)) k_ from fun k_ hk => (.inr (Nat.le_trans (below_size (wb_ HB.out)) hk))) _ (Nat.le_refl _)) (Below.refl _ _) (Nat.le_refl _) (by simp) ?_; (case hd => rfl); (case hg => rfl); (case hr => first | (go_simp; done) | (go_simp; rfl)); (case hp => exact (Reps.one (show Kd.FK (Kd.slice 38 k38) _ _ l0 [.slice A0 l0.length c0] from (Kd.FK_slice_mk (Kd.V_reads' (Kd.V_mono (ok' := (fun k_ => ((P0_ k_ ∨ P1_ k_) ∨ w.heap.size ≤ k_))) (HO0.out) (fun k_ hk => hk))).2.1 (Kd.V_F (Kd.V_mono (ok' := (fun k_ => ((P0_ k_ ∨ P1_ k_) ∨ w.heap.size ≤ k_))) (HO0.out) (fun k_ hk => hk))))) (Reps.one (show Kd.FK (Kd.slice 38 k38) _ _ l1 [.slice A1 l1.length c1] from (Kd.FK_slice_mk (Kd.V_reads' (Kd.V_mono (ok' := (fun k_ => ((P0_ k_ ∨ P1_ k_) ∨ w.heap.size ≤ k_))) (HO1.out) (fun k_ hk => hk))).2.1 (Kd.V_F (Kd.V_mono (ok' := (fun k_ => ((P0_ k_ ∨ P1_ k_) ∨ w.heap.size ≤ k_))) (HO1.out) (fun k_ hk => hk))))) (Reps.none _ _)))); intro v819 w10 ho11 hb hg_ hnew_; clear hg_ hnew_; (first | rw [← Ny818.out] at ho11 | (simp only [Int.reduceToNat] at ho11; rw [← Ny818.out] at ho11)); have n0_ := A0_ (Kd.V_elder' (wV_ HO0.out) (Kd.N_base ho11) hb); have n1_ := A0_ (Kd.V_elder' (wV_ HO1.out) (Kd.N_base ho11) hb); have n2_ := A0_ (Kd.N_lower ho11 (below_size (wb_ HB.out))); have n3_ := A0_ (below_step (wb_ HB.out) hb); clear HO0; clear HO1; clear HB; have HO0 := n0_; have HO1 := n1_; have HO820 := n2_; have HB := n3_; clear n0_ n1_ n2_ n3_; clear hb ho11; obtain ⟨Ao12, co12, eo12⟩ := Kd.N_slice HO820.out; subst eo12) | ((with_reducible refine gate_callee (f := 34) rfl ?_); refine goesL_ (some 21) rfl rfl Tryd.func34 (by kernel_rfl) rfl #[.slice Ao12 y818.length co12] rfl wm_ ?_; (with_reducible refine (bindlelaw20_light.calls k _ _ y818 true _ ?side1 ?side2 A5.out).mono ?_); (case side1 => exact wc_ (Kd.N_reads' HO820.out).2.2); (case side2 => exact (Kd.N_reads' HO820.out).2.1); rintro e w' ⟨rfl, ⟨nd, rfl⟩⟩; refine ⟨_, rfl, ?_⟩) | (go_at_call 26; (with_reducible refine (bindleref08_GoodTree.calls _ _ l0 true _ ?side1 ?side2 A7.out).mono ?_); (case side1 => exact wc_ (Kd.V_reads' HO0.out).2.2); (case side2 => exact (Kd.V_reads' HO0.out).2.1); rintro e w13 ⟨rfl, hb⟩; have n0_ := A0_ (Vb_ (wV_ HO0.out) hb); have n1_ := A0_ (Vb_ (wV_ HO1.out) hb); have n2_ := A0_ (Kd.N_below (wN_ HO820.out) hb); have n3_ := A0_ (below_step (wb_ HB.out) hb); clear HO0; clear HO1; clear HO820; clear HB; have HO0 := n0_; have HO1 := n1_; have HO820 := n2_; have HB := n3_; clear n0_ n1_ n2_ n3_; (try clear hb); (try clear hb2); (try clear hk); (try clear hi)) | (go_at_call 26; (with_reducible refine (bindleref08_GoodTree.calls _ _ l1 t823 _ ?side1 ?side2 A9.out).mono ?_); (case side1 => exact wc_ (Kd.V_reads' HO1.out).2.2); (case side2 => exact (Kd.V_reads' HO1.out).2.1); rintro e w14 ⟨rfl, hb⟩; have n0_ := A0_ (Vb_ (wV_ HO0.out) hb); have n1_ := A0_ (Vb_ (wV_ HO1.out) hb); have n2_ := A0_ (Kd.N_below (wN_ HO820.out) hb); have n3_ := A0_ (below_step (wb_ HB.out) hb); clear HO0; clear HO1; clear HO820; clear HB; have HO0 := n0_; have HO1 := n1_; have HO820 := n2_; have HB := n3_; clear n0_ n1_ n2_ n3_; (try clear hb); (try clear hb2); (try clear hk); (try clear hi)))
  go_meet
  case rel => exact ⟨_, (!t823), wr_, H', ⟨by first | omega | exact Nat.le_refl _⟩, ⟨by (with_reducible repeat (first | apply Va_ | apply VN_ | apply V1_)); exact Kd.V_mono HO0.out (fun _ hk => hk.1)⟩, ⟨by (with_reducible repeat (first | apply Va_ | apply VN_ | apply V1_)); exact Kd.V_mono HO1.out (fun _ hk => hk.1)⟩, ⟨wb_ HB.out⟩⟩
 case rest =>
  clear HC4
  try clear c1
  try clear p2
  try clear c3
  try clear c6
  try clear c8
  try clear c13
  obtain ⟨kq, x32_3, rfl, HA, HJ3, HO_0, HO_1, HB⟩ := hcut
  cases kq with
  | zero => exact absurd HA.out (by simp [bindlelaw20_SubParts.j0])
  | succ kj3 =>
   have H := HA.out
   clear HA
   simp only [bindlelaw20_SubParts.j0] at H
   by_cases c22 : x32_3 = true
   ·subst c22
    have H1 : ((bindlelaw20_answers.f).bind fun t824 => (some t824)) = some r := by rw [if_pos rfl] at H; exact H
    clear H
    have H := H1
    clear H1
    replace H := Option.bind_eq_some_iff.mp H
    obtain ⟨t824, A230, H⟩ := H
    replace H : (some t824) = some r := H
    have A23 := A0_ A230
    clear A230
    obtain rfl := Option.some.inj H
    go_wp2_with (first | ((with_reducible refine gate_callee (f := 35) rfl ?_); refine goesL_ (some 33) rfl rfl Tryd.func35 (by kernel_rfl) rfl #[] rfl wm_ ?_; (with_reducible refine (bindlelaw20_answers.calls  t824 _ ?side1 A23.out).mono ?_); (case side1 => exact A0_ (Tabs.below hT.out (wb_ HB.out))); rintro e w24 ⟨rfl, hb⟩; refine ⟨_, rfl, ?_⟩; have n0_ := A0_ (Vb_ (wV_ HO_0.out) hb); have n1_ := A0_ (Vb_ (wV_ HO_1.out) hb); have n2_ := A0_ (below_step (wb_ HB.out) hb); clear HO_0; clear HO_1; clear HB; have HO_0 := n0_; have HO_1 := n1_; have HB := n2_; clear n0_ n1_ n2_; (try clear hb); (try clear hb2); (try clear hk); (try clear hi)))
    go_ret
    exact ⟨we_, wb_ HB.out⟩
   replace c22 := Bool.eq_false_iff.mpr c22
   subst c22
   have H1 : ((sub_Subtract.f l0 l1 a2).bind fun bt825 => ((sub_Subtract.f l0 bt825.1 false).bind fun bt829 => ((union_Union.f (([bt825.1, bt829.1] : List (List (S38))))).bind fun bt836 => ((sub_Subtract.f l0 l0 a2).bind fun bt840 => ((sub_Subtract.f l0 ([] : List (S38)) a2).bind fun bt844 => (if bt836.2 = 0 then (if (bt836.1.length : Int) = (l0.length : Int) then (bindlelaw20_SubParts.j1 kj3 l0 bt836.1 bt840.1 bt844.1 ((wrap64 ((bt825.1.length : Int) + (bt829.1.length : Int))) != (l0.length : Int))) else (bindlelaw20_SubParts.j1 kj3 l0 bt836.1 bt840.1 bt844.1 true)) else (bindlelaw20_SubParts.j1 kj3 l0 bt836.1 bt840.1 bt844.1 true))))))) = some r := by rw [if_neg (show ¬ (false = true) by decide)] at H; exact H
   clear H
   have H := H1
   clear H1
   replace H := Option.bind_eq_some_iff.mp H
   obtain ⟨⟨t825, t828⟩, A250, H⟩ := H
   replace H : ((sub_Subtract.f l0 t825 false).bind fun bt829 => ((union_Union.f (([t825, bt829.1] : List (List (S38))))).bind fun bt836 => ((sub_Subtract.f l0 l0 a2).bind fun bt840 => ((sub_Subtract.f l0 ([] : List (S38)) a2).bind fun bt844 => (if bt836.2 = 0 then (if (bt836.1.length : Int) = (l0.length : Int) then (bindlelaw20_SubParts.j1 kj3 l0 bt836.1 bt840.1 bt844.1 ((wrap64 ((t825.length : Int) + (bt829.1.length : Int))) != (l0.length : Int))) else (bindlelaw20_SubParts.j1 kj3 l0 bt836.1 bt840.1 bt844.1 true)) else (bindlelaw20_SubParts.j1 kj3 l0 bt836.1 bt840.1 bt844.1 true)))))) = some r := H
   have A25 := A0_ A250
   clear A250
   replace H := Option.bind_eq_some_iff.mp H
   obtain ⟨⟨t829, t832⟩, A260, H⟩ := H
   replace H : ((union_Union.f (([t825, t829] : List (List (S38))))).bind fun bt836 => ((sub_Subtract.f l0 l0 a2).bind fun bt840 => ((sub_Subtract.f l0 ([] : List (S38)) a2).bind fun bt844 => (if bt836.2 = 0 then (if (bt836.1.length : Int) = (l0.length : Int) then (bindlelaw20_SubParts.j1 kj3 l0 bt836.1 bt840.1 bt844.1 ((wrap64 ((t825.length : Int) + (t829.length : Int))) != (l0.length : Int))) else (bindlelaw20_SubParts.j1 kj3 l0 bt836.1 bt840.1 bt844.1 true)) else (bindlelaw20_SubParts.j1 kj3 l0 bt836.1 bt840.1 bt844.1 true))))) = some r := H
   have A26 := A0_ A260
   clear A260
   obtain ⟨y833, hy833⟩ : ∃ y_ : List (List (S38)), y_ = (([t825, t829] : List (List (S38)))) := ⟨_, rfl⟩
   replace H : ((union_Union.f y833).bind fun bt836 => ((sub_Subtract.f l0 l0 a2).bind fun bt840 => ((sub_Subtract.f l0 ([] : List (S38)) a2).bind fun bt844 => (if bt836.2 = 0 then (if (bt836.1.length : Int) = (l0.length : Int) then (bindlelaw20_SubParts.j1 kj3 l0 bt836.1 bt840.1 bt844.1 ((wrap64 ((t825.length : Int) + (t829.length : Int))) != (l0.length : Int))) else (bindlelaw20_SubParts.j1 kj3 l0 bt836.1 bt840.1 bt844.1 true)) else (bindlelaw20_SubParts.j1 kj3 l0 bt836.1 bt840.1 bt844.1 true))))) = some r := by first | (rw [hy833]; with_reducible exact H) | (have H2_ := (Option.bind_some _ _).symm.trans H; rw [hy833]; with_reducible exact H2_) | (have H2_ := (Option.bind_some _ _).symm.trans H; with_reducible exact H2_) | with_reducible exact H | (rw [hy833]; exact H) | exact H
   have Ny833 := A0_ hy833
   clear hy833
   replace H := Option.bind_eq_some_iff.mp H
   obtain ⟨⟨t836, t839⟩, A270, H⟩ := H
   replace H : ((sub_Subtract.f l0 l0 a2).bind fun bt840 => ((sub_Subtract.f l0 ([] : List (S38)) a2).bind fun bt844 => (if t839 = 0 then (if (t836.length : Int) = (l0.length : Int) then (bindlelaw20_SubParts.j1 kj3 l0 t836 bt840.1 bt844.1 ((wrap64 ((t825.length : Int) + (t829.length : Int))) != (l0.length : Int))) else (bindlelaw20_SubParts.j1 kj3 l0 t836 bt840.1 bt844.1 true)) else (bindlelaw20_SubParts.j1 kj3 l0 t836 bt840.1 bt844.1 true)))) = some r := H
   have A27 := A0_ A270
   clear A270
   replace H := Option.bind_eq_some_iff.mp H
   obtain ⟨⟨t840, t843⟩, A280, H⟩ := H
   replace H : ((sub_Subtract.f l0 ([] : List (S38)) a2).bind fun bt844 => (if t839 = 0 then (if (t836.length : Int) = (l0.length : Int) then (bindlelaw20_SubParts.j1 kj3 l0 t836 t840 bt844.1 ((wrap64 ((t825.length : Int) + (t829.length : Int))) != (l0.length : Int))) else (bindlelaw20_SubParts.j1 kj3 l0 t836 t840 bt844.1 true)) else (bindlelaw20_SubParts.j1 kj3 l0 t836 t840 bt844.1 true))) = some r := H
   have A28 := A0_ A280
   clear A280
   replace H := Option.bind_eq_some_iff.mp H
   obtain ⟨⟨t844, t847⟩, A290, H⟩ := H
   replace H : (if t839 = 0 then (if (t836.length : Int) = (l0.length : Int) then (bindlelaw20_SubParts.j1 kj3 l0 t836 t840 t844 ((wrap64 ((t825.length : Int) + (t829.length : Int))) != (l0.length : Int))) else (bindlelaw20_SubParts.j1 kj3 l0 t836 t840 t844 true)) else (bindlelaw20_SubParts.j1 kj3 l0 t836 t840 t844 true)) = some r := H
   have A29 := A0_ A290
   clear A290
   have HC30 := A0_ H
   clear H
   go_upto_region 8 with (first | ((with_reducible refine gate_callee (f := 38) rfl ?_); refine goesL_ (some 38) rfl rfl Tryd.func38 (by kernel_rfl) rfl #[.slice A0 l0.length c0, .slice A1 l1.length c1, .bool a2] rfl wm_ ?_; (with_reducible refine (sub_Subtract.calls _ _ l0 _ _ l1 a2 t825 t828 _ ?side1 ?side2 ?side3 ?side4 ?side5 A25.out).mono ?_); (case side1 => exact A0_ (Tabs.below hT.out (wb_ HB.out))); (case side2 => exact wc_ (Kd.V_reads' HO_0.out).2.2); (case side3 => exact (Kd.V_reads' HO_0.out).2.1); (case side4 => exact wc_ (Kd.V_reads' HO_1.out).2.2); (case side5 => exact (Kd.V_reads' HO_1.out).2.1); rintro e w31 ⟨v826, rfl, ho0, hb⟩; refine ⟨_, rfl, ?_⟩; have n0_ := A0_ (Vb_ (wV_ HO_0.out) hb); have n1_ := A0_ (Vb_ (wV_ HO_1.out) hb); have n2_ := A0_ (Kd.V_lower (Kd.V_mono (ok' := fun k_ => ((P0_ k_ ∨ P1_ k_) ∨ w.heap.size ≤ k_)) ho0 (fun k_ hk_ => (.inr (Nat.le_trans (below_size (wb_ HB.out)) hk_)))) (below_size (wb_ HB.out))); have n3_ := A0_ (below_step (wb_ HB.out) hb); clear HO_0; clear HO_1; clear HB; have HO_0 := n0_; have HO_1 := n1_; have HO827 := n2_; have HB := n3_; clear n0_ n1_ n2_ n3_; (try clear hb); (try clear hb2); (try clear hk); (try clear hi); (try clear ho0); obtain ⟨Ao32, co32, eo32⟩ := Kd.V_slice HO827.out; subst eo32) | ((with_reducible refine gate_callee (f := 38) rfl ?_); refine goesL_ (some 44) rfl rfl Tryd.func38 (by kernel_rfl) rfl #[.slice A0 l0.length c0, .slice Ao32 t825.length co32, .bool false] rfl wm_ ?_; (with_reducible refine (sub_Subtract.calls _ _ l0 _ _ t825 false t829 t832 _ ?side1 ?side2 ?side3 ?side4 ?side5 A26.out).mono ?_); (case side1 => exact A0_ (Tabs.below hT.out (wb_ HB.out))); (case side2 => exact wc_ (Kd.V_reads' HO_0.out).2.2); (case side3 => exact (Kd.V_reads' HO_0.out).2.1); (case side4 => exact wc_ (Kd.V_reads' HO827.out).2.2); (case side5 => exact (Kd.V_reads' HO827.out).2.1); rintro e w33 ⟨v830, rfl, ho0, hb⟩; refine ⟨_, rfl, ?_⟩; have n0_ := A0_ (Vb_ (wV_ HO_0.out) hb); have n1_ := A0_ (Vb_ (wV_ HO_1.out) hb); have n2_ := A0_ (Vb_ (wV_ HO827.out) hb); have n3_ := A0_ (Kd.V_lower (Kd.V_mono (ok' := fun k_ => ((P0_ k_ ∨ P1_ k_) ∨ w.heap.size ≤ k_)) ho0 (fun k_ hk_ => (.inr (Nat.le_trans (below_size (wb_ HB.out)) hk_)))) (below_size (wb_ HB.out))); have n4_ := A0_ (below_step (wb_ HB.out) hb); clear HO_0; clear HO_1; clear HO827; clear HB; have HO_0 := n0_; have HO_1 := n1_; have HO827 := n2_; have HO831 := n3_; have HB := n4_; clear n0_ n1_ n2_ n3_ n4_; (try clear hb); (try clear hb2); (try clear hk); (try clear hi); (try clear ho0); obtain ⟨Ao34, co34, eo34⟩ := Kd.V_slice HO831.out; subst eo34) | ((with_reducible refine gate_dst (N := 50) rfl ?_); (try (refine gate_guard (by rfl) ?_; dsimp only)); refine Kd.N_lit (Kd.slice 38 k38) _ 31 ?hg (N' := 50) ?hd (xs := ([t825, t829] : List (List (S38)))) (inner := [.slice Ao32 t825.length co32, .slice Ao34 t829.length co34]) (ok := (fun k_ => ((P0_ k_ ∨ P1_ k_) ∨ w.heap.size ≤ k_))) (okp := (fun k_ => ((P0_ k_ ∨ P1_ k_) ∨ w.heap.size ≤ k_))) ?hr ?hp (fun _ hk => hk) ((show ∀ k_, w33.heap.size ≤ k_ → (fun k_ => ((P0_ k_ ∨ P1_ k_) ∨ w.heap.size ≤ k_)) k_ from fun k_ hk => (.inr (Nat.le_trans (below_size (wb_ HB.out)) hk))) _ (Nat.le_refl _)) (Below.refl _ _) (Nat.le_refl _) (by simp) ?_; (case hd => rfl); (case hg => rfl); (case hr => first | (go_simp; done) | (go_simp; rfl)); (case hp => exact (Reps.one (show Kd.FK (Kd.slice 38 k38) _ _ t825 [.slice Ao32 t825.length co32] from (Kd.FK_slice_mk (Kd.V_reads' (Kd.V_mono (ok' := (fun k_ => ((P0_ k_ ∨ P1_ k_) ∨ w.heap.size ≤ k_))) (HO827.out) (fun k_ hk => hk))).2.1 (Kd.V_F (Kd.V_mono (ok' := (fun k_ => ((P0_ k_ ∨ P1_ k_) ∨ w.heap.size ≤ k_))) (HO827.out) (fun k_ hk => hk))))) (Reps.one (show Kd.FK (Kd.slice 38 k38) _ _ t829 [.slice Ao34 t829.length co34] from (Kd.FK_slice_mk (Kd.V_reads' (Kd.V_mono (ok' := (fun k_ => ((P0_ k_ ∨ P1_ k_) ∨ w.heap.size ≤ k_))) (HO831.out) (fun k_ hk => hk))).2.1 (Kd.V_F (Kd.V_mono (ok' := (fun k_ => ((P0_ k_ ∨ P1_ k_) ∨ w.heap.size ≤ k_))) (HO831.out) (fun k_ hk => hk))))) (Reps.none _ _)))); intro v834 w35 ho36 hb hg_ hnew_; clear hg_ hnew_; (first | rw [← Ny833.out] at ho36 | (simp only [Int.reduceToNat] at ho36; rw [← Ny833.out] at ho36)); have n0_ := A0_ (Kd.V_elder' (wV_ HO_0.out) (Kd.N_base ho36) hb); have n1_ := A0_ (Kd.V_elder' (wV_ HO_1.out) (Kd.N_base ho36) hb); have n2_ := A0_ (Kd.V_elder' (wV_ HO827.out) (Kd.N_base ho36) hb); have n3_ := A0_ (Kd.V_elder' (wV_ HO831.out) (Kd.N_base ho36) hb); have n4_ := A0_ (Kd.N_lower ho36 (below_size (wb_ HB.out))); have n5_ := A0_ (below_step (wb_ HB.out) hb); clear HO_0; clear HO_1; clear HO827; clear HO831; clear HB; have HO_0 := n0_; have HO_1 := n1_; have HO827 := n2_; have HO831 := n3_; have HO835 := n4_; have HB := n5_; clear n0_ n1_ n2_ n3_ n4_ n5_; clear hb ho36; obtain ⟨Ao37, co37, eo37⟩ := Kd.N_slice HO835.out; subst eo37) | ((with_reducible refine gate_callee (f := 23) rfl ?_); refine goesL_ (some 51) rfl rfl Tryd.func23 (by kernel_rfl) rfl #[.slice Ao37 y833.length co37] rfl wm_ ?_; (with_reducible refine (union_Union.calls _ _ y833 t836 t839 _ ?side1 ?side2 ?side3 A27.out).mono ?_); (case side1 => exact A0_ (Tabs.below hT.out (wb_ HB.out))); (case side2 => exact wc_ (Kd.N_reads' HO835.out).2.2); (case side3 => exact (Kd.N_reads' HO835.out).2.1); rintro e w38 ⟨v837, rfl, ho0, hb⟩; refine ⟨_, rfl, ?_⟩; have n0_ := A0_ (Vb_ (wV_ HO_0.out) hb); have n1_ := A0_ (Vb_ (wV_ HO_1.out) hb); have n2_ := A0_ (Vb_ (wV_ HO827.out) hb); have n3_ := A0_ (Vb_ (wV_ HO831.out) hb); have n4_ := A0_ (Kd.N_below (wN_ HO835.out) hb); have n5_ := A0_ (Kd.V_lower (Kd.V_mono (ok' := fun k_ => ((P0_ k_ ∨ P1_ k_) ∨ w.heap.size ≤ k_) ∧ some k_ ≠ (.slice Ao37 y833.length co37 : Value).ownBlock) ho0 (fun k_ hk_ => ⟨(.inr (Nat.le_trans (below_size (wb_ HB.out)) hk_)), (Kd.fresh' (Kd.N_lt (wN_ HO835.out)) k_ hk_)⟩)) (below_size (wb_ HB.out))); have n6_ := A0_ (below_step (wb_ HB.out) hb); clear HO_0; clear HO_1; clear HO827; clear HO831; clear HO835; clear HB; have HO_0 := n0_; have HO_1 := n1_; have HO827 := n2_; have HO831 := n3_; have HO835 := n4_; have HO838 := n5_; have HB := n6_; clear n0_ n1_ n2_ n3_ n4_ n5_ n6_; (try clear hb); (try clear hb2); (try clear hk); (try clear hi); (try clear ho0)) | ((with_reducible refine gate_callee (f := 38) rfl ?_); refine goesL_ (some 58) rfl rfl Tryd.func38 (by kernel_rfl) rfl #[.slice A0 l0.length c0, .slice A0 l0.length c0, .bool a2] rfl wm_ ?_; (with_reducible refine (sub_Subtract.calls _ _ l0 _ _ l0 a2 t840 t843 _ ?side1 ?side2 ?side3 ?side4 ?side5 A28.out).mono ?_); (case side1 => exact A0_ (Tabs.below hT.out (wb_ HB.out))); (case side2 => exact wc_ (Kd.V_reads' HO_0.out).2.2); (case side3 => exact (Kd.V_reads' HO_0.out).2.1); (case side4 => exact wc_ (Kd.V_reads' HO_0.out).2.2); (case side5 => exact (Kd.V_reads' HO_0.out).2.1); rintro e w39 ⟨v841, rfl, ho0, hb⟩; refine ⟨_, rfl, ?_⟩; have n0_ := A0_ (Vb_ (wV_ HO_0.out) hb); have n1_ := A0_ (Vb_ (wV_ HO_1.out) hb); have n2_ := A0_ (Vb_ (wV_ HO827.out) hb); have n3_ := A0_ (Vb_ (wV_ HO831.out) hb); have n4_ := A0_ (Kd.N_below (wN_ HO835.out) hb); have n5_ := A0_ (Vb_ (wV_ HO838.out) hb); have n6_ := A0_ (Kd.V_lower (Kd.V_mono (ok' := fun k_ => ((P0_ k_ ∨ P1_ k_) ∨ w.heap.size ≤ k_) ∧ some k_ ≠ (.slice Ao37 y833.length co37 : Value).ownBlock) ho0 (fun k_ hk_ => ⟨(.inr (Nat.le_trans (below_size (wb_ HB.out)) hk_)), (Kd.fresh' (Kd.N_lt (wN_ HO835.out)) k_ hk_)⟩)) (below_size (wb_ HB.out))); have n7_ := A0_ (below_step (wb_ HB.out) hb); clear HO_0; clear HO_1; clear HO827; clear HO831; clear HO835; clear HO838; clear HB; have HO_0 := n0_; have HO_1 := n1_; have HO827 := n2_; have HO831 := n3_; have HO835 := n4_; have HO838 := n5_; have HO842 := n6_; have HB := n7_; clear n0_ n1_ n2_ n3_ n4_ n5_ n6_ n7_; (try clear hb); (try clear hb2); (try clear hk); (try clear hi); (try clear ho0)) | ((with_reducible refine gate_callee (f := 38) rfl ?_); refine goesL_ (some 64) rfl rfl Tryd.func38 (by kernel_rfl) rfl #[.slice A0 l0.length c0, .slice none 0 0, .bool a2] rfl wm_ ?_; (refine (sub_Subtract.calls _ _ l0 _ _ ([] : List (S38)) a2 t844 t847 _ ?side1 ?side2 ?side3 ?side4 ?side5 A29.out).mono ?_); (case side1 => exact A0_ (Tabs.below hT.out (wb_ HB.out))); (case side2 => exact wc_ (Kd.V_reads' HO_0.out).2.2); (case side3 => exact (Kd.V_reads' HO_0.out).2.1); (case side4 => exact Kd.C_nil _ _); (case side5 => exact Nat.le_refl _); rintro e w40 ⟨v845, rfl, ho0, hb⟩; refine ⟨_, rfl, ?_⟩; have n0_ := A0_ (Vb_ (wV_ HO_0.out) hb); have n1_ := A0_ (Vb_ (wV_ HO_1.out) hb); have n2_ := A0_ (Vb_ (wV_ HO827.out) hb); have n3_ := A0_ (Vb_ (wV_ HO831.out) hb); have n4_ := A0_ (Kd.N_below (wN_ HO835.out) hb); have n5_ := A0_ (Vb_ (wV_ HO838.out) hb); have n6_ := A0_ (Vb_ (wV_ HO842.out) hb); have n7_ := A0_ (Kd.V_lower (Kd.V_mono (ok' := fun k_ => ((P0_ k_ ∨ P1_ k_) ∨ w.heap.size ≤ k_) ∧ some k_ ≠ (.slice Ao37 y833.length co37 : Value).ownBlock) ho0 (fun k_ hk_ => ⟨(.inr (Nat.le_trans (below_size (wb_ HB.out)) hk_)), (Kd.fresh' (Kd.N_lt (wN_ HO835.out)) k_ hk_)⟩)) (below_size (wb_ HB.out))); have n8_ := A0_ (below_step (wb_ HB.out) hb); clear HO_0; clear HO_1; clear HO827; clear HO831; clear HO835; clear HO838; clear HO842; clear HB; have HO_0 := n0_; have HO_1 := n1_; have HO827 := n2_; have HO831 := n3_; have HO835 := n4_; have HO838 := n5_; have HO842 := n6_; have HO846 := n7_; have HB := n8_; clear n0_ n1_ n2_ n3_ n4_ n5_ n6_ n7_ n8_; (try clear hb); (try clear hb2); (try clear hk); (try clear hi); (try clear ho0)))
   (try simp only [Act.put, List.setIfInBounds_toArray, List.set_cons_zero, List.set_cons_succ])
   go_cut [85] (fun v85 wc => ∃ (kq : Nat) (x85_29 : Bool), v85 = .bool x85_29 ∧ Aside0 (bindlelaw20_SubParts.j1 kq l0 t836 t840 t844 x85_29 = some r) ∧ Aside0 (kq ≤ kj3) ∧ Aside0 (Kd.V k38 38 wc w.heap.size (fun k_ => ((P0_ k_ ∨ P1_ k_) ∨ w.heap.size ≤ k_)) (.slice A0 l0.length c0) l0) ∧ Aside0 (Kd.V k38 38 wc w.heap.size (fun k_ => ((P0_ k_ ∨ P1_ k_) ∨ w.heap.size ≤ k_)) v837 t836) ∧ Aside0 (Kd.V k38 38 wc w.heap.size (fun k_ => ((P0_ k_ ∨ P1_ k_) ∨ w.heap.size ≤ k_)) v841 t840) ∧ Aside0 (Kd.V k38 38 wc w.heap.size (fun k_ => ((P0_ k_ ∨ P1_ k_) ∨ w.heap.size ≤ k_)) v845 t844) ∧ Aside0 (Below w.heap.size w wc))
   case first =>
    have H := HC30.out
    clear HC30
    by_cases c41 : t839 = 0
    rotate_left
    ·rw [if_neg c41] at H
     have c41b0 : (t839 == 0) = false := beq_eq_false_iff_ne.mpr c41
     have c41b1 : (t839 != 0) = true := bne_iff_ne.mpr c41
     (first | rw [c41b0] | (simp only [i64_w, i32_w]; rw [c41b0]) | skip)
     have H' := A0_ H
     clear H
     go_wp2
     go_meet
     case rel => exact ⟨_, (true), wr_, H', ⟨by have := HJ3.out; first | omega | exact Nat.le_refl _⟩, ⟨by (with_reducible repeat (first | apply Va_ | apply VN_ | apply V1_)); exact Kd.V_mono HO_0.out (fun _ hk => hk.1)⟩, ⟨by (with_reducible repeat (first | apply Va_ | apply VN_ | apply V1_)); exact Kd.V_mono HO838.out (fun _ hk => hk.1)⟩, ⟨by (with_reducible repeat (first | apply Va_ | apply VN_ | apply V1_)); exact Kd.V_mono HO842.out (fun _ hk => hk.1)⟩, ⟨by (with_reducible repeat (first | apply Va_ | apply VN_ | apply V1_)); exact Kd.V_mono HO846.out (fun _ hk => hk.1)⟩, ⟨wb_ HB.out⟩⟩
    rw [if_pos c41] at H
    have c41b0 : (t839 == 0) = true := beq_iff_eq.mpr c41
    have c41b1 : (t839 != 0) = false := bne_eq_false_iff_eq.mpr c41
    clear c41
    (first | rw [c41b0] | (simp only [i64_w, i32_w]; rw [c41b0]) | skip)
    by_cases c42 : (t836.length : Int) = (l0.length : Int)
    rotate_left
    ·rw [if_neg c42] at H
     have c42b0 : ((t836.length : Int) == (l0.length : Int)) = false := beq_eq_false_iff_ne.mpr c42
     have c42b1 : ((t836.length : Int) != (l0.length : Int)) = true := bne_iff_ne.mpr c42
     have c42b2 : (t836.length == l0.length) = false := by first | simpa using c42 | (simp at c42 ⊢; omega)
     have H' := A0_ H
     clear H
     obtain ⟨Ao44, co44, eo44⟩ := Kd.V_slice HO838.out
     subst eo44
     go_wp2
     go_meet
     case rel => exact ⟨_, (true), wr_, H', ⟨by have := HJ3.out; first | omega | exact Nat.le_refl _⟩, ⟨by (with_reducible repeat (first | apply Va_ | apply VN_ | apply V1_)); exact Kd.V_mono HO_0.out (fun _ hk => hk.1)⟩, ⟨by (with_reducible repeat (first | apply Va_ | apply VN_ | apply V1_)); exact Kd.V_mono HO838.out (fun _ hk => hk.1)⟩, ⟨by (with_reducible repeat (first | apply Va_ | apply VN_ | apply V1_)); exact Kd.V_mono HO842.out (fun _ hk => hk.1)⟩, ⟨by (with_reducible repeat (first | apply Va_ | apply VN_ | apply V1_)); exact Kd.V_mono HO846.out (fun _ hk => hk.1)⟩, ⟨wb_ HB.out⟩⟩
    rw [if_pos c42] at H
    have c42b0 : ((t836.length : Int) == (l0.length : Int)) = true := beq_iff_eq.mpr c42
    have c42b1 : ((t836.length : Int) != (l0.length : Int)) = false := bne_eq_false_iff_eq.mpr c42
    have c42b2 : (t836.length == l0.length) = true := by first | simpa using c42 | (simp at c42 ⊢; omega)
    clear c42
    have H' := A0_ H
    clear H
    obtain ⟨Ao43, co43, eo43⟩ := Kd.V_slice HO838.out
    subst eo43
    go_wp2
    go_meet
    case rel => exact ⟨_, (((wrap64 ((t825.length : Int) + (t829.length : Int))) != (l0.length : Int))), wr_, H', ⟨by have := HJ3.out; first | omega | exact Nat.le_refl _⟩, ⟨by (with_reducible repeat (first | apply Va_ | apply VN_ | apply V1_)); exact Kd.V_mono HO_0.out (fun _ hk => hk.1)⟩, ⟨by (with_reducible repeat (first | apply Va_ | apply VN_ | apply V1_)); exact Kd.V_mono HO838.out (fun _ hk => hk.1)⟩, ⟨by (with_reducible repeat (first | apply Va_ | apply VN_ | apply V1_)); exact Kd.V_mono HO842.out (fun _ hk => hk.1)⟩, ⟨by (with_reducible repeat (first | apply Va_ | apply VN_ | apply V1_)); exact Kd.V_mono HO846.out (fun _ hk => hk.1)⟩, ⟨wb_ HB.out⟩⟩
   case rest =>
    clear HC30
    try clear c1
    try clear c2
    try clear p2
    try clear c3
    try clear c4
    try clear c6
    try clear p6
    try clear c8
    try clear c13
    try clear c22
    try clear c23
    try clear c34
    try clear c35
    try clear c38
    try clear c41
    try clear c41b0
    try clear c41b1
    try clear c42
    try clear c42b0
    try clear c42b1
    try clear c42b2
    try clear p2
    obtain ⟨kq, x85_29, rfl, HA, HJ29, HO_0, HO_11, HO_13, HO_15, HB⟩ := hcut
    cases kq with
    | zero => exact absurd HA.out (by simp [bindlelaw20_SubParts.j1])
    | succ kj29 =>
     have H := HA.out
     clear HA
     simp only [bindlelaw20_SubParts.j1] at H
     by_cases c45 : x85_29 = true
     ·subst c45
      have H1 : (some false) = some r := by rw [if_pos rfl] at H; exact H
      clear H
      have H := H1
      clear H1
      obtain rfl := Option.some.inj H
      go_wp2
      go_ret
      exact ⟨we_, wb_ HB.out⟩
     replace c45 := Bool.eq_false_iff.mpr c45
     subst c45
     have H1 : (bindlelaw20_SubParts.l0 kj29 l0 t836 t840 t844 0) = some r := by rw [if_neg (show ¬ (false = true) by decide)] at H; exact H
     clear H
     have H := H1
     clear H1
     have H' := A0_ H
     clear H
     go_wp2
     go_loopg [17] kj29 (fun kq v17 w' => ∃ (x17_3 : Int), v17 = .int .i64 x17_3 ∧ Aside0 (bindlelaw20_SubParts.l0 kq l0 t836 t840 t844 x17_3 = some r) ∧ Aside0 (kq ≤ kj29) ∧ Aside0 (Kd.V k38 38 w' w.heap.size (fun k_ => ((P0_ k_ ∨ P1_ k_) ∨ w.heap.size ≤ k_)) (.slice A0 l0.length c0) l0) ∧ Aside0 (Kd.V k38 38 w' w.heap.size (fun k_ => ((P0_ k_ ∨ P1_ k_) ∨ w.heap.size ≤ k_)) v837 t836) ∧ Aside0 (Kd.V k38 38 w' w.heap.size (fun k_ => ((P0_ k_ ∨ P1_ k_) ∨ w.heap.size ≤ k_)) v841 t840) ∧ Aside0 (Kd.V k38 38 w' w.heap.size (fun k_ => ((P0_ k_ ∨ P1_ k_) ∨ w.heap.size ≤ k_)) v845 t844) ∧ Aside0 (Below w.heap.size w w'))
     case atStart => exact ⟨(0), wr_, H', ⟨Nat.le_refl _⟩, ⟨wV_ HO_0.out⟩, ⟨wV_ HO_11.out⟩, ⟨wV_ HO_13.out⟩, ⟨wV_ HO_15.out⟩, ⟨wb_ HB.out⟩⟩
     case round =>
      clear H'
      try clear c1
      try clear c2
      try clear p2
      try clear c3
      try clear c4
      try clear c6
      try clear p6
      try clear c8
      try clear c13
      try clear c22
      try clear c23
      try clear c34
      try clear c35
      try clear c38
      try clear c41
      try clear c41b0
      try clear c41b1
      try clear c42
      try clear c42b0
      try clear c42b1
      try clear c42b2
      try clear c45
      try clear p2
      try clear p6
      obtain ⟨x17_3, rfl, HA, HK3, HO_0, HO_11, HO_13, HO_15, HB⟩ := hrel
      cases gk with
      | zero => exact absurd HA.out (by simp [bindlelaw20_SubParts.l0])
      | succ k3 =>
       have H := HA.out
       clear HA
       simp only [bindlelaw20_SubParts.l0] at H
       by_cases c46 : x17_3 < (l0.length : Int)
       rotate_left
       ·rw [if_neg c46] at H
        have c46b0 : decide (x17_3 < (l0.length : Int)) = false := decide_eq_false c46
        clear c46
        replace H := Option.bind_eq_some_iff.mp H
        obtain ⟨t851, A570, H⟩ := H
        replace H : (if t851 = true then (if (t840.length : Int) = 0 then ((bindleref08_SameTree.f k3 t844 l0).bind fun t852 => (some t852)) else (some false)) else (some false)) = some r := H
        have A57 := A0_ A570
        clear A570
        by_cases c58 : t851 = true
        rotate_left
        ·replace c58 := Bool.eq_false_iff.mpr c58
         subst c58
         have H1 : (some false) = some r := by rw [if_neg (show ¬ (false = true) by decide)] at H; exact H
         clear H
         have H := H1
         clear H1
         obtain rfl := Option.some.inj H
         go_wp2_with (first | ((with_reducible refine gate_callee (f := 35) rfl ?_); refine goesL_ (some 102) rfl rfl Tryd.func35 (by kernel_rfl) rfl #[] rfl wm_ ?_; (with_reducible refine (bindlelaw20_answers.calls  false _ ?side1 A57.out).mono ?_); (case side1 => exact A0_ (Tabs.below hT.out (wb_ HB.out))); rintro e w67 ⟨rfl, hb⟩; refine ⟨_, rfl, ?_⟩; have n0_ := A0_ (Vb_ (wV_ HO_0.out) hb); have n1_ := A0_ (Vb_ (wV_ HO_11.out) hb); have n2_ := A0_ (Vb_ (wV_ HO_13.out) hb); have n3_ := A0_ (Vb_ (wV_ HO_15.out) hb); have n4_ := A0_ (below_step (wb_ HB.out) hb); clear HO_0; clear HO_11; clear HO_13; clear HO_15; clear HB; have HO_0 := n0_; have HO_11 := n1_; have HO_13 := n2_; have HO_15 := n3_; have HB := n4_; clear n0_ n1_ n2_ n3_ n4_; (try clear hb); (try clear hb2); (try clear hk); (try clear hi)))
         go_ret
         exact ⟨we_, wb_ HB.out⟩
        subst c58
        have H1 : (if (t840.length : Int) = 0 then ((bindleref08_SameTree.f k3 t844 l0).bind fun t852 => (some t852)) else (some false)) = some r := by rw [if_pos rfl] at H; exact H
        clear H
        have H := H1
        clear H1
        by_cases c59 : (t840.length : Int) = 0
        rotate_left
        ·rw [if_neg c59] at H
         have c59b0 : ((t840.length : Int) == 0) = false := beq_eq_false_iff_ne.mpr c59
         have c59b1 : ((t840.length : Int) != 0) = true := bne_iff_ne.mpr c59
         have c59b2 : ¬ (t840 = []) := fun h_ => c59 (by rw [h_]; rfl)
         obtain rfl := Option.some.inj H
         go_wp2_with (first | ((with_reducible refine gate_callee (f := 35) rfl ?_); refine goesL_ (some 102) rfl rfl Tryd.func35 (by kernel_rfl) rfl #[] rfl wm_ ?_; (with_reducible refine (bindlelaw20_answers.calls  true _ ?side1 A57.out).mono ?_); (case side1 => exact A0_ (Tabs.below hT.out (wb_ HB.out))); rintro e w65 ⟨rfl, hb⟩; refine ⟨_, rfl, ?_⟩; have n0_ := A0_ (Vb_ (wV_ HO_0.out) hb); have n1_ := A0_ (Vb_ (wV_ HO_11.out) hb); have n2_ := A0_ (Vb_ (wV_ HO_13.out) hb); have n3_ := A0_ (Vb_ (wV_ HO_15.out) hb); have n4_ := A0_ (below_step (wb_ HB.out) hb); clear HO_0; clear HO_11; clear HO_13; clear HO_15; clear HB; have HO_0 := n0_; have HO_11 := n1_; have HO_13 := n2_; have HO_15 := n3_; have HB := n4_; clear n0_ n1_ n2_ n3_ n4_; (try clear hb); (try clear hb2); (try clear hk); (try clear hi); obtain ⟨Ao66, co66, eo66⟩ := Kd.V_slice HO_13.out; subst eo66))
         go_ret
         exact ⟨we_, wb_ HB.out⟩
        rw [if_pos c59] at H
        have c59b0 : ((t840.length : Int) == 0) = true := beq_iff_eq.mpr c59
        have c59b1 : ((t840.length : Int) != 0) = false := bne_eq_false_iff_eq.mpr c59
        clear c59
        replace H := Option.bind_eq_some_iff.mp H
        obtain ⟨t852, A600, H⟩ := H
        replace H : (some t852) = some r := H
        have A60 := A0_ A600
        clear A600
        obtain rfl := Option.some.inj H
        go_wp2_with (first | ((with_reducible refine gate_callee (f := 35) rfl ?_); refine goesL_ (some 102) rfl rfl Tryd.func35 (by kernel_rfl) rfl #[] rfl wm_ ?_; (with_reducible refine (bindlelaw20_answers.calls  true _ ?side1 A57.out).mono ?_); (case side1 => exact A0_ (Tabs.below hT.out (wb_ HB.out))); rintro e w61 ⟨rfl, hb⟩; refine ⟨_, rfl, ?_⟩; have n0_ := A0_ (Vb_ (wV_ HO_0.out) hb); have n1_ := A0_ (Vb_ (wV_ HO_11.out) hb); have n2_ := A0_ (Vb_ (wV_ HO_13.out) hb); have n3_ := A0_ (Vb_ (wV_ HO_15.out) hb); have n4_ := A0_ (below_step (wb_ HB.out) hb); clear HO_0; clear HO_11; clear HO_13; clear HO_15; clear HB; have HO_0 := n0_; have HO_11 := n1_; have HO_13 := n2_; have HO_15 := n3_; have HB := n4_; clear n0_ n1_ n2_ n3_ n4_; (try clear hb); (try clear hb2); (try clear hk); (try clear hi); obtain ⟨Ao62, co62, eo62⟩ := Kd.V_slice HO_13.out; subst eo62; obtain ⟨Ao63, co63, eo63⟩ := Kd.V_slice HO_15.out; subst eo63) | (go_at_call 25; (with_reducible refine (bindleref08_SameTree.calls k3 _ _ t844 _ _ l0 t852 _ ?side1 ?side2 ?side3 ?side4 A60.out).mono ?_); (case side1 => exact wc_ (Kd.V_reads' HO_15.out).2.2); (case side2 => exact (Kd.V_reads' HO_15.out).2.1); (case side3 => exact wc_ (Kd.V_reads' HO_0.out).2.2); (case side4 => exact (Kd.V_reads' HO_0.out).2.1); rintro e w64 ⟨rfl, hb⟩; have n0_ := A0_ (Vb_ (wV_ HO_0.out) hb); have n1_ := A0_ (Vb_ (wV_ HO_11.out) hb); have n2_ := A0_ (Vb_ (wV_ HO_13.out) hb); have n3_ := A0_ (Vb_ (wV_ HO_15.out) hb); have n4_ := A0_ (below_step (wb_ HB.out) hb); clear HO_0; clear HO_11; clear HO_13; clear HO_15; clear HB; have HO_0 := n0_; have HO_11 := n1_; have HO_13 := n2_; have HO_15 := n3_; have HB := n4_; clear n0_ n1_ n2_ n3_ n4_; (try clear hb); (try clear hb2); (try clear hk); (try clear hi)))
        go_ret
        exact ⟨we_, wb_ HB.out⟩
       rw [if_pos c46] at H
       have c46b0 : decide (x17_3 < (l0.length : Int)) = true := decide_eq_true c46
       clear c46
       by_cases c47 : 0 ≤ x17_3
       rotate_left
       ·rw [if_neg c47] at H
        exact absurd H (by simp)
       rw [if_pos c47] at H
       have c47b0 : decide (0 ≤ x17_3) = true := decide_eq_true c47
       clear c47
       by_cases c48 : x17_3 < (t836.length : Int)
       rotate_left
       ·rw [if_neg c48] at H
        exact absurd H (by simp)
       rw [if_pos c48] at H
       have c48b0 : decide (x17_3 < (t836.length : Int)) = true := decide_eq_true c48
       clear c48
       replace H := Option.bind_eq_some_iff.mp H
       obtain ⟨t850, A490, H⟩ := H
       replace H : (if t850 = true then (bindlelaw20_SubParts.l0 k3 l0 t836 t840 t844 (wrap64 (x17_3 + 1))) else (some false)) = some r := H
       have A49 := A0_ A490
       clear A490
       by_cases c50 : t850 = true
       rotate_left
       ·replace c50 := Bool.eq_false_iff.mpr c50
        subst c50
        have H1 : (some false) = some r := by rw [if_neg (show ¬ (false = true) by decide)] at H; exact H
        clear H
        have H := H1
        clear H1
        obtain rfl := Option.some.inj H
        try go_wp2
        have n0_ := A0_ (V1_ HO_0.out)
        have n1_ := A0_ (V1_ HO_11.out)
        have n2_ := A0_ (V1_ HO_13.out)
        have n3_ := A0_ (V1_ HO_15.out)
        have n4_ := A0_ (b1_ HB.out)
        clear HO_0
        clear HO_11
        clear HO_13
        clear HO_15
        clear HB
        have HO_0 := n0_
        have HO_11 := n1_
        have HO_13 := n2_
        have HO_15 := n3_
        have HB := n4_
        clear n0_ n1_ n2_ n3_ n4_
        have p848 : 0 ≤ (x17_3 : Int) := wd_
        have q848 : x17_3 < (l0.length : Int) := wd_
        obtain ⟨ad848, A848_8, c848_8, e848, hx848_0, hx848_1, hx848_2, hx848_3, hx848_4, hx848_5, hx848_6, hx848_7, hx848_8, hl848_8, hi848_8⟩ := at_T38 (Kd.V_reads' HO_0.out).2.2 x17_3 p848 q848
        cases e848
        obtain ⟨ce848, hce848, hMe848, hcc848⟩ := Kd.V_get HO_0.out z38 x17_3 p848 (by first | exact q848 | exact wd_ | (have e_ := (Kd.V_reads' HO_0.out).1; omega))
        obtain ⟨ua848_8, uc848_8, rfl, ul848_8, ge848_8⟩ := k38_openF hMe848
        have hv848_8 := hcc848 8 _ rfl
        rw [add_field _ _ 8 (by omega)] at hv848_8
        replace hv848_8 := Option.some.inj (hv848_8.symm.trans hx848_8)
        injection hv848_8 with hva_ hvn_ hvc_
        rw [hva_] at ge848_8
        rw [hvc_] at ul848_8
        have HL848_8 := A0_ (show Kd.V (Kd.int .u8) 5 _ w.heap.size _ _ ((rd_T38 l0 x17_3).f5) from Kd.V_mk ul848_8 ge848_8)
        clear hva_ hvn_ hvc_ ge848_8 ul848_8
        clear hcc848 hce848
        have HR848_8 := A0_ hi848_8
        have HC848_8 := A0_ hl848_8
        clear hi848_8 hl848_8
        replace p848 := eq_true p848
        replace q848 := eq_true q848
        obtain ⟨Ao55, co55, eo55⟩ := Kd.V_slice HO_11.out
        (first | subst eo55 | (injection eo55 with f1_ f2_ f3_; have f4_ := f1_.symm; have f5_ := f3_.symm; clear f1_ f2_ f3_; subst f4_; subst f5_))
        have p849 : 0 ≤ (x17_3 : Int) := wd_
        have q849 : x17_3 < (t836.length : Int) := wd_
        obtain ⟨ad849, A849_8, c849_8, e849, hx849_0, hx849_1, hx849_2, hx849_3, hx849_4, hx849_5, hx849_6, hx849_7, hx849_8, hl849_8, hi849_8⟩ := at_T38 (Kd.V_reads' HO_11.out).2.2 x17_3 p849 q849
        cases e849
        obtain ⟨ce849, hce849, hMe849, hcc849⟩ := Kd.V_get HO_11.out z38 x17_3 p849 (by first | exact q849 | exact wd_ | (have e_ := (Kd.V_reads' HO_11.out).1; omega))
        obtain ⟨ua849_8, uc849_8, rfl, ul849_8, ge849_8⟩ := k38_openF hMe849
        have hv849_8 := hcc849 8 _ rfl
        rw [add_field _ _ 8 (by omega)] at hv849_8
        replace hv849_8 := Option.some.inj (hv849_8.symm.trans hx849_8)
        injection hv849_8 with hva_ hvn_ hvc_
        rw [hva_] at ge849_8
        rw [hvc_] at ul849_8
        have HL849_8 := A0_ (show Kd.V (Kd.int .u8) 5 _ w.heap.size _ _ ((rd_T38 t836 x17_3).f5) from Kd.V_mk ul849_8 ge849_8)
        clear hva_ hvn_ hvc_ ge849_8 ul849_8
        clear hcc849 hce849
        have HR849_8 := A0_ hi849_8
        have HC849_8 := A0_ hl849_8
        clear hi849_8 hl849_8
        replace p849 := eq_true p849
        replace q849 := eq_true q849
        refine start_ (n := 10) (S := fun w' => w'.cell? (ad848.add ((x17_3).toNat * 9)) = some (.string ((rd_T38 l0 x17_3).f0)) ∧ w'.cell? ⟨(ad848.add ((x17_3).toNat * 9)).block, (ad848.add ((x17_3).toNat * 9)).off + 1, none⟩ = some (.string ((rd_T38 l0 x17_3).f1)) ∧ w'.cell? ⟨(ad848.add ((x17_3).toNat * 9)).block, (ad848.add ((x17_3).toNat * 9)).off + 2, none⟩ = some (.string ((rd_T38 l0 x17_3).f2)) ∧ w'.cell? ⟨(ad848.add ((x17_3).toNat * 9)).block, (ad848.add ((x17_3).toNat * 9)).off + 3, none⟩ = some (.int .u8 ((rd_T38 l0 x17_3).f3)) ∧ w'.cell? ⟨(ad848.add ((x17_3).toNat * 9)).block, (ad848.add ((x17_3).toNat * 9)).off + 4, none⟩ = some (.int .i64 ((rd_T38 l0 x17_3).f4.f0)) ∧ w'.cell? ⟨(ad848.add ((x17_3).toNat * 9)).block, (ad848.add ((x17_3).toNat * 9)).off + 5, none⟩ = some (.int .i64 ((rd_T38 l0 x17_3).f4.f1)) ∧ w'.cell? ⟨(ad848.add ((x17_3).toNat * 9)).block, (ad848.add ((x17_3).toNat * 9)).off + 6, none⟩ = some (.int .i64 ((rd_T38 l0 x17_3).f4.f2)) ∧ w'.cell? ⟨(ad848.add ((x17_3).toNat * 9)).block, (ad848.add ((x17_3).toNat * 9)).off + 7, none⟩ = some (.int .i64 ((rd_T38 l0 x17_3).f4.f3)) ∧ w'.cell? ⟨(ad848.add ((x17_3).toNat * 9)).block, (ad848.add ((x17_3).toNat * 9)).off + 8, none⟩ = some (.slice A848_8 ((rd_T38 l0 x17_3).f5).length c848_8) ∧ w'.cell? (ad849.add ((x17_3).toNat * 9)) = some (.string ((rd_T38 t836 x17_3).f0)) ∧ w'.cell? ⟨(ad849.add ((x17_3).toNat * 9)).block, (ad849.add ((x17_3).toNat * 9)).off + 1, none⟩ = some (.string ((rd_T38 t836 x17_3).f1)) ∧ w'.cell? ⟨(ad849.add ((x17_3).toNat * 9)).block, (ad849.add ((x17_3).toNat * 9)).off + 2, none⟩ = some (.string ((rd_T38 t836 x17_3).f2)) ∧ w'.cell? ⟨(ad849.add ((x17_3).toNat * 9)).block, (ad849.add ((x17_3).toNat * 9)).off + 3, none⟩ = some (.int .u8 ((rd_T38 t836 x17_3).f3)) ∧ w'.cell? ⟨(ad849.add ((x17_3).toNat * 9)).block, (ad849.add ((x17_3).toNat * 9)).off + 4, none⟩ = some (.int .i64 ((rd_T38 t836 x17_3).f4.f0)) ∧ w'.cell? ⟨(ad849.add ((x17_3).toNat * 9)).block, (ad849.add ((x17_3).toNat * 9)).off + 5, none⟩ = some (.int .i64 ((rd_T38 t836 x17_3).f4.f1)) ∧ w'.cell? ⟨(ad849.add ((x17_3).toNat * 9)).block, (ad849.add ((x17_3).toNat * 9)).off + 6, none⟩ = some (.int .i64 ((rd_T38 t836 x17_3).f4.f2)) ∧ w'.cell? ⟨(ad849.add ((x17_3).toNat * 9)).block, (ad849.add ((x17_3).toNat * 9)).off + 7, none⟩ = some (.int .i64 ((rd_T38 t836 x17_3).f4.f3)) ∧ w'.cell? ⟨(ad849.add ((x17_3).toNat * 9)).block, (ad849.add ((x17_3).toNat * 9)).off + 8, none⟩ = some (.slice A849_8 ((rd_T38 t836 x17_3).f5).length c849_8)) (ds := []) q13_0 (by kernel_rfl) rfl rfl ⟨hx848_0, hx848_1, hx848_2, hx848_3, hx848_4, hx848_5, hx848_6, hx848_7, hx848_8, hx849_0, hx849_1, hx849_2, hx849_3, hx849_4, hx849_5, hx849_6, hx849_7, hx849_8⟩ (fun hHeld => ?_); refine with_tabW bindlelaw20_SubParts.tab13 bindlelaw20_SubParts.bits13 (fun HT_ HW_ => ?_)
        generalize wr.drew = w54 at HO_0 HO_11 HO_13 HO_15 HB HL848_8 HL849_8 HR848_8 HR849_8 hx848_0 hx848_1 hx848_2 hx848_3 hx848_4 hx848_5 hx848_6 hx848_7 hx848_8 hx849_0 hx849_1 hx849_2 hx849_3 hx849_4 hx849_5 hx849_6 hx849_7 hx849_8 hHeld ⊢
        refine pur_ (i := 0) (N := some 92) q13_1 (any_of HT_.out (by kernel_rfl)) ?_
        refine pur_ (i := 1) (N := some 93) q13_2 (any_of HT_.out (by kernel_rfl)) ?_
        refine pur_ (i := 2) (N := some 94) q13_3 (any_of HT_.out (by kernel_rfl)) ?_
        refine pur_ (i := 4) (N := some 96) q13_4 (any_of HT_.out (by kernel_rfl)) ?_
        refine pur_ (i := 5) (N := some 97) q13_5 (any_of HT_.out (by kernel_rfl)) ?_
        refine pur_ (i := 6) (N := some 98) q13_6 (any_of HT_.out (by kernel_rfl)) ?_
        refine take_ (i := 3) (N := some 95) (v := ?_) (a' := ?_) q13_7 rfl rfl (take_ofW HT_.out HW_.out (by kernel_rfl)) (fun _ _ _ h => h) (Or.inl ⟨by rfl, ?_⟩) hHeld ?_ ?_
        rotate_left
        ·rintro w' ⟨s0, s1, s2, s3, s4, s5, s6, s7, s8, s9, s10, s11, s12, s13, s14, s15, s16, s17⟩
         go_simp
         with_reducible rfl
        rotate_left
        ·simp only [Act.put, List.setIfInBounds_toArray, List.set_cons_zero, List.set_cons_succ, i64_w, i32_w]
         rfl
        refine take_ (i := 7) (N := some 99) (v := ?_) (a' := ?_) q13_8 rfl rfl (take_ofW HT_.out HW_.out (by kernel_rfl)) (fun _ _ _ h => h) (Or.inl ⟨by rfl, ?_⟩) hHeld ?_ ?_
        rotate_left
        ·rintro w' ⟨s0, s1, s2, s3, s4, s5, s6, s7, s8, s9, s10, s11, s12, s13, s14, s15, s16, s17⟩
         go_simp
         with_reducible rfl
        rotate_left
        ·simp only [Act.put, List.setIfInBounds_toArray, List.set_cons_zero, List.set_cons_succ, i64_w, i32_w]
         rfl
        refine one_ (i := 8) (N := some 100) q13_9 rfl rfl (one_of HT_.out (by kernel_rfl)) (by decide) (fun K hK => ?_)
        refine goes_ Tryd.func20 (by kernel_rfl) rfl #[.agg #[.string ((rd_T38 l0 x17_3).f0), .string ((rd_T38 l0 x17_3).f1), .string ((rd_T38 l0 x17_3).f2), .int .u8 ((rd_T38 l0 x17_3).f3), .int .i64 ((rd_T38 l0 x17_3).f4.f0), .int .i64 ((rd_T38 l0 x17_3).f4.f1), .int .i64 ((rd_T38 l0 x17_3).f4.f2), .int .i64 ((rd_T38 l0 x17_3).f4.f3), .slice A848_8 ((rd_T38 l0 x17_3).f5).length c848_8], .agg #[.string ((rd_T38 t836 x17_3).f0), .string ((rd_T38 t836 x17_3).f1), .string ((rd_T38 t836 x17_3).f2), .int .u8 ((rd_T38 t836 x17_3).f3), .int .i64 ((rd_T38 t836 x17_3).f4.f0), .int .i64 ((rd_T38 t836 x17_3).f4.f1), .int .i64 ((rd_T38 t836 x17_3).f4.f2), .int .i64 ((rd_T38 t836 x17_3).f4.f3), .slice A849_8 ((rd_T38 t836 x17_3).f5).length c849_8]] (by rfl) rfl rfl wm_ ?_
        with_reducible refine (bindleref08_Equal.calls ((rd_T38 l0 x17_3).f0) ((rd_T38 l0 x17_3).f1) ((rd_T38 l0 x17_3).f2) ((rd_T38 l0 x17_3).f3) ((rd_T38 l0 x17_3).f4.f0) ((rd_T38 l0 x17_3).f4.f1) ((rd_T38 l0 x17_3).f4.f2) ((rd_T38 l0 x17_3).f4.f3) _ _ ((rd_T38 l0 x17_3).f5) ((rd_T38 t836 x17_3).f0) ((rd_T38 t836 x17_3).f1) ((rd_T38 t836 x17_3).f2) ((rd_T38 t836 x17_3).f3) ((rd_T38 t836 x17_3).f4.f0) ((rd_T38 t836 x17_3).f4.f1) ((rd_T38 t836 x17_3).f4.f2) ((rd_T38 t836 x17_3).f4.f3) _ _ ((rd_T38 t836 x17_3).f5) false _ ?side1 ?side2 ?side3 ?side4 A49.out).mono ?_
        (case side1 => repeat (first | exact (by repeat (first | (with_reducible exact HR848_8.out) | (with_reducible refine Ca_ ?_ _) | (with_reducible refine CN_ ?_ _) | (with_reducible refine C1_ ?_) | exact HR848_8.out)) | (with_reducible refine Ca_ ?_ _) | (with_reducible refine CN_ ?_ _) | (with_reducible refine C1_ ?_)))
        (case side2 => exact HC848_8.out)
        (case side3 => repeat (first | exact (by repeat (first | (with_reducible exact HR849_8.out) | (with_reducible refine Ca_ ?_ _) | (with_reducible refine CN_ ?_ _) | (with_reducible refine C1_ ?_) | exact HR849_8.out)) | (with_reducible refine Ca_ ?_ _) | (with_reducible refine CN_ ?_ _) | (with_reducible refine C1_ ?_)))
        (case side4 => exact HC849_8.out)
        rintro e w56 ⟨rfl, hb⟩
        have HS0_ := (hb.cell (World.block_lt_of_cell? _ _ (hHeld.1))).trans (hHeld.1)
        have HS1_ := (hb.cell (World.block_lt_of_cell? _ _ (hHeld.2.1))).trans (hHeld.2.1)
        have HS2_ := (hb.cell (World.block_lt_of_cell? _ _ (hHeld.2.2.1))).trans (hHeld.2.2.1)
        have HS3_ := (hb.cell (World.block_lt_of_cell? _ _ (hHeld.2.2.2.1))).trans (hHeld.2.2.2.1)
        have HS4_ := (hb.cell (World.block_lt_of_cell? _ _ (hHeld.2.2.2.2.1))).trans (hHeld.2.2.2.2.1)
        have HS5_ := (hb.cell (World.block_lt_of_cell? _ _ (hHeld.2.2.2.2.2.1))).trans (hHeld.2.2.2.2.2.1)
        have HS6_ := (hb.cell (World.block_lt_of_cell? _ _ (hHeld.2.2.2.2.2.2.1))).trans (hHeld.2.2.2.2.2.2.1)
        have HS7_ := (hb.cell (World.block_lt_of_cell? _ _ (hHeld.2.2.2.2.2.2.2.1))).trans (hHeld.2.2.2.2.2.2.2.1)
        have HS8_ := (hb.cell (World.block_lt_of_cell? _ _ (hHeld.2.2.2.2.2.2.2.2.1))).trans (hHeld.2.2.2.2.2.2.2.2.1)
        have HS9_ := (hb.cell (World.block_lt_of_cell? _ _ (hHeld.2.2.2.2.2.2.2.2.2.1))).trans (hHeld.2.2.2.2.2.2.2.2.2.1)
        have HS10_ := (hb.cell (World.block_lt_of_cell? _ _ (hHeld.2.2.2.2.2.2.2.2.2.2.1))).trans (hHeld.2.2.2.2.2.2.2.2.2.2.1)
        have HS11_ := (hb.cell (World.block_lt_of_cell? _ _ (hHeld.2.2.2.2.2.2.2.2.2.2.2.1))).trans (hHeld.2.2.2.2.2.2.2.2.2.2.2.1)
        have HS12_ := (hb.cell (World.block_lt_of_cell? _ _ (hHeld.2.2.2.2.2.2.2.2.2.2.2.2.1))).trans (hHeld.2.2.2.2.2.2.2.2.2.2.2.2.1)
        have HS13_ := (hb.cell (World.block_lt_of_cell? _ _ (hHeld.2.2.2.2.2.2.2.2.2.2.2.2.2.1))).trans (hHeld.2.2.2.2.2.2.2.2.2.2.2.2.2.1)
        have HS14_ := (hb.cell (World.block_lt_of_cell? _ _ (hHeld.2.2.2.2.2.2.2.2.2.2.2.2.2.2.1))).trans (hHeld.2.2.2.2.2.2.2.2.2.2.2.2.2.2.1)
        have HS15_ := (hb.cell (World.block_lt_of_cell? _ _ (hHeld.2.2.2.2.2.2.2.2.2.2.2.2.2.2.2.1))).trans (hHeld.2.2.2.2.2.2.2.2.2.2.2.2.2.2.2.1)
        have HS16_ := (hb.cell (World.block_lt_of_cell? _ _ (hHeld.2.2.2.2.2.2.2.2.2.2.2.2.2.2.2.2.1))).trans (hHeld.2.2.2.2.2.2.2.2.2.2.2.2.2.2.2.2.1)
        have HS17_ := (hb.cell (World.block_lt_of_cell? _ _ (hHeld.2.2.2.2.2.2.2.2.2.2.2.2.2.2.2.2.2))).trans (hHeld.2.2.2.2.2.2.2.2.2.2.2.2.2.2.2.2.2)
        refine ⟨_, rfl, ?_⟩
        have n0_ := A0_ (Vb_ (wV_ HO_0.out) hb)
        have n1_ := A0_ (Vb_ (wV_ HO_11.out) hb)
        have n2_ := A0_ (Vb_ (wV_ HO_13.out) hb)
        have n3_ := A0_ (Vb_ (wV_ HO_15.out) hb)
        have n4_ := A0_ (Vb_ (wV_ HL848_8.out) hb)
        have n5_ := A0_ (Vb_ (wV_ HL849_8.out) hb)
        have n6_ := A0_ (Kd.C_below (by repeat (first | (with_reducible exact HR848_8.out) | (with_reducible refine Ca_ ?_ _) | (with_reducible refine CN_ ?_ _) | (with_reducible refine C1_ ?_) | exact HR848_8.out)) hb)
        have n7_ := A0_ (Kd.C_below (by repeat (first | (with_reducible exact HR849_8.out) | (with_reducible refine Ca_ ?_ _) | (with_reducible refine CN_ ?_ _) | (with_reducible refine C1_ ?_) | exact HR849_8.out)) hb)
        have n8_ := A0_ (below_step (wb_ HB.out) hb)
        clear HO_0
        clear HO_11
        clear HO_13
        clear HO_15
        clear HL848_8
        clear HL849_8
        clear HR848_8
        clear HR849_8
        clear HB
        have HO_0 := n0_
        have HO_11 := n1_
        have HO_13 := n2_
        have HO_15 := n3_
        have HL848_8 := n4_
        have HL849_8 := n5_
        have HR848_8 := n6_
        have HR849_8 := n7_
        have HB := n8_
        clear n0_ n1_ n2_ n3_ n4_ n5_ n6_ n7_ n8_
        (try clear hb)
        (try clear hb2)
        (try clear hk)
        (try clear hi)
        refine hK.out _ _ ⟨HS0_, HS1_, HS2_, HS3_, HS4_, HS5_, HS6_, HS7_, HS8_, HS9_, HS10_, HS11_, HS12_, HS13_, HS14_, HS15_, HS16_, HS17_⟩ (fun hHeld => ?_)
        clear hK K
        refine norm_ (a' := ?_) ?_ ?_
        rotate_left
        ·show Act.put _ (some 100) _ = _
         simp only [Act.put, List.setIfInBounds_toArray, List.set_cons_zero, List.set_cons_succ, i64_w, i32_w]
         rfl
        refine pur_ (i := 9) (N := some 101) q13_10 (any_of HT_.out (by kernel_rfl)) ?_
        refine done_ (done_of HT_.out (by kernel_rfl)) ?_
        try go_wp2
        go_ret
        exact ⟨we_, wb_ HB.out⟩
       subst c50
       have H1 : (bindlelaw20_SubParts.l0 k3 l0 t836 t840 t844 (wrap64 (x17_3 + 1))) = some r := by rw [if_pos rfl] at H; exact H
       clear H
       have H := H1
       clear H1
       have H' := A0_ H
       clear H
       try go_wp2
       have n0_ := A0_ (V1_ HO_0.out)
       have n1_ := A0_ (V1_ HO_11.out)
       have n2_ := A0_ (V1_ HO_13.out)
       have n3_ := A0_ (V1_ HO_15.out)
       have n4_ := A0_ (b1_ HB.out)
       clear HO_0
       clear HO_11
       clear HO_13
       clear HO_15
       clear HB
       have HO_0 := n0_
       have HO_11 := n1_
       have HO_13 := n2_
       have HO_15 := n3_
       have HB := n4_
       clear n0_ n1_ n2_ n3_ n4_
       have p848 : 0 ≤ (x17_3 : Int) := wd_
       have q848 : x17_3 < (l0.length : Int) := wd_
       obtain ⟨ad848, A848_8, c848_8, e848, hx848_0, hx848_1, hx848_2, hx848_3, hx848_4, hx848_5, hx848_6, hx848_7, hx848_8, hl848_8, hi848_8⟩ := at_T38 (Kd.V_reads' HO_0.out).2.2 x17_3 p848 q848
       cases e848
       obtain ⟨ce848, hce848, hMe848, hcc848⟩ := Kd.V_get HO_0.out z38 x17_3 p848 (by first | exact q848 | exact wd_ | (have e_ := (Kd.V_reads' HO_0.out).1; omega))
       obtain ⟨ua848_8, uc848_8, rfl, ul848_8, ge848_8⟩ := k38_openF hMe848
       have hv848_8 := hcc848 8 _ rfl
       rw [add_field _ _ 8 (by omega)] at hv848_8
       replace hv848_8 := Option.some.inj (hv848_8.symm.trans hx848_8)
       injection hv848_8 with hva_ hvn_ hvc_
       rw [hva_] at ge848_8
       rw [hvc_] at ul848_8
       have HL848_8 := A0_ (show Kd.V (Kd.int .u8) 5 _ w.heap.size _ _ ((rd_T38 l0 x17_3).f5) from Kd.V_mk ul848_8 ge848_8)
       clear hva_ hvn_ hvc_ ge848_8 ul848_8
       clear hcc848 hce848
       have HR848_8 := A0_ hi848_8
       have HC848_8 := A0_ hl848_8
       clear hi848_8 hl848_8
       replace p848 := eq_true p848
       replace q848 := eq_true q848
       obtain ⟨Ao52, co52, eo52⟩ := Kd.V_slice HO_11.out
       (first | subst eo52 | (injection eo52 with f1_ f2_ f3_; have f4_ := f1_.symm; have f5_ := f3_.symm; clear f1_ f2_ f3_; subst f4_; subst f5_))
       have p849 : 0 ≤ (x17_3 : Int) := wd_
       have q849 : x17_3 < (t836.length : Int) := wd_
       obtain ⟨ad849, A849_8, c849_8, e849, hx849_0, hx849_1, hx849_2, hx849_3, hx849_4, hx849_5, hx849_6, hx849_7, hx849_8, hl849_8, hi849_8⟩ := at_T38 (Kd.V_reads' HO_11.out).2.2 x17_3 p849 q849
       cases e849
       obtain ⟨ce849, hce849, hMe849, hcc849⟩ := Kd.V_get HO_11.out z38 x17_3 p849 (by first | exact q849 | exact wd_ | (have e_ := (Kd.V_reads' HO_11.out).1; omega))
       obtain ⟨ua849_8, uc849_8, rfl, ul849_8, ge849_8⟩ := k38_openF hMe849
       have hv849_8 := hcc849 8 _ rfl
       rw [add_field _ _ 8 (by omega)] at hv849_8
       replace hv849_8 := Option.some.inj (hv849_8.symm.trans hx849_8)
       injection hv849_8 with hva_ hvn_ hvc_
       rw [hva_] at ge849_8
       rw [hvc_] at ul849_8
       have HL849_8 := A0_ (show Kd.V (Kd.int .u8) 5 _ w.heap.size _ _ ((rd_T38 t836 x17_3).f5) from Kd.V_mk ul849_8 ge849_8)
       clear hva_ hvn_ hvc_ ge849_8 ul849_8
       clear hcc849 hce849
       have HR849_8 := A0_ hi849_8
       have HC849_8 := A0_ hl849_8
       clear hi849_8 hl849_8
       replace p849 := eq_true p849
       replace q849 := eq_true q849
       refine start_ (n := 10) (S := fun w' => w'.cell? (ad848.add ((x17_3).toNat * 9)) = some (.string ((rd_T38 l0 x17_3).f0)) ∧ w'.cell? ⟨(ad848.add ((x17_3).toNat * 9)).block, (ad848.add ((x17_3).toNat * 9)).off + 1, none⟩ = some (.string ((rd_T38 l0 x17_3).f1)) ∧ w'.cell? ⟨(ad848.add ((x17_3).toNat * 9)).block, (ad848.add ((x17_3).toNat * 9)).off + 2, none⟩ = some (.string ((rd_T38 l0 x17_3).f2)) ∧ w'.cell? ⟨(ad848.add ((x17_3).toNat * 9)).block, (ad848.add ((x17_3).toNat * 9)).off + 3, none⟩ = some (.int .u8 ((rd_T38 l0 x17_3).f3)) ∧ w'.cell? ⟨(ad848.add ((x17_3).toNat * 9)).block, (ad848.add ((x17_3).toNat * 9)).off + 4, none⟩ = some (.int .i64 ((rd_T38 l0 x17_3).f4.f0)) ∧ w'.cell? ⟨(ad848.add ((x17_3).toNat * 9)).block, (ad848.add ((x17_3).toNat * 9)).off + 5, none⟩ = some (.int .i64 ((rd_T38 l0 x17_3).f4.f1)) ∧ w'.cell? ⟨(ad848.add ((x17_3).toNat * 9)).block, (ad848.add ((x17_3).toNat * 9)).off + 6, none⟩ = some (.int .i64 ((rd_T38 l0 x17_3).f4.f2)) ∧ w'.cell? ⟨(ad848.add ((x17_3).toNat * 9)).block, (ad848.add ((x17_3).toNat * 9)).off + 7, none⟩ = some (.int .i64 ((rd_T38 l0 x17_3).f4.f3)) ∧ w'.cell? ⟨(ad848.add ((x17_3).toNat * 9)).block, (ad848.add ((x17_3).toNat * 9)).off + 8, none⟩ = some (.slice A848_8 ((rd_T38 l0 x17_3).f5).length c848_8) ∧ w'.cell? (ad849.add ((x17_3).toNat * 9)) = some (.string ((rd_T38 t836 x17_3).f0)) ∧ w'.cell? ⟨(ad849.add ((x17_3).toNat * 9)).block, (ad849.add ((x17_3).toNat * 9)).off + 1, none⟩ = some (.string ((rd_T38 t836 x17_3).f1)) ∧ w'.cell? ⟨(ad849.add ((x17_3).toNat * 9)).block, (ad849.add ((x17_3).toNat * 9)).off + 2, none⟩ = some (.string ((rd_T38 t836 x17_3).f2)) ∧ w'.cell? ⟨(ad849.add ((x17_3).toNat * 9)).block, (ad849.add ((x17_3).toNat * 9)).off + 3, none⟩ = some (.int .u8 ((rd_T38 t836 x17_3).f3)) ∧ w'.cell? ⟨(ad849.add ((x17_3).toNat * 9)).block, (ad849.add ((x17_3).toNat * 9)).off + 4, none⟩ = some (.int .i64 ((rd_T38 t836 x17_3).f4.f0)) ∧ w'.cell? ⟨(ad849.add ((x17_3).toNat * 9)).block, (ad849.add ((x17_3).toNat * 9)).off + 5, none⟩ = some (.int .i64 ((rd_T38 t836 x17_3).f4.f1)) ∧ w'.cell? ⟨(ad849.add ((x17_3).toNat * 9)).block, (ad849.add ((x17_3).toNat * 9)).off + 6, none⟩ = some (.int .i64 ((rd_T38 t836 x17_3).f4.f2)) ∧ w'.cell? ⟨(ad849.add ((x17_3).toNat * 9)).block, (ad849.add ((x17_3).toNat * 9)).off + 7, none⟩ = some (.int .i64 ((rd_T38 t836 x17_3).f4.f3)) ∧ w'.cell? ⟨(ad849.add ((x17_3).toNat * 9)).block, (ad849.add ((x17_3).toNat * 9)).off + 8, none⟩ = some (.slice A849_8 ((rd_T38 t836 x17_3).f5).length c849_8)) (ds := []) q13_0 (by kernel_rfl) rfl rfl ⟨hx848_0, hx848_1, hx848_2, hx848_3, hx848_4, hx848_5, hx848_6, hx848_7, hx848_8, hx849_0, hx849_1, hx849_2, hx849_3, hx849_4, hx849_5, hx849_6, hx849_7, hx849_8⟩ (fun hHeld => ?_); refine with_tabW bindlelaw20_SubParts.tab13 bindlelaw20_SubParts.bits13 (fun HT_ HW_ => ?_)
       generalize wr.drew = w51 at HO_0 HO_11 HO_13 HO_15 HB HL848_8 HL849_8 HR848_8 HR849_8 hx848_0 hx848_1 hx848_2 hx848_3 hx848_4 hx848_5 hx848_6 hx848_7 hx848_8 hx849_0 hx849_1 hx849_2 hx849_3 hx849_4 hx849_5 hx849_6 hx849_7 hx849_8 hHeld ⊢
       refine pur_ (i := 0) (N := some 92) q13_1 (any_of HT_.out (by kernel_rfl)) ?_
       refine pur_ (i := 1) (N := some 93) q13_2 (any_of HT_.out (by kernel_rfl)) ?_
       refine pur_ (i := 2) (N := some 94) q13_3 (any_of HT_.out (by kernel_rfl)) ?_
       refine pur_ (i := 4) (N := some 96) q13_4 (any_of HT_.out (by kernel_rfl)) ?_
       refine pur_ (i := 5) (N := some 97) q13_5 (any_of HT_.out (by kernel_rfl)) ?_
       refine pur_ (i := 6) (N := some 98) q13_6 (any_of HT_.out (by kernel_rfl)) ?_
       refine take_ (i := 3) (N := some 95) (v := ?_) (a' := ?_) q13_7 rfl rfl (take_ofW HT_.out HW_.out (by kernel_rfl)) (fun _ _ _ h => h) (Or.inl ⟨by rfl, ?_⟩) hHeld ?_ ?_
       rotate_left
       ·rintro w' ⟨s0, s1, s2, s3, s4, s5, s6, s7, s8, s9, s10, s11, s12, s13, s14, s15, s16, s17⟩
        go_simp
        with_reducible rfl
       rotate_left
       ·simp only [Act.put, List.setIfInBounds_toArray, List.set_cons_zero, List.set_cons_succ, i64_w, i32_w]
        rfl
       refine take_ (i := 7) (N := some 99) (v := ?_) (a' := ?_) q13_8 rfl rfl (take_ofW HT_.out HW_.out (by kernel_rfl)) (fun _ _ _ h => h) (Or.inl ⟨by rfl, ?_⟩) hHeld ?_ ?_
       rotate_left
       ·rintro w' ⟨s0, s1, s2, s3, s4, s5, s6, s7, s8, s9, s10, s11, s12, s13, s14, s15, s16, s17⟩
        go_simp
        with_reducible rfl
       rotate_left
       ·simp only [Act.put, List.setIfInBounds_toArray, List.set_cons_zero, List.set_cons_succ, i64_w, i32_w]
        rfl
       refine one_ (i := 8) (N := some 100) q13_9 rfl rfl (one_of HT_.out (by kernel_rfl)) (by decide) (fun K hK => ?_)
       refine goes_ Tryd.func20 (by kernel_rfl) rfl #[.agg #[.string ((rd_T38 l0 x17_3).f0), .string ((rd_T38 l0 x17_3).f1), .string ((rd_T38 l0 x17_3).f2), .int .u8 ((rd_T38 l0 x17_3).f3), .int .i64 ((rd_T38 l0 x17_3).f4.f0), .int .i64 ((rd_T38 l0 x17_3).f4.f1), .int .i64 ((rd_T38 l0 x17_3).f4.f2), .int .i64 ((rd_T38 l0 x17_3).f4.f3), .slice A848_8 ((rd_T38 l0 x17_3).f5).length c848_8], .agg #[.string ((rd_T38 t836 x17_3).f0), .string ((rd_T38 t836 x17_3).f1), .string ((rd_T38 t836 x17_3).f2), .int .u8 ((rd_T38 t836 x17_3).f3), .int .i64 ((rd_T38 t836 x17_3).f4.f0), .int .i64 ((rd_T38 t836 x17_3).f4.f1), .int .i64 ((rd_T38 t836 x17_3).f4.f2), .int .i64 ((rd_T38 t836 x17_3).f4.f3), .slice A849_8 ((rd_T38 t836 x17_3).f5).length c849_8]] (by rfl) rfl rfl wm_ ?_
       with_reducible refine (bindleref08_Equal.calls ((rd_T38 l0 x17_3).f0) ((rd_T38 l0 x17_3).f1) ((rd_T38 l0 x17_3).f2) ((rd_T38 l0 x17_3).f3) ((rd_T38 l0 x17_3).f4.f0) ((rd_T38 l0 x17_3).f4.f1) ((rd_T38 l0 x17_3).f4.f2) ((rd_T38 l0 x17_3).f4.f3) _ _ ((rd_T38 l0 x17_3).f5) ((rd_T38 t836 x17_3).f0) ((rd_T38 t836 x17_3).f1) ((rd_T38 t836 x17_3).f2) ((rd_T38 t836 x17_3).f3) ((rd_T38 t836 x17_3).f4.f0) ((rd_T38 t836 x17_3).f4.f1) ((rd_T38 t836 x17_3).f4.f2) ((rd_T38 t836 x17_3).f4.f3) _ _ ((rd_T38 t836 x17_3).f5) true _ ?side1 ?side2 ?side3 ?side4 A49.out).mono ?_
       (case side1 => repeat (first | exact (by repeat (first | (with_reducible exact HR848_8.out) | (with_reducible refine Ca_ ?_ _) | (with_reducible refine CN_ ?_ _) | (with_reducible refine C1_ ?_) | exact HR848_8.out)) | (with_reducible refine Ca_ ?_ _) | (with_reducible refine CN_ ?_ _) | (with_reducible refine C1_ ?_)))
       (case side2 => exact HC848_8.out)
       (case side3 => repeat (first | exact (by repeat (first | (with_reducible exact HR849_8.out) | (with_reducible refine Ca_ ?_ _) | (with_reducible refine CN_ ?_ _) | (with_reducible refine C1_ ?_) | exact HR849_8.out)) | (with_reducible refine Ca_ ?_ _) | (with_reducible refine CN_ ?_ _) | (with_reducible refine C1_ ?_)))
       (case side4 => exact HC849_8.out)
       rintro e w53 ⟨rfl, hb⟩
       have HS0_ := (hb.cell (World.block_lt_of_cell? _ _ (hHeld.1))).trans (hHeld.1)
       have HS1_ := (hb.cell (World.block_lt_of_cell? _ _ (hHeld.2.1))).trans (hHeld.2.1)
       have HS2_ := (hb.cell (World.block_lt_of_cell? _ _ (hHeld.2.2.1))).trans (hHeld.2.2.1)
       have HS3_ := (hb.cell (World.block_lt_of_cell? _ _ (hHeld.2.2.2.1))).trans (hHeld.2.2.2.1)
       have HS4_ := (hb.cell (World.block_lt_of_cell? _ _ (hHeld.2.2.2.2.1))).trans (hHeld.2.2.2.2.1)
       have HS5_ := (hb.cell (World.block_lt_of_cell? _ _ (hHeld.2.2.2.2.2.1))).trans (hHeld.2.2.2.2.2.1)
       have HS6_ := (hb.cell (World.block_lt_of_cell? _ _ (hHeld.2.2.2.2.2.2.1))).trans (hHeld.2.2.2.2.2.2.1)
       have HS7_ := (hb.cell (World.block_lt_of_cell? _ _ (hHeld.2.2.2.2.2.2.2.1))).trans (hHeld.2.2.2.2.2.2.2.1)
       have HS8_ := (hb.cell (World.block_lt_of_cell? _ _ (hHeld.2.2.2.2.2.2.2.2.1))).trans (hHeld.2.2.2.2.2.2.2.2.1)
       have HS9_ := (hb.cell (World.block_lt_of_cell? _ _ (hHeld.2.2.2.2.2.2.2.2.2.1))).trans (hHeld.2.2.2.2.2.2.2.2.2.1)
       have HS10_ := (hb.cell (World.block_lt_of_cell? _ _ (hHeld.2.2.2.2.2.2.2.2.2.2.1))).trans (hHeld.2.2.2.2.2.2.2.2.2.2.1)
       have HS11_ := (hb.cell (World.block_lt_of_cell? _ _ (hHeld.2.2.2.2.2.2.2.2.2.2.2.1))).trans (hHeld.2.2.2.2.2.2.2.2.2.2.2.1)
       have HS12_ := (hb.cell (World.block_lt_of_cell? _ _ (hHeld.2.2.2.2.2.2.2.2.2.2.2.2.1))).trans (hHeld.2.2.2.2.2.2.2.2.2.2.2.2.1)
       have HS13_ := (hb.cell (World.block_lt_of_cell? _ _ (hHeld.2.2.2.2.2.2.2.2.2.2.2.2.2.1))).trans (hHeld.2.2.2.2.2.2.2.2.2.2.2.2.2.1)
       have HS14_ := (hb.cell (World.block_lt_of_cell? _ _ (hHeld.2.2.2.2.2.2.2.2.2.2.2.2.2.2.1))).trans (hHeld.2.2.2.2.2.2.2.2.2.2.2.2.2.2.1)
       have HS15_ := (hb.cell (World.block_lt_of_cell? _ _ (hHeld.2.2.2.2.2.2.2.2.2.2.2.2.2.2.2.1))).trans (hHeld.2.2.2.2.2.2.2.2.2.2.2.2.2.2.2.1)
       have HS16_ := (hb.cell (World.block_lt_of_cell? _ _ (hHeld.2.2.2.2.2.2.2.2.2.2.2.2.2.2.2.2.1))).trans (hHeld.2.2.2.2.2.2.2.2.2.2.2.2.2.2.2.2.1)
       have HS17_ := (hb.cell (World.block_lt_of_cell? _ _ (hHeld.2.2.2.2.2.2.2.2.2.2.2.2.2.2.2.2.2))).trans (hHeld.2.2.2.2.2.2.2.2.2.2.2.2.2.2.2.2.2)
       refine ⟨_, rfl, ?_⟩
       have n0_ := A0_ (Vb_ (wV_ HO_0.out) hb)
       have n1_ := A0_ (Vb_ (wV_ HO_11.out) hb)
       have n2_ := A0_ (Vb_ (wV_ HO_13.out) hb)
       have n3_ := A0_ (Vb_ (wV_ HO_15.out) hb)
       have n4_ := A0_ (Vb_ (wV_ HL848_8.out) hb)
       have n5_ := A0_ (Vb_ (wV_ HL849_8.out) hb)
       have n6_ := A0_ (Kd.C_below (by repeat (first | (with_reducible exact HR848_8.out) | (with_reducible refine Ca_ ?_ _) | (with_reducible refine CN_ ?_ _) | (with_reducible refine C1_ ?_) | exact HR848_8.out)) hb)
       have n7_ := A0_ (Kd.C_below (by repeat (first | (with_reducible exact HR849_8.out) | (with_reducible refine Ca_ ?_ _) | (with_reducible refine CN_ ?_ _) | (with_reducible refine C1_ ?_) | exact HR849_8.out)) hb)
       have n8_ := A0_ (below_step (wb_ HB.out) hb)
       clear HO_0
       clear HO_11
       clear HO_13
       clear HO_15
       clear HL848_8
       clear HL849_8
       clear HR848_8
       clear HR849_8
       clear HB
       have HO_0 := n0_
       have HO_11 := n1_
       have HO_13 := n2_
       have HO_15 := n3_
       have HL848_8 := n4_
       have HL849_8 := n5_
       have HR848_8 := n6_
       have HR849_8 := n7_
       have HB := n8_
       clear n0_ n1_ n2_ n3_ n4_ n5_ n6_ n7_ n8_
       (try clear hb)
       (try clear hb2)
       (try clear hk)
       (try clear hi)
       refine hK.out _ _ ⟨HS0_, HS1_, HS2_, HS3_, HS4_, HS5_, HS6_, HS7_, HS8_, HS9_, HS10_, HS11_, HS12_, HS13_, HS14_, HS15_, HS16_, HS17_⟩ (fun hHeld => ?_)
       clear hK K
       refine norm_ (a' := ?_) ?_ ?_
       rotate_left
       ·show Act.put _ (some 100) _ = _
        simp only [Act.put, List.setIfInBounds_toArray, List.set_cons_zero, List.set_cons_succ, i64_w, i32_w]
        rfl
       refine pur_ (i := 9) (N := some 101) q13_10 (any_of HT_.out (by kernel_rfl)) ?_
       refine done_ (done_of HT_.out (by kernel_rfl)) ?_
       try go_wp2
       go_roundg k3
       case measure => have := HJ3.out; have := HJ29.out; have := HK3.out; omega
       case rel => exact ⟨(wrap64 (x17_3 + 1)), wr_, H', ⟨by have := HJ3.out; have := HJ29.out; have := HK3.out; omega⟩, ⟨wV_ HO_0.out⟩, ⟨wV_ HO_11.out⟩, ⟨wV_ HO_13.out⟩, ⟨wV_ HO_15.out⟩, ⟨wb_ HB.out⟩⟩
end Go.Proofs.YtfmphccoeinhcaaDoor.Print

namespace Go.Proofs.YtfmphccoeinhcaaDoor
open Go.RowKit Go.Proofs.YtfmphccoeinhcaaDoor.Print Go.Proofs.YtfmphccoeinhcaaDoorW.PrintWords
set_option linter.unusedVariables false
theorem okl_z {ls : List (List Node)} (h : OkL ls) (hz : ∀ t ∈ ls, ∀ x ∈ t, NodeZ x) : ∀ t ∈ ls, TreeZ t ∧ t.length ≤ 60 := fun t ht => by
 obtain ⟨h1, h2⟩ := h t ht
 refine ⟨treeZ_of (by omega) (fun x hx => ?_), h1⟩
 have h3 := h2 x hx
 have h4 : szN x = x.f5.length + x.f0.size + x.f1.size := rfl
 exact ⟨hz t ht x hx, by omega, by omega⟩
theorem rgood_f {l : List Node} (h : TreeZ l) : bindleref08_GoodTree.f l = some (goodTree l) := by
 unfold bindleref08_GoodTree.f
 rw [if_pos ((nodesZ_iff l).2 h.2.1)]
theorem sub_f {a b : List Node} (ha : TreeZ a) (hb : TreeZ b) (w : Bool) : sub_Subtract.f a b w = some (subF a b w) := by
 unfold sub_Subtract.f
 rw [if_pos ⟨(treeZB_iff a).2 ha, (treeZB_iff b).2 hb⟩]
theorem union_f {ls : List (List Node)} (hl : ls.length ≤ 10000) (h : ∀ t ∈ ls, TreeZ t) : union_Union.f ls = some (unionF ls) := by
 unfold union_Union.f
 rw [if_pos ((treesZB_iff ls).2 ⟨hl, h⟩)]
theorem union_f2 {a b : List Node} (ha : TreeZ a) (hb : TreeZ b) : union_Union.f [a, b] = some (unionF [a, b]) := union_f (by simp) (fun t ht => by
 rcases List.mem_cons.1 ht with rfl | ht
 ·exact ha
 ·rw [List.mem_singleton] at ht; rw [ht]; exact hb)
theorem all2 {a b : List Node} {P : Node → Prop} (ha : ∀ x ∈ a, P x) (hb : ∀ x ∈ b, P x) : ∀ t ∈ [a, b], ∀ x ∈ t, P x := fun t ht => by
 rcases List.mem_cons.1 ht with rfl | ht
 ·exact ha
 ·rw [List.mem_singleton] at ht; rw [ht]; exact hb
theorem same_ev {U V : List Node} (h : sameB U V = true) (hz : TreeZ U) : Ev (fun k => bindleref08_SameTree.f k U V) true := by
 rw [← h]
 exact sameTree_eq U V (by have := hz.1; omega)
theorem parts_ans (a b : List Node) (w : Bool) : Ev (fun k => bindlelaw20_SubParts.j0 k a b w true) true :=
 Ev.step (f := fun _ => some true) (fun k => by rw [bindlelaw20_SubParts.j0, if_pos rfl, bindlelaw20_answers.val]; rfl) (Ev.now _)
theorem parts_loop {a both all : List Node} (hl : both.length = a.length) (hlen : a.length ≤ 60) (he : ∀ (i : Nat) (h : i < a.length) (h2 : i < both.length), equalB a[i] both[i] = true) (hs : sameB all a = true) (hz : TreeZ all) : ∀ (d i : Nat), i + d = a.length → Ev (fun k => bindlelaw20_SubParts.l0 k a both [] all (i : Int)) true := by
 intro d
 induction d with
 | zero =>
  intro i hi
  refine Ev.step (f := fun k => (bindleref08_SameTree.f k all a).bind fun t => (some t)) (fun k => ?_) (Ev.bind (same_ev hs hz) (Ev.now true))
  rw [bindlelaw20_SubParts.l0, if_neg (by omega), bindlelaw20_answers.val, Option.bind_some, if_pos rfl, if_pos (by simp)]
 | succ d ih =>
  intro i hi
  have hia : i < a.length := by omega
  have hib : i < both.length := by omega
  refine Ev.step (fun k => ?_) (ih (i + 1) (by omega))
  rw [bindlelaw20_SubParts.l0, if_pos (by omega), if_pos (by omega), if_pos (by omega), rdN_n a i hia, rdN_n both i hib, requal_f, he i hia hib, Option.bind_some, if_pos rfl, w_one i (by omega)]
theorem parts_main {a b : List Node} (w : Bool) (ha : TreeZ a) (hb : TreeZ b) (hl : a.length ≤ 60) (ga : goodTree a = true) (gb : goodTree b = true) : Ev (fun k => bindlelaw20_SubParts.j0 k a b w false) true := by
 have zl := sub_z ha b w
 have zg := sub_z ha (subF a b w).1 false
 have hln : (subF a b w).1.length ≤ 60 := by
  have h := only_paths ga (sub_from ga gb w).2
  have := congrArg List.length h
  rw [List.length_map, List.length_map] at this
  rw [this]
  exact Nat.le_trans (List.length_filter_le _ _) hl
 have hgn : (subF a (subF a b w).1 false).1.length ≤ 60 := by
  have h := only_paths ga (sub_paths ga (sub_from ga gb w).2.good)
  have := congrArg List.length h
  rw [List.length_map, List.length_map] at this
  rw [this]
  exact Nat.le_trans (List.length_filter_le _ _) hl
 obtain ⟨e0, hP⟩ := parts_ok ga gb w (by omega)
 have hnone := sub_self ga w
 have hall := sub_nothing ga w
 refine Ev.step (f := fun k => bindlelaw20_SubParts.j1 k a (unionF [(subF a b w).1, (subF a (subF a b w).1 false).1]).1 [] (subF a [] w).1 false) (fun k => ?_) ?_
 ·rw [bindlelaw20_SubParts.j0, if_neg (by simp), sub_f ha hb, Option.bind_some, sub_f ha zl, Option.bind_some, union_f2 zl zg, Option.bind_some, sub_f ha ha, Option.bind_some, sub_f ha nil_z, Option.bind_some, if_pos e0, if_pos (by rw [hP.len]), hnone]
  congr 1
  rw [bne_eq_false_iff_eq]
  have := hP.lens
  unfold wrap64
  omega
 ·refine Ev.step (fun k => ?_) (parts_loop hP.len hl hP.each hall (sub_z ha [] w) a.length 0 (by omega))
  rw [bindlelaw20_SubParts.j1, if_neg (by simp)]
  rfl
theorem SubParts_true (a b : List Node) (w : Bool) (ha : ∀ x ∈ a, NodeZ x) (hb : ∀ x ∈ b, NodeZ x) : Ev (fun k => bindlelaw20_SubParts.f k a b w) true := by
 have hzs := all2 ha hb
 obtain ⟨r, h1, h2⟩ := light20_eq [a, b] (by simp) hzs
 unfold bindlelaw20_SubParts.f
 refine Ev.bind h1 ?_
 cases r with
 | false => exact Ev.congr (fun k => by rw [if_neg (by decide)]) (parts_ans a b w)
 | true =>
  have hz := okl_z (h2 rfl) hzs
  have za := hz a (by simp)
  have zb := hz b (by simp)
  refine Ev.congr (fun k => by rw [if_pos rfl, rgood_f za.1, Option.bind_some]) ?_
  cases ga : goodTree a with
  | false => exact Ev.congr (fun k => by rw [if_neg (by decide)]) (parts_ans a b w)
  | true =>
   refine Ev.congr (fun k => by rw [if_pos rfl, rgood_f zb.1, Option.bind_some]) ?_
   cases gb : goodTree b with
   | false => exact parts_ans a b w
   | true => exact parts_main w za.1 zb.1 za.2 ga gb
end Go.Proofs.YtfmphccoeinhcaaDoor

namespace Go.Proofs.YtfmphccoeinhcaaDoor
open Go.RowKit Go.Lib Go.Proofs.YtfmphccoeinhcaaDoorW.PrintWords
theorem laidOut : laidOutB Tryd.prog = true := by kernel_rfl
end Go.Proofs.YtfmphccoeinhcaaDoor

namespace Go.Proofs.YtfmphccoeinhcaaDoor
open Go.ChangeShapes Go.WideShapes Go.RowKit Go.Proofs.YtfmphccoeinhcaaDoorW.PrintWords
structure Opens {α : Type} (P : Program) (d : Kd α) (t : TypeId) (B : α → Prop) : Prop where
 sz : P.cellsOf t = d.sz
 get : ∀ {H : Type} {enc : TypeId × Value → H} {W : World} {fuel : Nat} {cs : List Value} {x : DataW H × List MemPlace},
  DataW.trod enc P W 0 (fun _ => true) true fuel t cs = some x → (∀ n ∈ x.1.weights P t, n ≤ reachBytes) → ∃ a, d.K W a cs ∧ B a
theorem Opens.int {P : Program} {t : TypeId} {k : IntKind} (ht : P.underlying t = some (.int k)) (hc : P.cellsOf t = 1) : Opens P (Kd.int k) t (fun n => (Lit.int k n).wf = true) :=
 ⟨hc, fun h _ => by
  obtain ⟨n, rfl, rfl, hw⟩ := DataW.trod_int ht h
  exact ⟨n, rfl, hw⟩⟩
theorem Opens.bool {P : Program} {t : TypeId} (ht : P.underlying t = some .bool) (hc : P.cellsOf t = 1) : Opens P Kd.bool t (fun _ => True) :=
 ⟨hc, fun h _ => by
  obtain ⟨n, rfl, rfl⟩ := DataW.trod_bool ht h
  exact ⟨n, rfl, trivial⟩⟩
theorem Opens.string {P : Program} {t : TypeId} (ht : P.underlying t = some .string) (hc : P.cellsOf t = 1) : Opens P Kd.string t (fun s => s.size ≤ 140737488351232) :=
 ⟨hc, fun h hw => by
  obtain ⟨s, rfl, rfl, _⟩ := DataW.trod_string ht h
  refine ⟨s, rfl, ?_⟩
  have := hw s.data.toList.length (by simp [DataW.weights])
  have e : s.data.toList.length = s.size := by simp
  rw [e] at this
  exact this⟩
theorem each_list {α : Type} {Q : Nat → α → Prop} : ∀ n : Nat, (∀ i, i < n → ∃ x, Q i x) → ∃ xs : List α, xs.length = n ∧ ∀ i x, xs[i]? = some x → Q i x := by
 intro n
 induction n with
 | zero => exact fun _ => ⟨[], rfl, fun i x h => by simp at h⟩
 | succ n ih =>
  intro h
  obtain ⟨xs, hl, hx⟩ := ih (fun i hi => h i (by omega))
  obtain ⟨y, hy⟩ := h n (by omega)
  refine ⟨xs ++ [y], by simp [hl], fun i x hi => ?_⟩
  rcases Nat.lt_or_ge i n with h1 | h1
  ·rw [List.getElem?_append_left (by omega)] at hi
   exact hx i x hi
  ·rw [List.getElem?_append_right (by omega)] at hi
   have h0 : i - xs.length = 0 := by
    have := (List.getElem?_eq_some_iff.1 hi).1
    simp at this
    omega
   rw [h0] at hi
   simp at hi
   subst hi
   obtain rfl : i = n := by omega
   exact hy
theorem weights_all {H : Type} {P : Program} {e : TypeId} : ∀ {l : List (DataW H)} {y : DataW H}, y ∈ l → ∀ n ∈ y.weights P e, n ∈ DataW.weightsAll P e l
 | z :: r, y, hy, n, hn => by
  simp only [DataW.weightsAll, List.mem_append]
  rcases List.mem_cons.1 hy with rfl | hy
  ·exact .inl hn
  ·exact .inr (weights_all hy n hn)
theorem add_add (a : Addr) (x y : Nat) : (a.add x).add y = a.add (x + y) := by
 unfold Addr.add
 split
 ·rename_i h
  subst h
  simp
 ·rename_i h
  split
  ·rename_i h2
   subst h2
   simp [h]
  ·rw [if_neg (by omega)]
   simp [Nat.add_assoc]
theorem Opens.slice {α : Type} {P : Program} {d : Kd α} {B : α → Prop} {t e : TypeId} (ht : P.underlying t = some (.slice e)) (hc : P.cellsOf t = 1) (h : Opens P d e B) :
  Opens P (Kd.slice e d) t (fun xs => xs.length * P.bytesOf e ≤ 140737488351232 ∧ ∀ x ∈ xs, B x) :=
 ⟨hc, fun {H enc W fuel cs x} hf hw => by
  rcases DataW.trod_slice ht hf with ⟨rfl, rfl⟩ | ⟨a, len, cap, elems, rest, n, _, rfl, rfl, hb, hl, hm, hlen, hel, hsp, hns⟩
  ·exact ⟨[], ⟨none, 0, rfl, Nat.le_refl _, Kd.C_nil d W⟩, by simp, fun x hx => by cases hx⟩
  ·simp only [DataW.weights, ht] at hw
   have each : ∀ i, i < len → ∃ z : α, B z ∧ ∃ c, c.length = d.sz ∧ d.K W z c ∧ ∀ j u, c[j]? = some u → W.cell? (a.add (i * d.sz + j)) = some u := by
    intro i hi
    have h1 := hel i hi
    have hi' : i < elems.length := by omega
    rw [List.getElem?_eq_getElem hi', Option.bind_eq_some_iff] at h1
    obtain ⟨c, hcs, hy⟩ := h1
    obtain ⟨-, h2, h3⟩ := World.cells?_some hcs
    obtain ⟨z, hz, hB⟩ := h.get hy (fun n hn => hw n (by
     simp only [List.mem_cons, List.mem_append]
     exact .inr (.inl (weights_all (List.mem_map.2 ⟨_, List.getElem_mem hi', rfl⟩) n hn))))
    refine ⟨z, hB, c, by rw [h2, h.sz], hz, fun j u hj => ?_⟩
    have hj' : j < P.cellsOf e := by
     have := (List.getElem?_eq_some_iff.1 hj).1
     omega
    have h4 := h3 j hj'
    rw [add_add, h.sz] at h4
    rw [h4, hj]
   obtain ⟨xs, hxl, hxs⟩ := each_list len each
   subst hxl
   have hz := hw _ (List.mem_cons_self ..)
   simp only [List.length_map] at hz
   have h5 : xs.length * P.bytesOf e ≤ (elems.length + rest.length) * P.bytesOf e := Nat.mul_le_mul_right _ (by omega)
   have h6 : reachBytes = 140737488351232 := rfl
   refine ⟨xs, ⟨some a, cap, rfl, hl, rfl, ?_, fun _ => ⟨a, rfl, fun j p hj => (hxs j p hj).2⟩⟩, by omega, fun x hx => ?_⟩
   ·have : maxLen = 9223372036854775807 := rfl
    omega
   ·obtain ⟨i, hi⟩ := List.getElem?_of_mem hx
    exact (hxs i x hi).1⟩
structure OpensF {α : Type} (P : Program) (d : Kd α) (fs : List Field) (o : Nat) (B : α → Prop) : Prop where
 get : ∀ {H : Type} {enc : TypeId × Value → H} {W : World} {n : Nat} {cs : List Value} {xs : List (DataW H × List MemPlace)}, xs.length = fs.length →
  (∀ (i : Nat) (f : Field), fs[i]? = some f → DataW.trod enc P W 0 (fun _ => true) true n f.type ((cs.drop f.offset).take (P.cellsOf f.type)) = xs[i]?) →
  (∀ m ∈ DataW.weightsEach P (fs.map (·.type)) (xs.map (·.1)), m ≤ reachBytes) → ∃ a, d.K W a ((cs.drop o).take d.sz) ∧ B a
theorem OpensF.one {α : Type} {P : Program} {d : Kd α} {B : α → Prop} {f : Field} {o : Nat} (ho : f.offset = o) (h : Opens P d f.type B) : OpensF P d [f] o B := by
 refine ⟨fun {H enc W n cs xs} hl hx hw => ?_⟩
 match xs, hl with
 | [x], _ =>
  have h0 := hx 0 f rfl
  rw [h.sz, ho] at h0
  simp only [List.getElem?_cons_zero] at h0
  exact h.get h0 (fun m hm => hw m (by simp only [List.map_cons, List.map_nil, DataW.weightsEach, List.mem_append]; exact .inl hm))
theorem OpensF.cons {α β : Type} {P : Program} {d : Kd α} {d' : Kd β} {B : α → Prop} {B' : β → Prop} {f : Field} {fs : List Field} {o : Nat} (ho : f.offset = o) (h : Opens P d f.type B) (h' : OpensF P d' fs (o + d.sz) B') :
  OpensF P (Kd.pair d d') (f :: fs) o (fun x => B x.1 ∧ B' x.2) := by
 refine ⟨fun {H enc W n cs xs} hl hx hw => ?_⟩
 match xs, hl with
 | x :: xs, hl =>
  have h0 := hx 0 f rfl
  rw [h.sz, ho] at h0
  simp only [List.getElem?_cons_zero] at h0
  obtain ⟨a, ha, hB⟩ := h.get h0 (fun m hm => hw m (by simp only [List.map_cons, DataW.weightsEach, List.mem_append]; exact .inl hm))
  obtain ⟨b, hb, hB'⟩ := h'.get (enc := enc) (W := W) (n := n) (cs := cs) (xs := xs) (by simpa using hl) (fun i g hg => by have := hx (i + 1) g (by simpa using hg); simpa using this)
   (fun m hm => hw m (by simp only [List.map_cons, DataW.weightsEach, List.mem_append]; exact .inr hm))
  refine ⟨(a, b), ⟨_, _, ?_, ha, hb⟩, hB, hB'⟩
  show (cs.drop o).take (d.sz + d'.sz) = _
  rw [List.take_add, List.drop_drop]
theorem Opens.struct {α β : Type} {P : Program} {d : Kd α} {B : α → Prop} {t : TypeId} {fs : Array Field} (ht : P.underlying t = some (.struct fs)) (hc : P.cellsOf t = d.sz) (h : OpensF P d fs.toList 0 B) (f : β → α) (g : α → β) (hg : ∀ a, f (g a) = a) :
  Opens P (Kd.iso d f) t (fun x => B (f x)) :=
 ⟨hc, fun {H enc W fuel cs x} hf hw => by
  obtain ⟨xs, n, _, rfl, hl, hlen, hx⟩ := DataW.trod_struct ht hf
  simp only [DataW.weights, ht] at hw
  obtain ⟨a, ha, hB⟩ := h.get (enc := enc) (W := W) (n := n) (cs := cs) (xs := xs) (by simpa using hlen) (fun i g hg => hx i g (by simpa using hg)) hw
  refine ⟨g a, ?_, by rw [hg]; exact hB⟩
  show d.K W (f (g a)) cs
  rw [hg]
  rw [List.drop_zero, List.take_of_length_le (by omega)] at ha
  exact ha⟩
theorem Opens.imp {α : Type} {P : Program} {d : Kd α} {t : TypeId} {B B' : α → Prop} (h : Opens P d t B) (hB : ∀ a, B a → B' a) : Opens P d t B' :=
 ⟨h.sz, fun hf hw => by obtain ⟨a, ha, hb⟩ := h.get hf hw; exact ⟨a, ha, hB a hb⟩⟩
theorem Opens.param {α : Type} {P : Program} {d : Kd α} {t : TypeId} {B : α → Prop} (h : Opens P d t B) {H : Type} {enc : TypeId × Value → H} {W : World} {v : Value} {x : DataW H} {p : List MemPlace} {ts : List TypeId} {ds : List (DataW H)} {j : Nat}
  (hsz : (DataW.weightsEach P ts ds).all (· ≤ reachBytes) = true) (hj : ts[j]? = some t) (hd : ds[j]? = some x) (ht : DataW.Trod enc P W 0 (fun _ => true) true t v x p) : ∃ a, d.K W a v.cells.toList ∧ B a := by
 obtain ⟨fuel, hf⟩ := ht
 exact h.get hf (fun n hn => by simpa using List.all_eq_true.1 hsz _ (DataW.weights_mem_each hj hd n hn))
theorem Opens.row {α : Type} {P : Program} {d : Kd α} {t e : TypeId} {B : List α → Prop} (h : Opens P (Kd.slice e d) t B) {H : Type} {enc : TypeId × Value → H} {W : World} {A : Option Addr} {n c : Nat} {x : DataW H} {p : List MemPlace} {ts : List TypeId} {ds : List (DataW H)} {j : Nat}
  (hsz : (DataW.weightsEach P ts ds).all (· ≤ reachBytes) = true) (hj : ts[j]? = some t) (hd : ds[j]? = some x) (ht : DataW.Trod enc P W 0 (fun _ => true) true t (.slice A n c) x p) :
  ∃ xs : List α, xs.length = n ∧ d.C W A n xs ∧ n ≤ c ∧ B xs := by
 obtain ⟨xs, ⟨A', c', he, hl, hC⟩, hB⟩ := h.param hsz hj hd ht
 simp [Value.cells] at he
 obtain ⟨rfl, rfl, rfl⟩ := he
 exact ⟨xs, rfl, hC, hl, hB⟩
end Go.Proofs.YtfmphccoeinhcaaDoor

namespace Go.Proofs.YtfmphccoeinhcaaDoor
open Go.RowKit Go.Proofs.YtfmphccoeinhcaaDoor.Print Go.Proofs.YtfmphccoeinhcaaDoorW.PrintWords
theorem o_str : Opens Tryd.prog Kd.string 9 (fun s => s.size ≤ 140737488351232) := Opens.string Tryd.underlying9 (by kernel_rfl)
theorem o_u8 : Opens Tryd.prog (Kd.int .u8) 5 (fun n => (Lit.int .u8 n).wf = true) := Opens.int Tryd.underlying5 (by kernel_rfl)
theorem o_int : Opens Tryd.prog (Kd.int .i64) 3 (fun n => (Lit.int .i64 n).wf = true) := Opens.int Tryd.underlying3 (by kernel_rfl)
theorem o_bytes : Opens Tryd.prog (Kd.slice 5 (Kd.int .u8)) 25 (fun xs => xs.length ≤ 140737488351232) :=
 (Opens.slice Tryd.underlying25 (by kernel_rfl) o_u8).imp (fun xs h => by
  have hb : Tryd.prog.bytesOf 5 = 1 := by kernel_rfl
  have h1 := h.1
  rw [hb] at h1
  omega)
theorem o_meta : Opens Tryd.prog k24 24 (fun _ => True) := by
 have h := Opens.struct Tryd.underlying24 (by kernel_rfl) (OpensF.cons rfl o_int (OpensF.cons rfl o_int (OpensF.cons rfl o_int (OpensF.one rfl o_int)))) (fun x : S24 => (x.f0, x.f1, x.f2, x.f3)) (fun p => ⟨p.1, p.2.1, p.2.2.1, p.2.2.2⟩) (fun _ => rfl)
 exact Opens.imp h (fun _ _ => trivial)
theorem o_node : Opens Tryd.prog k38 38 NodeZ := by
 have h := Opens.struct Tryd.underlying38 (by kernel_rfl) (OpensF.cons rfl o_str (OpensF.cons rfl o_str (OpensF.cons rfl o_str (OpensF.cons rfl o_u8 (OpensF.cons rfl o_meta (OpensF.one rfl o_bytes)))))) (fun x : S38 => (x.f0, x.f1, x.f2, x.f3, x.f4, x.f5)) (fun p => ⟨p.1, p.2.1, p.2.2.1, p.2.2.2.1, p.2.2.2.2.1, p.2.2.2.2.2⟩) (fun _ => rfl)
 exact Opens.imp h (fun _ hx => ⟨hx.1, hx.2.1, hx.2.2.1, hx.2.2.2.2.2⟩)
theorem o_nodes : Opens Tryd.prog (Kd.slice 38 k38) 31 (fun xs => (∀ x ∈ xs, NodeZ x) ∧ xs.length ≤ 140737488351232) :=
 (Opens.slice Tryd.underlying31 (by kernel_rfl) o_node).imp (fun xs h => ⟨h.2, by
  have hb : Tryd.prog.bytesOf 38 = 112 := by kernel_rfl
  have h1 := h.1
  rw [hb] at h1
  omega⟩)
end Go.Proofs.YtfmphccoeinhcaaDoor
