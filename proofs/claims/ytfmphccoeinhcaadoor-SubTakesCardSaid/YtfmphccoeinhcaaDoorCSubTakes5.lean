/-
  Part of the proof that SubTakes answers true: texts put together (wip/bundle.py).
-/
import Derived.Test.YtfmphccoeinhcaaDoorCSubTakes4
import Derived.Deep.RegionHeld3
import Derived.Deep.QuietTactic
import Derived.BigQuiet
import Derived.IntWalk
import Derived.Laws.MakeOwn
namespace Go.Proofs.YtfmphccoeinhcaaDoor.Print
open Go.RowKit Go.Proofs.YtfmphccoeinhcaaDoorW.PrintWords Go.Proofs.YtfmphccoeinhcaaDoorW.PrintLast Go.Proofs.YtfmphccoeinhcaaDoorW.PrintMore
attribute [local go_sem] max2_int min2_int max_two min_two max_three min_three max_four min_four   -- for this text's walks alone
set_option linter.unusedVariables false
set_option linter.unusedSimpArgs false
def bindlelaw20_answers.f  : Option (Bool) := (bindlelaw20_pair.f).bind fun t707 => ((sub_Keep.f t707 (([(⟨#[98]⟩ : ByteArray), (⟨#[120]⟩ : ByteArray)] : List ByteArray))).bind fun bt713 => ((bindlelaw20_pair.f).bind fun t717 => ((sub_Subtract.f t717 bt713.1 false).bind fun bt720 => ((sub_Keep.f (([(⟨(⟨#[]⟩ : ByteArray), (⟨#[]⟩ : ByteArray), (⟨#[]⟩ : ByteArray), 0, (⟨0, 0, 0, 0⟩ : S24), ([] : List Int)⟩ : S38)] : List (S38))) ([] : List ByteArray)).bind fun bt727 => (if bt713.2 = 0 then (if (bt713.1.length : Int) = 1 then (if 0 < (bt713.1.length : Int) then (if ((rd_T38 bt713.1 0).f2).toList = ([98] : List UInt8) then (if bt720.2 = 0 then (if (bt720.1.length : Int) = 1 then (if 0 < (bt720.1.length : Int) then (if ((rd_T38 bt720.1 0).f0).toList = ([97] : List UInt8) then (some (bt727.2 == 1)) else (some false)) else (none)) else (some false)) else (some false)) else (some false)) else (none)) else (some false)) else (some false))))))
theorem bindlelaw20_answers.val : bindlelaw20_answers.f = some true := by kernel_rfl
set_option maxHeartbeats 8000000 in
set_option maxRecDepth 100000 in
theorem bindlelaw20_answers.calls  (r : Bool) (w : World) (hT : Aside0 (Tabs w)) (h : bindlelaw20_answers.f  = some r) :
  Calls Tryd.prog 35 #[] w fun e w' => e = .returned (.bool r) ∧ Below w.heap.size w w' := by
 have hr_ : r = true := Option.some.inj (h.symm.trans bindlelaw20_answers.val)
 have hu38 := Tryd.underlying38
 have HB := A0_ (Below.refl w.heap.size w)
 have H : ((bindlelaw20_pair.f).bind fun t707 => ((sub_Keep.f t707 (([(⟨#[98]⟩ : ByteArray), (⟨#[120]⟩ : ByteArray)] : List ByteArray))).bind fun bt713 => ((bindlelaw20_pair.f).bind fun t717 => ((sub_Subtract.f t717 bt713.1 false).bind fun bt720 => ((sub_Keep.f (([(⟨(⟨#[]⟩ : ByteArray), (⟨#[]⟩ : ByteArray), (⟨#[]⟩ : ByteArray), 0, (⟨0, 0, 0, 0⟩ : S24), ([] : List Int)⟩ : S38)] : List (S38))) ([] : List ByteArray)).bind fun bt727 => (if bt713.2 = 0 then (if (bt713.1.length : Int) = 1 then (if 0 < (bt713.1.length : Int) then (if ((rd_T38 bt713.1 0).f2).toList = ([98] : List UInt8) then (if bt720.2 = 0 then (if (bt720.1.length : Int) = 1 then (if 0 < (bt720.1.length : Int) then (if ((rd_T38 bt720.1 0).f0).toList = ([97] : List UInt8) then (some (bt727.2 == 1)) else (some false)) else (none)) else (some false)) else (some false)) else (some false)) else (none)) else (some false)) else (some false))))))) = some r := h
 clear h
 replace H := Option.bind_eq_some_iff.mp H
 obtain ⟨t707, A10, H⟩ := H
 replace H : ((sub_Keep.f t707 (([(⟨#[98]⟩ : ByteArray), (⟨#[120]⟩ : ByteArray)] : List ByteArray))).bind fun bt713 => ((bindlelaw20_pair.f).bind fun t717 => ((sub_Subtract.f t717 bt713.1 false).bind fun bt720 => ((sub_Keep.f (([(⟨(⟨#[]⟩ : ByteArray), (⟨#[]⟩ : ByteArray), (⟨#[]⟩ : ByteArray), 0, (⟨0, 0, 0, 0⟩ : S24), ([] : List Int)⟩ : S38)] : List (S38))) ([] : List ByteArray)).bind fun bt727 => (if bt713.2 = 0 then (if (bt713.1.length : Int) = 1 then (if 0 < (bt713.1.length : Int) then (if ((rd_T38 bt713.1 0).f2).toList = ([98] : List UInt8) then (if bt720.2 = 0 then (if (bt720.1.length : Int) = 1 then (if 0 < (bt720.1.length : Int) then (if ((rd_T38 bt720.1 0).f0).toList = ([97] : List UInt8) then (some (bt727.2 == 1)) else (some false)) else (none)) else (some false)) else (some false)) else (some false)) else (none)) else (some false)) else (some false)))))) = some r := H
 have A1 := A0_ A10
 clear A10
 obtain ⟨y710, hy710⟩ : ∃ y_ : List ByteArray, y_ = (([(⟨#[98]⟩ : ByteArray), (⟨#[120]⟩ : ByteArray)] : List ByteArray)) := ⟨_, rfl⟩
 replace H : ((sub_Keep.f t707 y710).bind fun bt713 => ((bindlelaw20_pair.f).bind fun t717 => ((sub_Subtract.f t717 bt713.1 false).bind fun bt720 => ((sub_Keep.f (([(⟨(⟨#[]⟩ : ByteArray), (⟨#[]⟩ : ByteArray), (⟨#[]⟩ : ByteArray), 0, (⟨0, 0, 0, 0⟩ : S24), ([] : List Int)⟩ : S38)] : List (S38))) ([] : List ByteArray)).bind fun bt727 => (if bt713.2 = 0 then (if (bt713.1.length : Int) = 1 then (if 0 < (bt713.1.length : Int) then (if ((rd_T38 bt713.1 0).f2).toList = ([98] : List UInt8) then (if bt720.2 = 0 then (if (bt720.1.length : Int) = 1 then (if 0 < (bt720.1.length : Int) then (if ((rd_T38 bt720.1 0).f0).toList = ([97] : List UInt8) then (some (bt727.2 == 1)) else (some false)) else (none)) else (some false)) else (some false)) else (some false)) else (none)) else (some false)) else (some false)))))) = some r := by first | (rw [hy710]; with_reducible exact H) | (have H2_ := (Option.bind_some _ _).symm.trans H; rw [hy710]; with_reducible exact H2_) | (have H2_ := (Option.bind_some _ _).symm.trans H; with_reducible exact H2_) | with_reducible exact H | (rw [hy710]; exact H) | exact H
 have Ny710 := A0_ hy710
 clear hy710
 replace H := Option.bind_eq_some_iff.mp H
 obtain ⟨⟨t713, t716⟩, A20, H⟩ := H
 replace H : ((bindlelaw20_pair.f).bind fun t717 => ((sub_Subtract.f t717 t713 false).bind fun bt720 => ((sub_Keep.f (([(⟨(⟨#[]⟩ : ByteArray), (⟨#[]⟩ : ByteArray), (⟨#[]⟩ : ByteArray), 0, (⟨0, 0, 0, 0⟩ : S24), ([] : List Int)⟩ : S38)] : List (S38))) ([] : List ByteArray)).bind fun bt727 => (if t716 = 0 then (if (t713.length : Int) = 1 then (if 0 < (t713.length : Int) then (if ((rd_T38 t713 0).f2).toList = ([98] : List UInt8) then (if bt720.2 = 0 then (if (bt720.1.length : Int) = 1 then (if 0 < (bt720.1.length : Int) then (if ((rd_T38 bt720.1 0).f0).toList = ([97] : List UInt8) then (some (bt727.2 == 1)) else (some false)) else (none)) else (some false)) else (some false)) else (some false)) else (none)) else (some false)) else (some false))))) = some r := H
 have A2 := A0_ A20
 clear A20
 replace H := Option.bind_eq_some_iff.mp H
 obtain ⟨t717, A30, H⟩ := H
 replace H : ((sub_Subtract.f t717 t713 false).bind fun bt720 => ((sub_Keep.f (([(⟨(⟨#[]⟩ : ByteArray), (⟨#[]⟩ : ByteArray), (⟨#[]⟩ : ByteArray), 0, (⟨0, 0, 0, 0⟩ : S24), ([] : List Int)⟩ : S38)] : List (S38))) ([] : List ByteArray)).bind fun bt727 => (if t716 = 0 then (if (t713.length : Int) = 1 then (if 0 < (t713.length : Int) then (if ((rd_T38 t713 0).f2).toList = ([98] : List UInt8) then (if bt720.2 = 0 then (if (bt720.1.length : Int) = 1 then (if 0 < (bt720.1.length : Int) then (if ((rd_T38 bt720.1 0).f0).toList = ([97] : List UInt8) then (some (bt727.2 == 1)) else (some false)) else (none)) else (some false)) else (some false)) else (some false)) else (none)) else (some false)) else (some false)))) = some r := H
 have A3 := A0_ A30
 clear A30
 replace H := Option.bind_eq_some_iff.mp H
 obtain ⟨⟨t720, t723⟩, A40, H⟩ := H
 replace H : ((sub_Keep.f (([(⟨(⟨#[]⟩ : ByteArray), (⟨#[]⟩ : ByteArray), (⟨#[]⟩ : ByteArray), 0, (⟨0, 0, 0, 0⟩ : S24), ([] : List Int)⟩ : S38)] : List (S38))) ([] : List ByteArray)).bind fun bt727 => (if t716 = 0 then (if (t713.length : Int) = 1 then (if 0 < (t713.length : Int) then (if ((rd_T38 t713 0).f2).toList = ([98] : List UInt8) then (if t723 = 0 then (if (t720.length : Int) = 1 then (if 0 < (t720.length : Int) then (if ((rd_T38 t720 0).f0).toList = ([97] : List UInt8) then (some (bt727.2 == 1)) else (some false)) else (none)) else (some false)) else (some false)) else (some false)) else (none)) else (some false)) else (some false))) = some r := H
 have A4 := A0_ A40
 clear A40
 obtain ⟨y724, hy724⟩ : ∃ y_ : List (S38), y_ = (([(⟨(⟨#[]⟩ : ByteArray), (⟨#[]⟩ : ByteArray), (⟨#[]⟩ : ByteArray), 0, (⟨0, 0, 0, 0⟩ : S24), ([] : List Int)⟩ : S38)] : List (S38))) := ⟨_, rfl⟩
 replace H : ((sub_Keep.f y724 ([] : List ByteArray)).bind fun bt727 => (if t716 = 0 then (if (t713.length : Int) = 1 then (if 0 < (t713.length : Int) then (if ((rd_T38 t713 0).f2).toList = ([98] : List UInt8) then (if t723 = 0 then (if (t720.length : Int) = 1 then (if 0 < (t720.length : Int) then (if ((rd_T38 t720 0).f0).toList = ([97] : List UInt8) then (some (bt727.2 == 1)) else (some false)) else (none)) else (some false)) else (some false)) else (some false)) else (none)) else (some false)) else (some false))) = some r := by first | (rw [hy724]; with_reducible exact H) | (have H2_ := (Option.bind_some _ _).symm.trans H; rw [hy724]; with_reducible exact H2_) | (have H2_ := (Option.bind_some _ _).symm.trans H; with_reducible exact H2_) | with_reducible exact H | (rw [hy724]; exact H) | exact H
 have Ny724 := A0_ hy724
 clear hy724
 replace H := Option.bind_eq_some_iff.mp H
 obtain ⟨⟨t727, t730⟩, A50, H⟩ := H
 replace H : (if t716 = 0 then (if (t713.length : Int) = 1 then (if 0 < (t713.length : Int) then (if ((rd_T38 t713 0).f2).toList = ([98] : List UInt8) then (if t723 = 0 then (if (t720.length : Int) = 1 then (if 0 < (t720.length : Int) then (if ((rd_T38 t720 0).f0).toList = ([97] : List UInt8) then (some (t730 == 1)) else (some false)) else (none)) else (some false)) else (some false)) else (some false)) else (none)) else (some false)) else (some false)) = some r := H
 have A5 := A0_ A50
 clear A50
 by_cases c6 : t716 = 0
 rotate_left
 ·rw [if_neg c6] at H
  have c6b0 : (t716 == 0) = false := beq_eq_false_iff_ne.mpr c6
  have c6b1 : (t716 != 0) = true := bne_iff_ne.mpr c6
  exact absurd ((Option.some.inj H).trans hr_) (by decide)
 rw [if_pos c6] at H
 have c6b0 : (t716 == 0) = true := beq_iff_eq.mpr c6
 have c6b1 : (t716 != 0) = false := bne_eq_false_iff_eq.mpr c6
 clear c6
 by_cases c7 : (t713.length : Int) = 1
 rotate_left
 ·rw [if_neg c7] at H
  have c7b0 : ((t713.length : Int) == 1) = false := beq_eq_false_iff_ne.mpr c7
  have c7b1 : ((t713.length : Int) != 1) = true := bne_iff_ne.mpr c7
  exact absurd ((Option.some.inj H).trans hr_) (by decide)
 rw [if_pos c7] at H
 have c7b0 : ((t713.length : Int) == 1) = true := beq_iff_eq.mpr c7
 have c7b1 : ((t713.length : Int) != 1) = false := bne_eq_false_iff_eq.mpr c7
 clear c7
 by_cases c8 : 0 < (t713.length : Int)
 rotate_left
 ·rw [if_neg c8] at H
  exact absurd H (by simp)
 rw [if_pos c8] at H
 have c8b0 : decide (0 < (t713.length : Int)) = true := decide_eq_true c8
 have c8b1 : decide (0 < t713.length) = true := decide_eq_true (by omega)
 clear c8
 by_cases c9 : ((rd_T38 t713 0).f2).toList = ([98] : List UInt8)
 rotate_left
 ·rw [if_neg c9] at H
  have c9b0 : (((rd_T38 t713 0).f2).toList == ([98] : List UInt8)) = false := beq_eq_false_iff_ne.mpr c9
  have c9b1 : (((rd_T38 t713 0).f2).toList != ([98] : List UInt8)) = true := bne_iff_ne.mpr c9
  exact absurd ((Option.some.inj H).trans hr_) (by decide)
 rw [if_pos c9] at H
 have c9b0 : (((rd_T38 t713 0).f2).toList == ([98] : List UInt8)) = true := beq_iff_eq.mpr c9
 have c9b1 : (((rd_T38 t713 0).f2).toList != ([98] : List UInt8)) = false := bne_eq_false_iff_eq.mpr c9
 clear c9
 by_cases c10 : t723 = 0
 rotate_left
 ·rw [if_neg c10] at H
  have c10b0 : (t723 == 0) = false := beq_eq_false_iff_ne.mpr c10
  have c10b1 : (t723 != 0) = true := bne_iff_ne.mpr c10
  exact absurd ((Option.some.inj H).trans hr_) (by decide)
 rw [if_pos c10] at H
 have c10b0 : (t723 == 0) = true := beq_iff_eq.mpr c10
 have c10b1 : (t723 != 0) = false := bne_eq_false_iff_eq.mpr c10
 clear c10
 by_cases c11 : (t720.length : Int) = 1
 rotate_left
 ·rw [if_neg c11] at H
  have c11b0 : ((t720.length : Int) == 1) = false := beq_eq_false_iff_ne.mpr c11
  have c11b1 : ((t720.length : Int) != 1) = true := bne_iff_ne.mpr c11
  exact absurd ((Option.some.inj H).trans hr_) (by decide)
 rw [if_pos c11] at H
 have c11b0 : ((t720.length : Int) == 1) = true := beq_iff_eq.mpr c11
 have c11b1 : ((t720.length : Int) != 1) = false := bne_eq_false_iff_eq.mpr c11
 clear c11
 by_cases c12 : 0 < (t720.length : Int)
 rotate_left
 ·rw [if_neg c12] at H
  exact absurd H (by simp)
 rw [if_pos c12] at H
 have c12b0 : decide (0 < (t720.length : Int)) = true := decide_eq_true c12
 have c12b1 : decide (0 < t720.length) = true := decide_eq_true (by omega)
 clear c12
 by_cases c13 : ((rd_T38 t720 0).f0).toList = ([97] : List UInt8)
 rotate_left
 ·rw [if_neg c13] at H
  have c13b0 : (((rd_T38 t720 0).f0).toList == ([97] : List UInt8)) = false := beq_eq_false_iff_ne.mpr c13
  have c13b1 : (((rd_T38 t720 0).f0).toList != ([97] : List UInt8)) = true := bne_iff_ne.mpr c13
  exact absurd ((Option.some.inj H).trans hr_) (by decide)
 rw [if_pos c13] at H
 have c13b0 : (((rd_T38 t720 0).f0).toList == ([97] : List UInt8)) = true := beq_iff_eq.mpr c13
 have c13b1 : (((rd_T38 t720 0).f0).toList != ([97] : List UInt8)) = false := bne_eq_false_iff_eq.mpr c13
 clear c13
 clear hr_
 obtain rfl := Option.some.inj H
 go_enter Tryd.func35, Tryd.ntmps35
 go_wp2_with (first | ((with_reducible refine gate_callee (f := 53) rfl ?_); refine goesL_ (some 8) rfl rfl Tryd.func53 (by kernel_rfl) rfl #[] rfl wm_ ?_; (with_reducible refine (bindlelaw20_pair.calls  t707 _ A1.out).mono ?_); rintro e w14 ⟨v708, rfl, ho0, hb⟩; refine ⟨_, rfl, ?_⟩; have n0_ := A0_ (Kd.S_lower ho0 (below_size (wb_ HB.out))); have n1_ := A0_ (below_step (wb_ HB.out) hb); clear HB; have HO709 := n0_; have HB := n1_; clear n0_ n1_; (try clear hb); (try clear hb2); (try clear hk); (try clear hi); (try clear ho0)) | ((with_reducible refine gate_dst (N := 9) rfl ?_); (try (refine gate_guard (by rfl) ?_; dsimp only)); refine Kd.R_lit Kd.string _ 9 ?hg (N := 9) ?hd (xs := ([(⟨#[98]⟩ : ByteArray), (⟨#[120]⟩ : ByteArray)] : List ByteArray)) (inner := [.string (⟨#[98]⟩ : ByteArray), .string (⟨#[120]⟩ : ByteArray)]) (ok := fun _ => True) (okp := fun _ => True) ?hr ?hp (fun _ hk => hk) trivial (Below.refl _ _) (Nat.le_refl _) (by simp) ?_; (case hd => rfl); (case hg => rfl); (case hr => first | (go_simp; done) | (go_simp; rfl)); (case hp => exact (Reps.one (show Kd.M Kd.string _ _ _ (⟨#[98]⟩ : ByteArray) [.string (⟨#[98]⟩ : ByteArray)] from rfl) (Reps.one (show Kd.M Kd.string _ _ _ (⟨#[120]⟩ : ByteArray) [.string (⟨#[120]⟩ : ByteArray)] from rfl) (Reps.none _ _)))); intro v711 w15 ho16 hb hg_ hnew_; clear hg_ hnew_; (first | rw [← Ny710.out] at ho16 | (simp only [Int.reduceToNat] at ho16; rw [← Ny710.out] at ho16)); have n0_ := A0_ (Sb_ (wS_ HO709.out) hb); have n1_ := A0_ (Kd.R_lower ho16 (below_size (wb_ HB.out))); have n2_ := A0_ (below_step (wb_ HB.out) hb); clear HO709; clear HB; have HO709 := n0_; have HO712 := n1_; have HB := n2_; clear n0_ n1_ n2_; clear hb ho16; obtain ⟨Ao17, co17, eo17⟩ := Kd.S_slice HO709.out; subst eo17; obtain ⟨Ao18, co18, eo18⟩ := Kd.R_slice HO712.out; subst eo18) | ((with_reducible refine gate_callee (f := 36) rfl ?_); refine goesL_ (some 10) rfl rfl Tryd.func36 (by kernel_rfl) rfl #[.slice Ao17 t707.length co17, .slice Ao18 y710.length co18] rfl wm_ ?_; (with_reducible refine (sub_Keep.calls _ _ t707 _ _ y710 t713 t716 _ ?side1 ?side2 ?side3 ?side4 ?side5 A2.out).mono ?_); (case side1 => exact A0_ (Tabs.below hT.out (wb_ HB.out))); (case side2 => exact wc_ (Kd.S_reads' HO709.out).2.2); (case side3 => exact (Kd.S_reads' HO709.out).2.1); (case side4 => exact wc_ (Kd.R_reads' HO712.out).2.2); (case side5 => exact (Kd.R_reads' HO712.out).2.1); rintro e w19 ⟨v714, rfl, ho0, hb⟩; refine ⟨_, rfl, ?_⟩; have n0_ := A0_ (Sb_ (wS_ HO709.out) hb); have n1_ := A0_ (Rb_ (wR_ HO712.out) hb); have n2_ := A0_ (Kd.V_lower (Kd.V_mono (ok' := fun k_ => some k_ ≠ (.slice Ao17 t707.length co17 : Value).ownBlock ∧ some k_ ≠ (.slice Ao18 y710.length co18 : Value).ownBlock) ho0 (fun k_ hk_ => ⟨(Kd.fresh' (Kd.S_lt (wS_ HO709.out)) k_ hk_), (Kd.fresh' (Kd.R_lt (wR_ HO712.out)) k_ hk_)⟩)) (below_size (wb_ HB.out))); have n3_ := A0_ (below_step (wb_ HB.out) hb); clear HO709; clear HO712; clear HB; have HO709 := n0_; have HO712 := n1_; have HO715 := n2_; have HB := n3_; clear n0_ n1_ n2_ n3_; (try clear hb); (try clear hb2); (try clear hk); (try clear hi); (try clear ho0)) | ((with_reducible refine gate_callee (f := 53) rfl ?_); refine goesL_ (some 14) rfl rfl Tryd.func53 (by kernel_rfl) rfl #[] rfl wm_ ?_; (with_reducible refine (bindlelaw20_pair.calls  t717 _ A3.out).mono ?_); rintro e w20 ⟨v718, rfl, ho0, hb⟩; refine ⟨_, rfl, ?_⟩; have n0_ := A0_ (Kd.S_elder' (wS_ HO709.out) (Kd.S_base ho0) hb); have n1_ := A0_ (Rb_ (wR_ HO712.out) hb); have n2_ := A0_ (Kd.V_elder' (wV_ HO715.out) (Kd.S_base ho0) hb); have n3_ := A0_ (Kd.S_lower (Kd.S_new' ho0 (Kd.S_lt (wS_ HO709.out))) (below_size (wb_ HB.out))); have n4_ := A0_ (below_step (wb_ HB.out) hb); clear HO709; clear HO712; clear HO715; clear HB; have HO709 := n0_; have HO712 := n1_; have HO715 := n2_; have HO719 := n3_; have HB := n4_; clear n0_ n1_ n2_ n3_ n4_; (try clear hb); (try clear hb2); (try clear hk); (try clear hi); (try clear ho0); obtain ⟨Ao21, co21, eo21⟩ := Kd.S_slice HO719.out; subst eo21; obtain ⟨Ao22, co22, eo22⟩ := Kd.V_slice HO715.out; subst eo22) | ((with_reducible refine gate_callee (f := 38) rfl ?_); refine goesL_ (some 16) rfl rfl Tryd.func38 (by kernel_rfl) rfl #[.slice Ao21 t717.length co21, .slice Ao22 t713.length co22, .bool false] rfl wm_ ?_; (with_reducible refine (sub_Subtract.calls _ _ t717 _ _ t713 false t720 t723 _ ?side1 ?side2 ?side3 ?side4 ?side5 A4.out).mono ?_); (case side1 => exact A0_ (Tabs.below hT.out (wb_ HB.out))); (case side2 => exact wc_ (Kd.S_reads' HO719.out).2.2); (case side3 => exact (Kd.S_reads' HO719.out).2.1); (case side4 => exact wc_ (Kd.V_reads' HO715.out).2.2); (case side5 => exact (Kd.V_reads' HO715.out).2.1); rintro e w23 ⟨v721, rfl, ho0, hb⟩; refine ⟨_, rfl, ?_⟩; have n0_ := A0_ (Sb_ (wS_ HO709.out) hb); have n1_ := A0_ (Rb_ (wR_ HO712.out) hb); have n2_ := A0_ (Vb_ (wV_ HO715.out) hb); have n3_ := A0_ (Sb_ (wS_ HO719.out) hb); have n4_ := A0_ (Kd.V_lower (Kd.V_mono (ok' := fun k_ => some k_ ≠ (.slice Ao17 t707.length co17 : Value).ownBlock ∧ some k_ ≠ (.slice Ao18 y710.length co18 : Value).ownBlock ∧ some k_ ≠ (.slice Ao21 t717.length co21 : Value).ownBlock) ho0 (fun k_ hk_ => ⟨(Kd.fresh' (Kd.S_lt (wS_ HO709.out)) k_ hk_), (Kd.fresh' (Kd.R_lt (wR_ HO712.out)) k_ hk_), (Kd.fresh' (Kd.S_lt (wS_ HO719.out)) k_ hk_)⟩)) (below_size (wb_ HB.out))); have n5_ := A0_ (below_step (wb_ HB.out) hb); clear HO709; clear HO712; clear HO715; clear HO719; clear HB; have HO709 := n0_; have HO712 := n1_; have HO715 := n2_; have HO719 := n3_; have HO722 := n4_; have HB := n5_; clear n0_ n1_ n2_ n3_ n4_ n5_; (try clear hb); (try clear hb2); (try clear hk); (try clear hi); (try clear ho0)) | ((with_reducible refine gate_dst (N := 21) rfl ?_); (try (refine gate_guard (by rfl) ?_; dsimp only)); refine Kd.S_lit k38 _ 38 ?hg (N := 21) ?hd (xs := ([(⟨(⟨#[]⟩ : ByteArray), (⟨#[]⟩ : ByteArray), (⟨#[]⟩ : ByteArray), 0, (⟨0, 0, 0, 0⟩ : S24), ([] : List Int)⟩ : S38)] : List (S38))) (inner := [.string (⟨#[]⟩ : ByteArray), .string (⟨#[]⟩ : ByteArray), .string (⟨#[]⟩ : ByteArray), .int .u8 0, .int .i64 0, .int .i64 0, .int .i64 0, .int .i64 0, .slice none 0 0]) (ok := fun _ => True) (okp := fun _ => True) ?hr ?hp (fun _ hk => hk) trivial (Below.refl _ _) (Nat.le_refl _) (by simp) ?_; (case hd => rfl); (case hg => rfl); (case hr => first | (go_simp; done) | (go_simp; rfl)); (case hp => exact (Reps.c9 (show Kd.M k38 _ _ _ (⟨(⟨#[]⟩ : ByteArray), (⟨#[]⟩ : ByteArray), (⟨#[]⟩ : ByteArray), 0, (⟨0, 0, 0, 0⟩ : S24), ([] : List Int)⟩ : S38) [.string (⟨#[]⟩ : ByteArray), .string (⟨#[]⟩ : ByteArray), .string (⟨#[]⟩ : ByteArray), .int .u8 0, .int .i64 0, .int .i64 0, .int .i64 0, .int .i64 0, .slice none 0 0] from (k38_mkM _ _ _ (⟨(⟨#[]⟩ : ByteArray), (⟨#[]⟩ : ByteArray), (⟨#[]⟩ : ByteArray), 0, (⟨0, 0, 0, 0⟩ : S24), ([] : List Int)⟩ : S38) (Kd.R_nil _ _ _ _ _))) (Reps.none _ _))); intro v725 w24 ho25 hb hg_ hnew_; clear hg_ hnew_; (first | rw [← Ny724.out] at ho25 | (simp only [Int.reduceToNat] at ho25; rw [← Ny724.out] at ho25)); have n0_ := A0_ (Kd.S_elder' (wS_ HO709.out) (Kd.S_base ho25) hb); have n1_ := A0_ (Rb_ (wR_ HO712.out) hb); have n2_ := A0_ (Kd.V_elder' (wV_ HO715.out) (Kd.S_base ho25) hb); have n3_ := A0_ (Kd.S_elder' (wS_ HO719.out) (Kd.S_base ho25) hb); have n4_ := A0_ (Kd.V_elder' (wV_ HO722.out) (Kd.S_base ho25) hb); have n5_ := A0_ (Kd.S_lower (Kd.S_new' (Kd.S_new' ho25 (Kd.S_lt (wS_ HO709.out))) (Kd.S_lt (wS_ HO719.out))) (below_size (wb_ HB.out))); have n6_ := A0_ (below_step (wb_ HB.out) hb); clear HO709; clear HO712; clear HO715; clear HO719; clear HO722; clear HB; have HO709 := n0_; have HO712 := n1_; have HO715 := n2_; have HO719 := n3_; have HO722 := n4_; have HO726 := n5_; have HB := n6_; clear n0_ n1_ n2_ n3_ n4_ n5_ n6_; clear hb ho25; obtain ⟨Ao26, co26, eo26⟩ := Kd.S_slice HO726.out; subst eo26) | ((with_reducible refine gate_callee (f := 36) rfl ?_); refine goesL_ (some 22) rfl rfl Tryd.func36 (by kernel_rfl) rfl #[.slice Ao26 y724.length co26, .slice none 0 0] rfl wm_ ?_; (refine (sub_Keep.calls _ _ y724 _ _ ([] : List ByteArray) t727 t730 _ ?side1 ?side2 ?side3 ?side4 ?side5 A5.out).mono ?_); (case side1 => exact A0_ (Tabs.below hT.out (wb_ HB.out))); (case side2 => exact wc_ (Kd.S_reads' HO726.out).2.2); (case side3 => exact (Kd.S_reads' HO726.out).2.1); (case side4 => exact Kd.C_nil _ _); (case side5 => exact Nat.le_refl _); rintro e w27 ⟨v728, rfl, ho0, hb⟩; refine ⟨_, rfl, ?_⟩; have n0_ := A0_ (Sb_ (wS_ HO709.out) hb); have n1_ := A0_ (Rb_ (wR_ HO712.out) hb); have n2_ := A0_ (Vb_ (wV_ HO715.out) hb); have n3_ := A0_ (Sb_ (wS_ HO719.out) hb); have n4_ := A0_ (Vb_ (wV_ HO722.out) hb); have n5_ := A0_ (Sb_ (wS_ HO726.out) hb); have n6_ := A0_ (Kd.V_lower (Kd.V_mono (ok' := fun k_ => some k_ ≠ (.slice Ao17 t707.length co17 : Value).ownBlock ∧ some k_ ≠ (.slice Ao18 y710.length co18 : Value).ownBlock ∧ some k_ ≠ (.slice Ao21 t717.length co21 : Value).ownBlock ∧ some k_ ≠ (.slice Ao26 y724.length co26 : Value).ownBlock) ho0 (fun k_ hk_ => ⟨(Kd.fresh' (Kd.S_lt (wS_ HO709.out)) k_ hk_), (Kd.fresh' (Kd.R_lt (wR_ HO712.out)) k_ hk_), (Kd.fresh' (Kd.S_lt (wS_ HO719.out)) k_ hk_), (Kd.fresh' (Kd.S_lt (wS_ HO726.out)) k_ hk_)⟩)) (below_size (wb_ HB.out))); have n7_ := A0_ (below_step (wb_ HB.out) hb); clear HO709; clear HO712; clear HO715; clear HO719; clear HO722; clear HO726; clear HB; have HO709 := n0_; have HO712 := n1_; have HO715 := n2_; have HO719 := n3_; have HO722 := n4_; have HO726 := n5_; have HO729 := n6_; have HB := n7_; clear n0_ n1_ n2_ n3_ n4_ n5_ n6_ n7_; (try clear hb); (try clear hb2); (try clear hk); (try clear hi); (try clear ho0); have p731 : 0 ≤ (0 : Int) := (by omega); have q731 : 0 < (t713.length : Int) := wd_; obtain ⟨ad731, A731_8, c731_8, e731, hx731_0, hx731_1, hx731_2, hx731_3, hx731_4, hx731_5, hx731_6, hx731_7, hx731_8, hl731_8, hi731_8⟩ := at_T38 (Kd.V_reads' HO715.out).2.2 0 p731 q731; cases e731; obtain ⟨ce731, hce731, hMe731, hcc731⟩ := Kd.V_get HO715.out z38 0 p731 (by first | exact q731 | exact wd_ | (have e_ := (Kd.V_reads' HO715.out).1; omega)); obtain ⟨ua731_8, uc731_8, rfl, ul731_8, ge731_8⟩ := k38_openF hMe731; have hv731_8 := hcc731 8 _ rfl; rw [add_field _ _ 8 (by omega)] at hv731_8; replace hv731_8 := Option.some.inj (hv731_8.symm.trans hx731_8); injection hv731_8 with hva_ hvn_ hvc_; rw [hva_] at ge731_8; rw [hvc_] at ul731_8; have HL731_8 := A0_ (show Kd.V (Kd.int .u8) 5 _ w.heap.size _ _ ((rd_T38 t713 0).f5) from Kd.V_mk ul731_8 ge731_8); clear hva_ hvn_ hvc_ ge731_8 ul731_8; clear hcc731 hce731; have qi731 : (0 < t713.length) = True := eq_true (by omega); (try rw [show ((0 : Int)).toNat = 0 from rfl] at hx731_0); (try rw [show 0 * 9 = 0 from rfl] at hx731_0); (try rw [Addr.add_zero'] at hx731_0); (try rw [show ((0 : Int)).toNat = 0 from rfl] at hx731_1); (try rw [show 0 * 9 = 0 from rfl] at hx731_1); (try rw [Addr.add_zero'] at hx731_1); (try rw [show ((0 : Int)).toNat = 0 from rfl] at hx731_2); (try rw [show 0 * 9 = 0 from rfl] at hx731_2); (try rw [Addr.add_zero'] at hx731_2); (try rw [show ((0 : Int)).toNat = 0 from rfl] at hx731_3); (try rw [show 0 * 9 = 0 from rfl] at hx731_3); (try rw [Addr.add_zero'] at hx731_3); (try rw [show ((0 : Int)).toNat = 0 from rfl] at hx731_4); (try rw [show 0 * 9 = 0 from rfl] at hx731_4); (try rw [Addr.add_zero'] at hx731_4); (try rw [show ((0 : Int)).toNat = 0 from rfl] at hx731_5); (try rw [show 0 * 9 = 0 from rfl] at hx731_5); (try rw [Addr.add_zero'] at hx731_5); (try rw [show ((0 : Int)).toNat = 0 from rfl] at hx731_6); (try rw [show 0 * 9 = 0 from rfl] at hx731_6); (try rw [Addr.add_zero'] at hx731_6); (try rw [show ((0 : Int)).toNat = 0 from rfl] at hx731_7); (try rw [show 0 * 9 = 0 from rfl] at hx731_7); (try rw [Addr.add_zero'] at hx731_7); (try rw [show ((0 : Int)).toNat = 0 from rfl] at hx731_8); (try rw [show 0 * 9 = 0 from rfl] at hx731_8); (try rw [Addr.add_zero'] at hx731_8); have HR731_8 := A0_ hi731_8; have HC731_8 := A0_ hl731_8; clear hi731_8 hl731_8; replace p731 := eq_true p731; replace q731 := eq_true q731; obtain ⟨Ao28, co28, eo28⟩ := Kd.V_slice HO722.out; subst eo28; have p732 : 0 ≤ (0 : Int) := (by omega); have q732 : 0 < (t720.length : Int) := wd_; obtain ⟨ad732, A732_8, c732_8, e732, hx732_0, hx732_1, hx732_2, hx732_3, hx732_4, hx732_5, hx732_6, hx732_7, hx732_8, hl732_8, hi732_8⟩ := at_T38 (Kd.V_reads' HO722.out).2.2 0 p732 q732; cases e732; obtain ⟨ce732, hce732, hMe732, hcc732⟩ := Kd.V_get HO722.out z38 0 p732 (by first | exact q732 | exact wd_ | (have e_ := (Kd.V_reads' HO722.out).1; omega)); obtain ⟨ua732_8, uc732_8, rfl, ul732_8, ge732_8⟩ := k38_openF hMe732; have hv732_8 := hcc732 8 _ rfl; rw [add_field _ _ 8 (by omega)] at hv732_8; replace hv732_8 := Option.some.inj (hv732_8.symm.trans hx732_8); injection hv732_8 with hva_ hvn_ hvc_; rw [hva_] at ge732_8; rw [hvc_] at ul732_8; have HL732_8 := A0_ (show Kd.V (Kd.int .u8) 5 _ w.heap.size _ _ ((rd_T38 t720 0).f5) from Kd.V_mk ul732_8 ge732_8); clear hva_ hvn_ hvc_ ge732_8 ul732_8; clear hcc732 hce732; have qi732 : (0 < t720.length) = True := eq_true (by omega); (try rw [show ((0 : Int)).toNat = 0 from rfl] at hx732_0); (try rw [show 0 * 9 = 0 from rfl] at hx732_0); (try rw [Addr.add_zero'] at hx732_0); (try rw [show ((0 : Int)).toNat = 0 from rfl] at hx732_1); (try rw [show 0 * 9 = 0 from rfl] at hx732_1); (try rw [Addr.add_zero'] at hx732_1); (try rw [show ((0 : Int)).toNat = 0 from rfl] at hx732_2); (try rw [show 0 * 9 = 0 from rfl] at hx732_2); (try rw [Addr.add_zero'] at hx732_2); (try rw [show ((0 : Int)).toNat = 0 from rfl] at hx732_3); (try rw [show 0 * 9 = 0 from rfl] at hx732_3); (try rw [Addr.add_zero'] at hx732_3); (try rw [show ((0 : Int)).toNat = 0 from rfl] at hx732_4); (try rw [show 0 * 9 = 0 from rfl] at hx732_4); (try rw [Addr.add_zero'] at hx732_4); (try rw [show ((0 : Int)).toNat = 0 from rfl] at hx732_5); (try rw [show 0 * 9 = 0 from rfl] at hx732_5); (try rw [Addr.add_zero'] at hx732_5); (try rw [show ((0 : Int)).toNat = 0 from rfl] at hx732_6); (try rw [show 0 * 9 = 0 from rfl] at hx732_6); (try rw [Addr.add_zero'] at hx732_6); (try rw [show ((0 : Int)).toNat = 0 from rfl] at hx732_7); (try rw [show 0 * 9 = 0 from rfl] at hx732_7); (try rw [Addr.add_zero'] at hx732_7); (try rw [show ((0 : Int)).toNat = 0 from rfl] at hx732_8); (try rw [show 0 * 9 = 0 from rfl] at hx732_8); (try rw [Addr.add_zero'] at hx732_8); have HR732_8 := A0_ hi732_8; have HC732_8 := A0_ hl732_8; clear hi732_8 hl732_8; replace p732 := eq_true p732; replace q732 := eq_true q732))
 go_ret
 exact ⟨we_, wb_ HB.out⟩
end Go.Proofs.YtfmphccoeinhcaaDoor.Print

namespace Go.Proofs.YtfmphccoeinhcaaDoor.Print
open Go.RowKit Go.Proofs.YtfmphccoeinhcaaDoorW.PrintWords Go.Proofs.YtfmphccoeinhcaaDoorW.PrintLast Go.Proofs.YtfmphccoeinhcaaDoorW.PrintMore
attribute [local go_sem] max2_int min2_int max_two min_two max_three min_three max_four min_four   -- for this text's walks alone
set_option linter.unusedVariables false
set_option linter.unusedSimpArgs false
end Go.Proofs.YtfmphccoeinhcaaDoor.Print

namespace Go.Proofs.YtfmphccoeinhcaaDoor.Print
open Go.RowKit Go.Proofs.YtfmphccoeinhcaaDoorW.PrintWords Go.Proofs.YtfmphccoeinhcaaDoorW.PrintLast Go.Proofs.YtfmphccoeinhcaaDoorW.PrintMore
attribute [local go_sem] max2_int min2_int max_two min_two max_three min_three max_four min_four   -- for this text's walks alone
set_option linter.unusedVariables false
set_option linter.unusedSimpArgs false
end Go.Proofs.YtfmphccoeinhcaaDoor.Print

namespace Go.Proofs.YtfmphccoeinhcaaDoor
open Go.RowKit Go.Proofs.YtfmphccoeinhcaaDoor.Print Go.Proofs.YtfmphccoeinhcaaDoorW.PrintWords
set_option linter.unusedVariables false
theorem okl_z {ls : List (List Node)} (h : OkL ls) (hz : ∀ t ∈ ls, ∀ x ∈ t, NodeZ x) : ∀ t ∈ ls, TreeZ t ∧ t.length ≤ 60 := fun t ht => by
 obtain ⟨h1, h2⟩ := h t ht
 refine ⟨treeZ_of (by omega) (fun x hx => ?_), h1⟩
 have h3 := h2 x hx
 have h4 : szN x = x.f5.length + x.f0.size + x.f1.size := rfl
 exact ⟨hz t ht x hx, by omega, by omega⟩
theorem rgood_f {l : List Node} (h : TreeZ l) : bindleref08_GoodTree.f l = some (goodTree l) := by
 unfold bindleref08_GoodTree.f
 rw [if_pos ((nodesZ_iff l).2 h.2.1)]
theorem sub_f {a b : List Node} (ha : TreeZ a) (hb : TreeZ b) (w : Bool) : sub_Subtract.f a b w = some (subF a b w) := by
 unfold sub_Subtract.f
 rw [if_pos ⟨(treeZB_iff a).2 ha, (treeZB_iff b).2 hb⟩]
theorem all2 {a b : List Node} {P : Node → Prop} (ha : ∀ x ∈ a, P x) (hb : ∀ x ∈ b, P x) : ∀ t ∈ [a, b], ∀ x ∈ t, P x := fun t ht => by
 rcases List.mem_cons.1 ht with rfl | ht
 ·exact ha
 ·rw [List.mem_singleton] at ht; rw [ht]; exact hb
theorem same_ev {U V : List Node} (h : sameB U V = true) (hz : TreeZ U) : Ev (fun k => bindleref08_SameTree.f k U V) true := by
 rw [← h]
 exact sameTree_eq U V (by have := hz.1; omega)
end Go.Proofs.YtfmphccoeinhcaaDoor

namespace Go.Proofs.YtfmphccoeinhcaaDoor
open Go.RowKit Go.Proofs.YtfmphccoeinhcaaDoor.Print Go.Proofs.YtfmphccoeinhcaaDoorW.PrintWords
set_option linter.unusedVariables false
abbrev Cls := S60
def insR (x : Cls) (acc : List Cls) : List Cls := (acc.reverse.dropWhile (fun y => lt x.f0.f0 y.f0.f0)).reverse ++ x :: (acc.reverse.takeWhile (fun y => lt x.f0.f0 y.f0.f0)).reverse
def sortC (l : List Cls) : List Cls := l.foldl (fun acc x => insR x acc) []
theorem insR_at (x : Cls) (a b : List Cls) (hb : ∀ y ∈ b, lt x.f0.f0 y.f0.f0 = true) (ha : ∀ y, a.getLast? = some y → lt x.f0.f0 y.f0.f0 = false) : insR x (a ++ b) = a ++ x :: b := by
 unfold insR
 rw [List.reverse_append]
 have h1 : ∀ y ∈ b.reverse, lt x.f0.f0 y.f0.f0 = true := fun y hy => hb y (List.mem_reverse.1 hy)
 have h2 : a.reverse.takeWhile (fun y => lt x.f0.f0 y.f0.f0) = [] ∧ a.reverse.dropWhile (fun y => lt x.f0.f0 y.f0.f0) = a.reverse := by
  cases hr : a.reverse with
  | nil => exact ⟨rfl, rfl⟩
  | cons z r =>
   have hz : a.getLast? = some z := by rw [← List.head?_reverse, hr]; rfl
   have := ha z hz
   rw [List.takeWhile_cons, List.dropWhile_cons, this]
   exact ⟨rfl, rfl⟩
 have h3 : ∀ (u v : List Cls), (∀ y ∈ u, lt x.f0.f0 y.f0.f0 = true) → (u ++ v).takeWhile (fun y => lt x.f0.f0 y.f0.f0) = u ++ v.takeWhile (fun y => lt x.f0.f0 y.f0.f0) ∧ (u ++ v).dropWhile (fun y => lt x.f0.f0 y.f0.f0) = v.dropWhile (fun y => lt x.f0.f0 y.f0.f0) := by
  intro u v hu
  induction u with
  | nil => exact ⟨rfl, rfl⟩
  | cons w u ih =>
   have hw := hu w List.mem_cons_self
   obtain ⟨i1, i2⟩ := ih (fun y hy => hu y (List.mem_cons_of_mem _ hy))
   exact ⟨by simp only [List.cons_append, List.takeWhile_cons, hw, if_true, i1], by simp only [List.cons_append, List.dropWhile_cons, hw, if_true, i2]⟩
 obtain ⟨h4, h5⟩ := h3 b.reverse a.reverse h1
 rw [h4, h5, h2.1, h2.2, List.append_nil, List.reverse_reverse, List.reverse_reverse]
def leadC (s : List Cls) (i : Nat) (x : Cls) : ByteArray := if x.f0.f3 = 48 then (match (s.take (i + 1)).find? (fun y => decide (y.f0.f3 = 48 ∧ y.f1 = x.f1)) with
 | some y => y.f0.f0
 | none => emp) else emp
def outC (s : List Cls) (i : Nat) (x : Cls) : Node := ⟨x.f0.f0, x.f0.f1, leadC s i x, x.f0.f3, x.f0.f4, x.f0.f5⟩
def sortedF (l : List Cls) : List Node := (sortC l).mapIdx (fun i x => outC (sortC l) i x)
theorem insR_perm (x : Cls) (acc : List Cls) : (insR x acc).Perm (x :: acc) := by
 unfold insR
 refine List.perm_middle.trans (List.Perm.cons x ?_)
 rw [← List.reverse_append]
 have : acc.reverse.takeWhile (fun y => lt x.f0.f0 y.f0.f0) ++ acc.reverse.dropWhile (fun y => lt x.f0.f0 y.f0.f0) = acc.reverse := List.takeWhile_append_dropWhile
 rw [this, List.reverse_reverse]
theorem sortC_from (l acc : List Cls) : (l.foldl (fun acc x => insR x acc) acc).Perm (acc ++ l) := by
 induction l generalizing acc with
 | nil => rw [List.append_nil]; exact List.Perm.refl _
 | cons x l ih =>
  rw [List.foldl_cons]
  refine (ih _).trans ?_
  refine ((insR_perm x acc).append_right l).trans ?_
  exact List.perm_middle.symm
theorem sortC_perm (l : List Cls) : (sortC l).Perm l := sortC_from l []
def RiseC (s : List Cls) : Prop := s.Pairwise (fun a b => lt a.f0.f0 b.f0.f0 = true)
theorem insR_rise {x : Cls} {acc : List Cls} (h : RiseC acc) (hx : ∀ y ∈ acc, y.f0.f0 ≠ x.f0.f0) : RiseC (insR x acc) := by
 obtain ⟨a, b, hab, hb, ha⟩ : ∃ a b, acc = a ++ b ∧ (∀ y ∈ b, lt x.f0.f0 y.f0.f0 = true) ∧ (∀ y, a.getLast? = some y → lt x.f0.f0 y.f0.f0 = false) := by
  refine ⟨(acc.reverse.dropWhile (fun y => lt x.f0.f0 y.f0.f0)).reverse, (acc.reverse.takeWhile (fun y => lt x.f0.f0 y.f0.f0)).reverse, ?_, fun y hy => ?_, fun y hy => ?_⟩
  ·rw [← List.reverse_append, List.takeWhile_append_dropWhile, List.reverse_reverse]
  ·rw [List.mem_reverse] at hy
   have h1 := List.all_takeWhile (l := acc.reverse) (p := fun y => lt x.f0.f0 y.f0.f0)
   rw [List.all_eq_true] at h1
   exact h1 y hy
  ·rw [List.getLast?_reverse] at hy
   have := List.head?_dropWhile_not (fun y => lt x.f0.f0 y.f0.f0) acc.reverse
   rw [hy] at this
   simpa using this
 subst hab
 rw [insR_at x a b hb ha]
 unfold RiseC at h ⊢
 rw [List.pairwise_append] at h ⊢
 refine ⟨h.1, List.pairwise_cons.2 ⟨hb, h.2.1⟩, fun y hy z hz => ?_⟩
 have hyx : lt y.f0.f0 x.f0.f0 = true := by
  -- the last one of a is not behind x; y is not behind the last one
  obtain ⟨w, hw⟩ : ∃ w, a.getLast? = some w := by
   cases hl : a.getLast? with
   | some w => exact ⟨w, rfl⟩
   | none => rw [List.getLast?_eq_none_iff] at hl; subst hl; cases hy
  have h1 := ha w hw
  have hwm : w ∈ a := List.mem_of_getLast? hw
  have h2 : lt w.f0.f0 x.f0.f0 = true := by
   rcases lt_tri w.f0.f0 x.f0.f0 with h | h | h
   ·exact h
   ·exact absurd (ba_ext h) (hx w (List.mem_append_left _ hwm))
   ·rw [h1] at h; cases h
  by_cases e : y = w
  ·rw [e]; exact h2
  ·refine lt_trans ?_ h2
   have h3 := h.1
   obtain ⟨ini, hini⟩ : ∃ ini, a = ini ++ [w] := (by rw [List.getLast?_eq_some_iff] at hw; exact hw)
   rw [hini] at h3 hy
   rw [List.pairwise_append] at h3
   rcases List.mem_append.1 hy with h4 | h4
   ·exact h3.2.2 y h4 w (by simp)
   ·rw [List.mem_singleton] at h4; exact absurd h4 e
 rcases List.mem_cons.1 hz with rfl | hz
 ·exact hyx
 ·exact h.2.2 y hy z hz
theorem sortC_rise_from {l acc : List Cls} (h : RiseC acc) (hn : ((acc ++ l).map (fun x => x.f0.f0)).Nodup) : RiseC (l.foldl (fun acc x => insR x acc) acc) := by
 induction l generalizing acc with
 | nil => exact h
 | cons x l ih =>
  rw [List.foldl_cons]
  have h1 : ∀ y ∈ acc, y.f0.f0 ≠ x.f0.f0 := by
   intro y hy e
   rw [List.map_append, List.nodup_append] at hn
   exact hn.2.2 _ (List.mem_map.2 ⟨y, hy, rfl⟩) _ (List.mem_map.2 ⟨x, List.mem_cons_self, rfl⟩) e
  refine ih (insR_rise h h1) ?_
  refine (List.Perm.nodup_iff ?_).1 hn
  refine List.Perm.map _ ?_
  refine List.perm_middle.trans ?_
  exact ((insR_perm x acc).append_right l).symm
theorem sortC_rise {l : List Cls} (hn : (l.map (fun x => x.f0.f0)).Nodup) : RiseC (sortC l) := sortC_rise_from List.Pairwise.nil hn
end Go.Proofs.YtfmphccoeinhcaaDoor

namespace Go.Proofs.YtfmphccoeinhcaaDoor
open Go.RowKit Go.Proofs.YtfmphccoeinhcaaDoor.Print Go.Proofs.YtfmphccoeinhcaaDoorW.PrintWords
set_option linter.unusedVariables false
def toE (c : Cls) : PEnt := ⟨c.f0.f0, ⟨c.f0.f0, c.f0.f1, emp, c.f0.f3, c.f0.f4, c.f0.f5⟩, c.f1⟩
theorem find_take {α : Type} (p : α → Bool) {s : List α} {i : Nat} (hi : i < s.length) (h : p s[i] = true) : (s.take (i + 1)).find? p = s.find? p := by
 have hm : s[i] ∈ s.take (i + 1) := by
  rw [List.take_succ_eq_append_getElem hi]
  exact List.mem_append_right _ (List.mem_singleton.2 rfl)
 conv => rhs; rw [← List.take_append_drop (i + 1) s, List.find?_append]
 cases hf : (s.take (i + 1)).find? p with
 | none => exact absurd h (by have := List.find?_eq_none.1 hf _ hm; simpa using this)
 | some y => rfl
theorem rise_toE {s : List Cls} (h : RiseC s) : RiseE (s.map toE) := List.pairwise_map.2 h
theorem nodup_toE {l : List Cls} (h : (l.map (fun x => x.f0.f0)).Nodup) : NodupE (l.map toE) := by
 unfold NodupE
 rw [List.map_map]
 exact h
theorem sortC_toE {l : List Cls} (hn : (l.map (fun x => x.f0.f0)).Nodup) : (sortC l).map toE = sortE (l.map toE) := by
 refine riseE_unique (rise_toE (sortC_rise hn)) (sortE_rise (nodup_toE hn)) (fun e => ?_)
 rw [sortE_mem]
 exact ((sortC_perm l).map toE).mem_iff
theorem lead_toE {s : List Cls} {i : Nat} (hi : i < s.length) : outC s i s[i] = outE (s.map toE) (toE s[i]) := by
 have hl : leadC s i s[i] = if s[i].f0.f3 = 48 then leadE (s.map toE) (toE s[i]) else emp := by
  unfold leadC
  by_cases h48 : s[i].f0.f3 = 48
  ·rw [if_pos h48, if_pos h48, find_take (fun y => decide (y.f0.f3 = 48 ∧ y.f1 = s[i].f1)) hi (by simp [h48])]
   unfold leadE
   rw [List.find?_map]
   have : (oneE (toE s[i]) ∘ toE) = (fun y : Cls => decide (y.f0.f3 = 48 ∧ y.f1 = s[i].f1)) := by
    funext y
    unfold oneE toE
    simp
   rw [this]
   cases s.find? (fun y => decide (y.f0.f3 = 48 ∧ y.f1 = s[i].f1)) <;> rfl
  ·rw [if_neg h48, if_neg h48]
 unfold outC
 rw [hl]
 rfl
theorem sortedF_tree {l : List Cls} (hn : (l.map (fun x => x.f0.f0)).Nodup) : sortedF l = treeE (l.map toE) := by
 unfold sortedF treeE
 rw [← sortC_toE hn]
 generalize sortC l = s
 refine List.ext_getElem (by simp) (fun i h1 h2 => ?_)
 rw [List.getElem_mapIdx, List.getElem_map, List.getElem_map]
 exact lead_toE _
theorem insE_map {g : PEnt → PEnt} (hp : ∀ e, (g e).path = e.path) (q : PEnt) (s : PL) : insE (g q) (s.map g) = (insE q s).map g := by
 induction s with
 | nil => rfl
 | cons r s ih =>
  simp only [List.map_cons, insE, hp, ih]
  split <;> rfl
theorem sortE_map {g : PEnt → PEnt} (hp : ∀ e, (g e).path = e.path) (s : PL) : sortE (s.map g) = (sortE s).map g := by
 induction s with
 | nil => rfl
 | cons r s ih =>
  have h1 : sortE (r :: s) = insE r (sortE s) := rfl
  have h2 : sortE ((r :: s).map g) = insE (g r) (sortE (s.map g)) := rfl
  rw [h1, h2, ih, insE_map hp]
structure Renames (g : PEnt → PEnt) (s : PL) : Prop where
 path : ∀ e, (g e).path = e.path
 node : ∀ e ∈ s, (g e).node.f1 = e.node.f1 ∧ (g e).node.f3 = e.node.f3 ∧ (g e).node.f4 = e.node.f4 ∧ (g e).node.f5 = e.node.f5
 bare : ∀ e ∈ s, ¬ e.node.f3 = 48 → (g e).node.f2 = e.node.f2
 one : ∀ e ∈ s, ∀ q ∈ s, e.node.f3 = 48 → q.node.f3 = 48 → (((g q).tree = (g e).tree ∧ (g q).node.f2 = (g e).node.f2) ↔ (q.tree = e.tree ∧ q.node.f2 = e.node.f2))
theorem find_congr {α : Type} {p q : α → Bool} : ∀ {s : List α}, (∀ x ∈ s, p x = q x) → s.find? p = s.find? q
 | [], _ => rfl
 | a :: s, h => by
  rw [List.find?_cons, List.find?_cons, h a List.mem_cons_self, find_congr (fun x hx => h x (List.mem_cons_of_mem _ hx))]
theorem treeE_map {g : PEnt → PEnt} {s : PL} (h : Renames g s) : treeE (s.map g) = treeE s := by
 unfold treeE
 rw [sortE_map h.path, List.map_map]
 refine List.map_congr_left (fun e he => ?_)
 have hes := sortE_mem.1 he
 obtain ⟨n1, n3, n4, n5⟩ := h.node e hes
 have hl : e.node.f3 = 48 → leadE ((sortE s).map g) (g e) = leadE (sortE s) e := fun h48 => by
  unfold leadE
  rw [List.find?_map]
  have : (sortE s).find? (oneE (g e) ∘ g) = (sortE s).find? (oneE e) := find_congr (fun q hq => by
   have hqs := sortE_mem.1 hq
   obtain ⟨m1, m3, m4, m5⟩ := h.node q hqs
   rw [Bool.eq_iff_iff, Function.comp_apply, oneE_iff, oneE_iff, m3]
   constructor
   ·rintro ⟨a, b⟩
    exact ⟨a, (h.one e hes q hqs h48 a).1 b⟩
   ·rintro ⟨a, b⟩
    exact ⟨a, (h.one e hes q hqs h48 a).2 b⟩)
  rw [this]
  cases (sortE s).find? (oneE e) with
  | none => rfl
  | some q => exact h.path q
 show outE ((sortE s).map g) (g e) = outE (sortE s) e
 unfold outE
 rw [h.path, n1, n3, n4, n5]
 by_cases h48 : e.node.f3 = 48
 ·rw [if_pos h48, if_pos h48, hl h48]
 ·rw [if_neg h48, if_neg h48, h.bare e hes h48]
def classI (t : List Node) (l : ByteArray) : Nat := let i := t.findIdx (fun x => decide (x.f0.toList = l.toList)); if i < t.length then i else 0
def classesR (t : List Node) (base : Int) : List Cls := t.map (fun x => ⟨x, base + (classI t x.f2 : Int)⟩)
def keepC (t : List Node) (ps : List ByteArray) : List Cls := (classesR t 0).filter (fun c => inL ps c.f0.f0)
theorem classI_at {t : List Node} {l : ByteArray} {z : Node} (h : findF t l = some z) : ∃ h : classI t l < t.length, t[classI t l].f0 = l := by
 have hm := findF_mem h
 have hlt : t.findIdx (fun x => decide (x.f0.toList = l.toList)) < t.length := by
  refine List.findIdx_lt_length_of_exists ⟨z, hm.1, by rw [hm.2]; simp⟩
 have he : classI t l = t.findIdx (fun x => decide (x.f0.toList = l.toList)) := by unfold classI; exact if_pos hlt
 rw [he]
 refine ⟨hlt, ?_⟩
 have := List.findIdx_getElem (w := hlt)
 exact ba_ext (of_decide_eq_true this)
theorem classI_lt {t : List Node} {l : ByteArray} {x : Node} (hx : x ∈ t) : classI t l < t.length := by
 unfold classI
 dsimp only
 split
 ·assumption
 ·exact List.length_pos_of_mem hx
theorem classI_inj {t : List Node} {k l : ByteArray} {y z : Node} (h1 : findF t k = some y) (h2 : findF t l = some z) (h : classI t k = classI t l) : k = l := by
 obtain ⟨a, e1⟩ := classI_at h1
 obtain ⟨b, e2⟩ := classI_at h2
 rw [← e1, ← e2]
 congr 1
 exact getElem_congr_idx h
def gU (ls : List (List Node)) (e : PEnt) : PEnt := ⟨e.path, ⟨e.path, e.node.f1, emp, e.node.f3, e.node.f4, e.node.f5⟩, 10000 * e.tree + (classI (ls.getD e.tree.toNat []) e.node.f2 : Int)⟩
theorem led_bare {l : List Node} {x : Node} (h : ledB l x = true) (h48 : ¬ x.f3 = 48) : x.f2 = emp := by
 unfold ledB at h
 rw [if_neg h48] at h
 exact ba_ext ((of_decide_eq_true h).trans (by rw [Lib.toList_data]; rfl))
theorem gU_renames {ls : List (List Node)} {s : PL} (hg : ∀ e ∈ s, ∃ (i : Nat) (t : List Node), e.tree = i ∧ ls[i]? = some t ∧ goodTree t = true ∧ e.node ∈ t) : Renames (gU ls) s := by
 refine ⟨fun e => rfl, fun e _ => ⟨rfl, rfl, rfl, rfl⟩, fun e he h48 => ?_, fun e he q hq h48 h48' => ?_⟩
 ·obtain ⟨i, t, _, _, g, hm⟩ := hg e he
  exact (led_bare ((good_parts g).2.2.2 _ hm) h48).symm
 ·obtain ⟨i, t, hi, ht, g, hm⟩ := hg e he
  obtain ⟨j, u, hj, hu, k, hn⟩ := hg q hq
  obtain ⟨z, z1, _⟩ := led_file ((good_parts g).2.2.2 _ hm) h48
  obtain ⟨y, y1, _⟩ := led_file ((good_parts k).2.2.2 _ hn) h48'
  have c1 : (gU ls e).tree = 10000 * (i : Int) + (classI t e.node.f2 : Int) := by
   unfold gU
   dsimp only
   rw [hi, Int.toNat_natCast, List.getD_eq_getElem?_getD, ht]
   rfl
  have c2 : (gU ls q).tree = 10000 * (j : Int) + (classI u q.node.f2 : Int) := by
   unfold gU
   dsimp only
   rw [hj, Int.toNat_natCast, List.getD_eq_getElem?_getD, hu]
   rfl
  have l1 := classI_lt (l := e.node.f2) hm
  have l2 := classI_lt (l := q.node.f2) hn
  have b1 := (good_parts g).2.2.1
  have b2 := (good_parts k).2.2.1
  rw [c1, c2, hi, hj]
  constructor
  ·rintro ⟨h, _⟩
   obtain rfl : j = i := by omega
   rw [ht] at hu
   cases hu
   exact ⟨rfl, classI_inj y1 z1 (by omega)⟩
  ·rintro ⟨h, h2⟩
   obtain rfl : j = i := by omega
   rw [ht] at hu
   cases hu
   exact ⟨by rw [h2], rfl⟩
theorem nodup_of_toE {l : List Cls} {s : PL} {g : PEnt → PEnt} (hp : ∀ e, (g e).path = e.path) (h : l.map toE = s.map g) (hn : NodupE s) : (l.map (fun x => x.f0.f0)).Nodup := by
 have h1 : l.map (fun x => x.f0.f0) = (l.map toE).map (fun e => e.path) := by rw [List.map_map]; rfl
 have h2 : (s.map g).map (fun e => e.path) = s.map (fun e => e.path) := by rw [List.map_map]; exact List.map_congr_left (fun e _ => hp e)
 rw [h1, h, h2]
 exact hn
def fromK (t : List Node) (ps : List ByteArray) : PL := (t.filter (fun x => inL ps x.f0)).map (fun x => ⟨x.f0, x, 0⟩)
theorem keepC_toE (t : List Node) (ps : List ByteArray) : (keepC t ps).map toE = (fromK t ps).map (gU [t]) := by
 unfold keepC fromK classesR
 rw [List.filter_map, List.map_map, List.map_map]
 refine List.map_congr_left (fun x _ => ?_)
 show toE ⟨x, 0 + (classI t x.f2 : Int)⟩ = gU [t] ⟨x.f0, x, 0⟩
 unfold toE gU
 dsimp only
 rfl
theorem fromK_nodup {t : List Node} (hr : riseB t = true) (ps : List ByteArray) : NodupE (fromK t ps) := by
 unfold NodupE fromK
 rw [List.map_map]
 have := paths_nodup hr
 exact List.Sublist.nodup (List.Sublist.map _ List.filter_sublist) this
theorem keep_sorted {t : List Node} (hg : goodTree t = true) (ps : List ByteArray) : sortedF (keepC t ps) = (keepF t ps).1 := by
 have hr := (good_parts hg).1
 have hn := fromK_nodup hr ps
 have hm : ∀ e, e ∈ fromK t ps ↔ ∃ x ∈ t, inL ps x.f0 = true ∧ e = ⟨x.f0, x, 0⟩ := fun e => by
  unfold fromK
  rw [List.mem_map]
  constructor
  ·rintro ⟨x, hx, rfl⟩
   rw [List.mem_filter] at hx
   exact ⟨x, hx.1, hx.2, rfl⟩
  ·rintro ⟨x, h1, h2, rfl⟩
   exact ⟨x, List.mem_filter.2 ⟨h1, h2⟩, rfl⟩
 have hk : keepF t ps = (treeE (keepPile t ps), 0) := by unfold keepF; rw [if_pos hg]
 have hkn : NodupE (keepPile t ps) := keep_nodup t ps List.nodup_nil
 have hat := fun p => atE_keep t ps [] p
 have hs : sortE (fromK t ps) = sortE (keepPile t ps) := by
  refine riseE_unique (sortE_rise hn) (sortE_rise hkn) (fun e => ?_)
  rw [sortE_mem, sortE_mem, hm]
  constructor
  ·rintro ⟨x, h1, h2, rfl⟩
   have h3 := hat x.f0
   rw [findF_here hr h1, if_pos ⟨h2, rfl⟩] at h3
   exact (atE_mem h3).1
  ·intro he
   have h3 := atE_of hkn he
   unfold keepPile at h3
   rw [hat] at h3
   split at h3
   ·rename_i hc
    cases hf : findF t e.path with
    | none => rw [hf] at hc; exact absurd hc.2 (by decide)
    | some x =>
     rw [hf] at h3
     obtain ⟨m1, m2⟩ := findF_mem hf
     refine ⟨x, m1, by rw [m2]; exact hc.1, ?_⟩
     rw [m2]
     exact (Option.some.inj h3).symm
   ·cases h3
 rw [hk, sortedF_tree (nodup_of_toE (g := gU [t]) (fun _ => rfl) (keepC_toE t ps) hn), keepC_toE, treeE_map (gU_renames (fun e he => ?_))]
 ·unfold treeE
  rw [hs]
 ·obtain ⟨x, h1, _, rfl⟩ := (hm e).1 he
  exact ⟨0, t, rfl, rfl, hg, h1⟩
end Go.Proofs.YtfmphccoeinhcaaDoor

namespace Go.Proofs.YtfmphccoeinhcaaDoor
open Go.RowKit Go.Maps Go.Proofs.YtfmphccoeinhcaaDoor.Print Go.Proofs.YtfmphccoeinhcaaDoorW.PrintWords Go.Proofs.YtfmphccoeinhcaaDoorW.PrintLast Go.Proofs.YtfmphccoeinhcaaDoorW.PrintMore
set_option linter.unusedVariables false
set_option linter.unusedSimpArgs false
abbrev sortedwA_0 : Array Bool := #[false, false, false, false, false, false, false, false, false, false, false, false, false, false, false, false, false, false]
abbrev sortedwA_1 : Array Bool := tb_ 18 1
abbrev sortedwA_2 : Array Bool := tb_ 18 3
abbrev sortedwA_3 : Array Bool := tb_ 18 7
abbrev sortedwA_4 : Array Bool := tb_ 18 15
abbrev sortedwA_5 : Array Bool := tb_ 18 31
abbrev sortedwA_6 : Array Bool := tb_ 18 63
abbrev sortedwA_7 : Array Bool := tb_ 18 127
abbrev sortedwA_8 : Array Bool := tb_ 18 255
abbrev sortedwA_9 : Array Bool := tb_ 18 511
abbrev sortedwA_10 : Array Bool := tb_ 18 1023
abbrev sortedwA_11 : Array Bool := tb_ 18 2047
abbrev sortedwA_12 : Array Bool := tb_ 18 4095
abbrev sortedwA_13 : Array Bool := tb_ 18 8191
abbrev sortedwA_14 : Array Bool := tb_ 18 16383
abbrev sortedwA_15 : Array Bool := tb_ 18 32767
abbrev sortedwA_16 : Array Bool := tb_ 18 65535
abbrev sortedwA_17 : Array Bool := tb_ 18 131071
abbrev sortedwA_18 : Array Bool := tb_ 18 262143
theorem infoCls : (Tryd.prog.info? 60).map (fun i => (i.zero, i.size, i.bytes)) = some (some (.agg #[(.string ⟨#[]⟩), (.string ⟨#[]⟩), (.string ⟨#[]⟩), (.int .u8 0), (.int .i64 0), (.int .i64 0), (.int .i64 0), (.int .i64 0), (.slice none 0 0), (.int .i64 0)]), 10, 120) := by kernel_rfl
def clsCells (x : Cls) (v : Value) : List Value := [.string x.f0.f0, .string x.f0.f1, .string x.f0.f2, .int .u8 x.f0.f3, .int .i64 x.f0.f4.f0, .int .i64 x.f0.f4.f1, .int .i64 x.f0.f4.f2, .int .i64 x.f0.f4.f3, v, .int .i64 x.f1]
theorem cls_elem {W : World} {base g n cap : Nat} {ok : Nat → Prop} {xs : List Cls} (h : Kd.N k60 60 W base ok (.slice (some ⟨g, 0, none⟩) n cap) xs) (i : Nat) (hi : i < xs.length) (hn : n = xs.length) :
  ∃ A c, (∀ j u, (clsCells xs[i] (.slice A xs[i].f0.f5.length c))[j]? = some u → W.cell? ⟨g, i * 10 + j, none⟩ = some u) ∧ (∀ j, W.frozen? ⟨g, i * 10 + j, none⟩ = false) ∧ xs[i].f0.f5.length ≤ c ∧ Kd.F (Kd.int .u8) W (fun k => ok k ∧ k ≠ g) A xs[i].f0.f5.length xs[i].f0.f5 ∧
   Kd.FK k60 W (fun k => ok k ∧ k ≠ g) xs[i] (clsCells xs[i] (.slice A xs[i].f0.f5.length c)) := by
 obtain ⟨c, hcl, hF, hcc, hfr⟩ := Kd.N_elem h z60 (i : Int) (by omega) (by omega)
 have e : xs.getD ((i : Int)).toNat z60 = xs[i] := by rw [Int.toNat_natCast, List.getD_eq_getElem?_getD, List.getElem?_eq_getElem hi]; rfl
 rw [e] at hF
 simp only [Int.toNat_natCast] at hcc hfr
 obtain ⟨A, c', rfl, hl, hf⟩ := k60_openF hF
 exact ⟨A, c', hcc, hfr, hl, hf, hF⟩
theorem made_cls (W : World) (base : Nat) (hb : base ≤ W.heap.size := by exact Nat.le_refl _) : Kd.N k60 60 (W.alloc (.cells #[] 60)) base (fun k => W.heap.size ≤ k) (.slice (some ⟨W.heap.size, 0, none⟩) 0 0) [] :=
 ⟨fun k hk => by simp [Value.ownBlock] at hk; omega, [], rfl, ⟨fun k hk => hk.symm, [], World.ownsRow_made W #[] 0 hb (Nat.zero_le _) rfl, Reps.none _ _⟩, fun j x c h => by simp at h⟩
theorem cls_len (x : Cls) (v : Value) : (clsCells x v).length = 10 := rfl
theorem N_put {W : World} {base g n cap : Nat} {ok : Nat → Prop} {xs : List Cls} (h : Kd.N k60 60 W base ok (.slice (some ⟨g, 0, none⟩) n cap) xs) (i : Nat) (hi : i < xs.length) (hn : n = xs.length) {x : Cls} {v : Value}
  (hx : Kd.FK k60 W (fun k => ok k ∧ k ≠ g) x (clsCells x v)) :
  Kd.N k60 60 (W.setCells g (i * 10) (clsCells x v)) base ok (.slice (some ⟨g, 0, none⟩) n cap) (xs.set i x) ∧ W.grownBy (W.setCells g (i * 10) (clsCells x v)) (some g) := by
 obtain ⟨_, _, hc1, _, _, _, _⟩ := cls_elem h i hi hn
 obtain ⟨h1, g1⟩ := Kd.N_seg h (i : Int) (by omega) (by omega) (cls_len _ _) (by simp only [Int.toNat_natCast]; exact hc1) (seg := clsCells x v) (j := 0) (x' := x) (okp := fun k => ok k ∧ k ≠ g) (Nat.le_refl _) (by exact hx) (fun k hk => hk)
 simp only [Int.toNat_natCast, Nat.add_zero] at h1 g1
 exact ⟨h1, g1⟩
theorem cls_facts {W : World} {g o : Nat} {x : Cls} {v : Value} (h : ∀ j u, (clsCells x v)[j]? = some u → W.cell? ⟨g, o + j, none⟩ = some u) : W.cell? ⟨g, o, none⟩ = some (.string x.f0.f0) ∧ W.cell? ⟨g, o + 1, none⟩ = some (.string x.f0.f1) ∧ W.cell? ⟨g, o + 2, none⟩ = some (.string x.f0.f2) ∧ W.cell? ⟨g, o + 3, none⟩ = some (.int .u8 x.f0.f3) ∧
  W.cell? ⟨g, o + 4, none⟩ = some (.int .i64 x.f0.f4.f0) ∧ W.cell? ⟨g, o + 5, none⟩ = some (.int .i64 x.f0.f4.f1) ∧ W.cell? ⟨g, o + 6, none⟩ = some (.int .i64 x.f0.f4.f2) ∧ W.cell? ⟨g, o + 7, none⟩ = some (.int .i64 x.f0.f4.f3) ∧ W.cell? ⟨g, o + 8, none⟩ = some v ∧ W.cell? ⟨g, o + 9, none⟩ = some (.int .i64 x.f1) :=
 ⟨h 0 _ rfl, h 1 _ rfl, h 2 _ rfl, h 3 _ rfl, h 4 _ rfl, h 5 _ rfl, h 6 _ rfl, h 7 _ rfl, h 8 _ rfl, h 9 _ rfl⟩
def SRow (W wr : World) (M : Nat) (v : Value) (xs : List Cls) : Prop := Kd.N k60 60 wr W.heap.size (fun k => k < M) v xs ∧ Below W.heap.size W wr ∧ M ≤ wr.heap.size
theorem SRow.below {W wr w1 : World} {M : Nat} {v : Value} {xs : List Cls} (h : SRow W wr M v xs) (hb : Below wr.heap.size wr w1) : SRow W w1 M v xs :=
 ⟨Kd.N_below h.1 hb, h.2.1.trans (hb.mono h.2.1.size), Nat.le_trans h.2.2 hb.size⟩
def SRel1 (l : List Cls) (W : World) (M : Nat) (v : Value) (i : Int) (wr : World) : Prop := 1 ≤ i ∧ (i ≤ l.length ∨ i = 1) ∧ SRow W wr M v (sortC (l.take i.toNat) ++ l.drop i.toNat)
def SRel2 (l : List Cls) (W : World) (M : Nat) (v : Value) (i : Nat) (hi : i < l.length) (k : Int) (wr : World) : Prop :=
 0 ≤ k ∧ ∃ a b, sortC (l.take i) = a ++ b ∧ (a.length : Int) = k ∧ (∀ y ∈ b, lt l[i].f0.f0 y.f0.f0 = true) ∧ SRow W wr M v (a ++ l[i] :: (b ++ l.drop (i + 1)))
theorem sortC_take {l : List Cls} {i : Nat} (hi : i < l.length) : sortC (l.take (i + 1)) = insR l[i] (sortC (l.take i)) := by
 unfold sortC
 rw [List.take_succ_eq_append_getElem hi, List.foldl_append]
 rfl
theorem sortC_len (l : List Cls) : (sortC l).length = l.length := (sortC_perm l).length_eq
theorem srel2_exit {l : List Cls} {W : World} {M : Nat} {v : Value} {i : Nat} {hi : i < l.length} {k : Int} {wr : World} (h : SRel2 l W M v i hi k wr) (hex : ∀ a b y, sortC (l.take i) = a ++ b → (a.length : Int) = k → a.getLast? = some y → lt l[i].f0.f0 y.f0.f0 = false) (hi1 : 1 ≤ i) : SRel1 l W M v ((i : Int) + 1) wr := by
 obtain ⟨h0, a, b, h1, h2, h3, h4⟩ := h
 refine ⟨by omega, .inl (by omega), ?_⟩
 have e : ((i : Int) + 1).toNat = i + 1 := by omega
 rw [e, sortC_take hi, h1, insR_at _ _ _ h3 (fun y hy => hex a b y h1 h2 hy), List.append_assoc, List.cons_append]
 exact h4
theorem turn_row {a b : List Cls} {x y : Cls} {r : List Cls} (a' : List Cls) (ha : a = a' ++ [y]) : (((a ++ x :: (b ++ r)).set (a'.length + 1) y).set a'.length x) = a' ++ x :: ((y :: b) ++ r) := by
 subst ha
 have e1 : a' ++ [y] ++ x :: (b ++ r) = a' ++ (y :: x :: (b ++ r)) := by simp
 rw [e1, List.set_append, if_neg (by omega), show a'.length + 1 - a'.length = 1 from by omega]
 simp only [List.set_cons_succ, List.set_cons_zero]
 rw [List.set_append, if_neg (by omega), Nat.sub_self]
 simp
theorem outs_snoc {s : List Cls} {n : Nat} (hn : n < s.length) : (s.mapIdx (fun i x => outC s i x)).take (n + 1) = (s.mapIdx (fun i x => outC s i x)).take n ++ [outC s n s[n]] := by
 rw [List.take_succ_eq_append_getElem (by rw [List.length_mapIdx]; exact hn), List.getElem_mapIdx]
def SRel3 (s : List Cls) (W : World) (M : Nat) (v : Value) (i : Int) (o : Value) (wr : World) : Prop :=
 0 ≤ i ∧ i ≤ s.length ∧ SRow W wr M v s ∧ Kd.N k38 38 wr W.heap.size (fun k => M ≤ k ∧ k < wr.heap.size) o ((s.mapIdx (fun i x => outC s i x)).take i.toNat)
theorem first_here {s : List Cls} {n k : Nat} (hk : k ≤ n) (hn : n < s.length) {x : Cls} (h48 : x.f0.f3 = 48) (hm : (s[k]'(by omega)).f0.f3 = 48 ∧ (s[k]'(by omega)).f1 = x.f1) (hno : ∀ (j : Nat) (hj : j < k), ¬ ((s[j]'(by omega)).f0.f3 = 48 ∧ (s[j]'(by omega)).f1 = x.f1)) : leadC s n x = (s[k]'(by omega)).f0.f0 := by
 unfold leadC
 rw [if_pos h48]
 have hf : (s.take (n + 1)).find? (fun y => decide (y.f0.f3 = 48 ∧ y.f1 = x.f1)) = some (s[k]'(by omega)) := by
  rw [List.find?_eq_some_iff_getElem]
  refine ⟨decide_eq_true hm, k, by rw [List.length_take]; omega, by rw [List.getElem_take], fun j hj => ?_⟩
  rw [List.getElem_take, Bool.not_eq_true', decide_eq_false_iff_not]
  exact hno j hj
 rw [hf]
def SRel4 (s : List Cls) (n : Nat) (x : Cls) (k : Int) : Prop := 0 ≤ k ∧ ∀ (q : Nat), (q : Int) < k → ∀ (hq : q < s.length), ¬ (s[q].f0.f3 = 48 ∧ s[q].f1 = x.f1)
def boxCells (x : Cls) (ldr : ByteArray) (v : Value) : Array Value := #[.string x.f0.f0, .string x.f0.f1, .string ldr, .int .u8 x.f0.f3, .int .i64 x.f0.f4.f0, .int .i64 x.f0.f4.f1, .int .i64 x.f0.f4.f2, .int .i64 x.f0.f4.f3, v]
def SMid (s : List Cls) (W : World) (M : Nat) (v o : Value) (outs : List Node) (x : Cls) (A : Option Addr) (c b : Nat) (ldr : ByteArray) (wz : World) : Prop :=
 SRow W wz M v s ∧ Kd.N k38 38 wz W.heap.size (fun k => M ≤ k ∧ k < b) o outs ∧ wz.heap[b]? = some (.cells (boxCells x ldr (.slice A x.f0.f5.length c)) 38 (0, 0)) ∧ Kd.F (Kd.int .u8) wz (fun k => k < M) A x.f0.f5.length x.f0.f5 ∧ wz.heap.size = b + 1 ∧ M ≤ b
theorem fcell' {w : World} {p : Addr} {v : Value} (h : w.cell? p = some v) (o : Obj) : (w.alloc o).cell? p = some v := ((below_alloc (Below.refl _ _) o).cell (World.block_lt_of_cell? w _ h)).trans h
theorem box_facts {w : World} {b : Nat} {x : Cls} {ldr : ByteArray} {v : Value} (h : w.heap[b]? = some (.cells (boxCells x ldr v) 38 (0, 0))) :
  w.cell? ⟨b, 0, none⟩ = some (.string x.f0.f0) ∧ w.cell? ⟨b, 1, none⟩ = some (.string x.f0.f1) ∧ w.cell? ⟨b, 2, none⟩ = some (.string ldr) ∧ w.cell? ⟨b, 3, none⟩ = some (.int .u8 x.f0.f3) ∧ w.cell? ⟨b, 4, none⟩ = some (.int .i64 x.f0.f4.f0) ∧ w.cell? ⟨b, 5, none⟩ = some (.int .i64 x.f0.f4.f1) ∧
   w.cell? ⟨b, 6, none⟩ = some (.int .i64 x.f0.f4.f2) ∧ w.cell? ⟨b, 7, none⟩ = some (.int .i64 x.f0.f4.f3) ∧ w.cell? ⟨b, 8, none⟩ = some v := by
 refine ⟨?_, ?_, ?_, ?_, ?_, ?_, ?_, ?_, ?_⟩ <;> · unfold World.cell?; dsimp only; rw [h]; rfl
theorem box_soft {w : World} {b : Nat} {x : Cls} {ldr : ByteArray} {v : Value} (h : w.heap[b]? = some (.cells (boxCells x ldr v) 38 (0, 0))) (j : Nat) : w.frozen? ⟨b, j, none⟩ = false := by
 unfold World.frozen?
 dsimp only
 rw [h]
 rfl
theorem made_u8 (W : World) (base : Nat) (hb : base ≤ W.heap.size) : Kd.R (Kd.int .u8) 5 (W.alloc (.cells #[] 5)) base (fun k => W.heap.size ≤ k) (.slice (some ⟨W.heap.size, 0, none⟩) 0 0) [] :=
 ⟨fun k hk => by simp [Value.ownBlock] at hk; omega, [], World.ownsRow_made W #[] 0 hb (Nat.zero_le _) rfl, Reps.none _ _⟩
theorem cell_over (wz w5 : World) (o : Obj) {n c b : Nat} (hg : (wz.alloc o).grownBy w5 (Value.slice (some ⟨wz.heap.size, 0, none⟩) n c).ownBlock) (hb : b < wz.heap.size) (q : Nat) : w5.cell? ⟨b, q, none⟩ = wz.cell? ⟨b, q, none⟩ := by
 have h1 := hg.block b (by rw [World.size_alloc]; omega) (by simp [Value.ownBlock]; omega)
 have h2 : (wz.alloc o).heap[b]? = wz.heap[b]? := (below_alloc (Below.refl _ _) o).block b hb
 unfold World.cell?
 dsimp only
 rw [h1, h2]
theorem froz_over (wz w5 : World) (o : Obj) {n c b : Nat} (hg : (wz.alloc o).grownBy w5 (Value.slice (some ⟨wz.heap.size, 0, none⟩) n c).ownBlock) (hb : b < wz.heap.size) (q : Nat) : w5.frozen? ⟨b, q, none⟩ = wz.frozen? ⟨b, q, none⟩ := by
 have h1 := hg.block b (by rw [World.size_alloc]; omega) (by simp [Value.ownBlock]; omega)
 have h2 : (wz.alloc o).heap[b]? = wz.heap[b]? := (below_alloc (Below.refl _ _) o).block b hb
 unfold World.frozen?
 dsimp only
 rw [h1, h2]
theorem tail_mid {W wz w5 : World} {M b n c : Nat} {v o : Value} {ob : Obj} {s : List Cls} {outs : List Node} {A5 : Option Addr} {c5 : Nat} {body : List Int} (tS : SRow W wz M v s) (tO : Kd.N k38 38 wz W.heap.size (fun k => M ≤ k ∧ k < b) o outs) (hR : Kd.R (Kd.int .u8) 5 w5 W.heap.size (fun k => wz.heap.size ≤ k) (.slice A5 body.length c5) body)
  (hG : (wz.alloc ob).grownBy w5 (Value.slice (some ⟨wz.heap.size, 0, none⟩) n c).ownBlock) (hB : Below W.heap.size W w5) (hb : b < wz.heap.size) (tz : wz.heap.size = b + 1) (tM : M ≤ b) (u : Value) (hW : W.heap.size ≤ M) :
  SRow W (w5.setCell ⟨b, 8, none⟩ u) M v s ∧ Kd.N k38 38 (w5.setCell ⟨b, 8, none⟩ u) W.heap.size (fun k => M ≤ k) o outs ∧ Kd.F (Kd.int .u8) (w5.setCell ⟨b, 8, none⟩ u) (fun k => wz.heap.size ≤ k) A5 body.length body ∧ Below W.heap.size W (w5.setCell ⟨b, 8, none⟩ u) := by
 have hsz := hG.size
 rw [World.size_alloc] at hsz
 have hne : ∀ k, k < wz.heap.size → some k ≠ (Value.slice (some ⟨wz.heap.size, 0, none⟩) n c).ownBlock := fun k hk e => by
  have : k = wz.heap.size := by simpa [Value.ownBlock] using e
  omega
 have hB2 : Below W.heap.size W (w5.setCell ⟨b, 8, none⟩ u) := below_put hB _ _ (by omega) _
 refine ⟨⟨?_, hB2, ?_⟩, ?_, ?_, hB2⟩
 ·exact Kd.N_far (Kd.N_grown (Kd.N_alloc tS.1 ob) hG (fun k hk => hne k (by omega))) (p := ⟨b, 8, none⟩) (fun k hk e => by have e' : k = b := e; omega) u
 ·rw [World.size_setCell]; have := tS.2.2; omega
 ·exact Kd.N_mono (Kd.N_far (Kd.N_grown (Kd.N_alloc tO ob) hG (fun k hk => hne k (by omega))) (p := ⟨b, 8, none⟩) (fun k hk e => by have e' : k = b := e; omega) u) (fun k hk => hk.1)
 ·exact Kd.F_far (Kd.R_F hR) (p := ⟨b, 8, none⟩) (fun k hk e => by have e' : k = b := e; omega) u
theorem tail_row {W w1 w6 wz : World} {M b : Nat} {v o : Value} {s : List Cls} {outs : List Node} (mS : SRow W w1 M v s) (hg : w1.grownBy w6 o.ownBlock) (tO : Kd.N k38 38 wz W.heap.size (fun k => M ≤ k ∧ k < b) o outs) : SRow W w6 M v s :=
 ⟨Kd.N_grown mS.1 hg (fun k hk e => by have := (tO.1 k e.symm).1; omega), mS.2.1.grown hg mS.2.1.size (fun j hj => Kd.N_base tO j hj), by have := hg.size; have := mS.2.2; omega⟩
set_option maxRecDepth 100000 in
set_option maxHeartbeats 8000000 in
theorem Sorted_calls (A0 : Option Addr) (c0 : Nat) (l : List Cls) (W : World) (hC : Kd.C k60 W A0 l.length l) (hlen : l.length ≤ 1000000000000) (hz : ∀ x ∈ l, x.f0.f5.length ≤ 140737488351232) :
  Calls Tryd.prog 29 #[.slice A0 l.length c0] W fun e W' => ∃ v, e = .returned v ∧ Kd.N k38 38 W' W.heap.size (fun k => W.heap.size ≤ k) v (sortedF l) ∧ Below W.heap.size W W' := by
 have hF := Kd.C_F k60_heap hC
 have HF := Aside0.mk hF
 have HZ := Aside0.mk hz
 have hlI : (l.length : Int) ≤ 1000000000000 := by omega
 clear hC hz hF
 generalize hpost : (fun (e : Ending) (W' : World) => ∃ v, e = .returned v ∧ Kd.N k38 38 W' W.heap.size (fun k => W.heap.size ≤ k) v (sortedF l) ∧ Below W.heap.size W W') = Q
 have hQ := Aside0.mk hpost
 clear hpost
 go_enter Tryd.func29, Tryd.ntmps29
 go_wp2_with (at_builtin; refine Kd.N_append_rows k60 (w0 := W) W.heap.size rfl (.tmp 9) (.tmp 10) 55 60 _ 120 rfl Tryd.underlying55 infoCls rfl (by decide) (by decide) (.slice (some ⟨W.heap.size, 0, none⟩) 0 0) [] l A0 l.length c0 (fun _ => True) (fun k => k < W.heap.size) rfl rfl ?hO (Kd.F_alloc HF.out _) (fun k hk => ⟨trivial, fun e => by have e' : k = W.heap.size := (by simpa [Value.ownBlock] using e); omega⟩) (fun _ _ => trivial) (below_alloc (Below.refl _ _) _) (by simp) (by simp; omega) ?_; (case hO => exact Kd.N_mono (made_cls W W.heap.size) (fun _ _ => trivial)); intro v1 w1 hN1 hB1 hg1 hat1; rw [List.nil_append] at hN1; obtain ⟨A1, c1, rfl⟩ := Kd.N_slice hN1; have HN1 := Aside0.mk hN1; have HB1 := Aside0.mk hB1; clear hN1 hB1 hg1 hat1)
 have hrow : SRow W w1 w1.heap.size (.slice A1 l.length c1) l := ⟨Kd.N_mono (Kd.N_bound HN1.out) (fun k hk => hk.2), HB1.out, Nat.le_refl _⟩
 have hMW : W.heap.size ≤ w1.heap.size := HB1.out.size
 generalize hMe : w1.heap.size = M at hrow hMW
 have HROW := Aside0.mk hrow
 clear hrow HN1 HB1 hMe
 go_loopw [3] (fun i wr => ∃ n : Int, i = .int .i64 n ∧ Aside0 (SRel1 l W M (.slice A1 l.length c1) n wr)) (fun i _ => (l.length - (intOf i)).toNat)
 case atStart =>
  refine ⟨1, rfl, ⟨⟨by omega, .inr rfl, ?_⟩⟩⟩
  have e : sortC (l.take (1 : Int).toNat) ++ l.drop (1 : Int).toNat = l := by
   cases l with
   | nil => rfl
   | cons x l => rfl
  rw [e]
  exact HROW.out
 case round =>
  obtain ⟨n, rfl, HR⟩ := hrel
  have h0 := HR.out.1
  by_cases hlt : n < (l.length : Int)
  ·have c1b : decide (n < (l.length : Int)) = true := decide_eq_true hlt
   have hil : n.toNat < l.length := by omega
   have hstart : SRel2 l W M (.slice A1 l.length c1) n.toNat hil n wr := by
    refine ⟨by omega, sortC (l.take n.toNat), [], by rw [List.append_nil], ?_, fun y hy => (by cases hy), ?_⟩
    ·rw [sortC_len, List.length_take]; omega
    ·have := HR.out.2.2
     rw [List.drop_eq_getElem_cons hil] at this
     simpa using this
   have HST := Aside0.mk hstart
   have hnN : ((n.toNat : Nat) : Int) = n := by omega
   have HNN := Aside0.mk hnN
   clear hstart hnN
   go_wp2
   go_loopw [4] (fun i wr => ∃ k : Int, i = .int .i64 k ∧ Aside0 (SRel2 l W M (.slice A1 l.length c1) n.toNat hil k wr)) (fun i _ => (intOf i).toNat)
   case atStart => exact ⟨n, rfl, HST⟩
   case round =>
    obtain ⟨k, rfl, HR2⟩ := hrel
    have hk0 := HR2.out.1
    have HEX := Aside0.mk (fun (w2 : World) (hb : Below wr.heap.size wr w2) => (⟨hk0, by obtain ⟨a, b, h1, h2, h3, h4⟩ := HR2.out.2; exact ⟨a, b, h1, h2, h3, h4.below hb⟩⟩ : SRel2 l W M (.slice A1 l.length c1) n.toNat hil k w2))
    by_cases hkz : k = 0
    ·have g1 : decide (0 < k) = false := decide_eq_false (by omega)
     have g2 : decide (k > 0) = false := decide_eq_false (by omega)
     have HKZ := Aside0.mk hkz
     clear hkz
     go_upto_region 6 with (fail)
     go_quiet (fail)
     have hfin : SRel1 l W M (.slice A1 l.length c1) (n + 1) (wr.drewN nq) := by
      have h := srel2_exit (HEX.out _ (pw_below_drewN (Below.refl _ _) nq)) (fun a b y h1 h2 h3 => by
       have h4 := HKZ.out
       have : a = [] := List.eq_nil_of_length_eq_zero (by omega)
       rw [this] at h3
       cases h3) (by omega)
      rw [HNN.out] at h
      exact h
     have HF := Aside0.mk hfin
     clear hfin
     go_wp2
     go_roundw
     case rel => exact ⟨n + 1, by go_num, HF⟩
     case measure => simp [intOf]; omega
    ·have g1 : decide (0 < k) = true := decide_eq_true (by omega)
     have g2 : decide (k > 0) = true := decide_eq_true (by omega)
     obtain ⟨a, b, ha, hal, hbl, hS⟩ := HR2.out.2
     obtain ⟨a', y, haa⟩ : ∃ a' y, a = a' ++ [y] := by
      refine ⟨a.dropLast, a.getLast (fun e => by rw [e] at hal; simp at hal; omega), ?_⟩
      exact (List.dropLast_concat_getLast _).symm
     obtain ⟨j, hj⟩ : ∃ j, j = k - 1 := ⟨_, rfl⟩
     have hal' : a'.length = j.toNat := by rw [haa, List.length_append, List.length_singleton] at hal; omega
     have hxl := (Kd.N_reads' hS.1).1
     obtain ⟨g, cap, hv, hg0, hg1, _⟩ := Kd.N_form hS.1 (by omega)
     rw [← hxl] at hv
     cases hv
     have hkl : k < (l.length : Int) := by
      rw [List.length_append, List.length_cons, List.length_append, List.length_drop] at hxl
      omega
     have hjn : j.toNat + 1 = k.toNat := by omega
     have hjl : j < (l.length : Int) := by omega
     have hj0 : 0 ≤ j := by omega
     have hi1 : k.toNat < (a ++ l[n.toNat] :: (b ++ l.drop (n.toNat + 1))).length := by omega
     have hi2 : j.toNat < (a ++ l[n.toNat] :: (b ++ l.drop (n.toNat + 1))).length := by omega
     have hxe : (a ++ l[n.toNat] :: (b ++ l.drop (n.toNat + 1)))[k.toNat] = l[n.toNat] := by
      have hka : a.length = k.toNat := by omega
      simp [List.getElem_append, hka]
     have hye : (a ++ l[n.toNat] :: (b ++ l.drop (n.toNat + 1)))[j.toNat] = y := by
      subst haa
      simp [List.getElem_append, hal']
     obtain ⟨Ax, cx, fx, rx, lx, _, kx⟩ := cls_elem hS.1 k.toNat hi1 hxl
     obtain ⟨Ay, cy, fy, ry, ly, _, ky⟩ := cls_elem hS.1 j.toNat hi2 hxl
     rw [hxe] at fx lx kx
     rw [hye] at fy ly ky
     generalize hxs : a ++ l[n.toNat] :: (b ++ l.drop (n.toNat + 1)) = xs at hS hxl hi1 hi2 hxe hye
     generalize hx : l[n.toNat] = x at fx lx kx hbl hxe
     obtain ⟨x0, x1, x2, x3, x4, x5, x6, x7, x8, x9⟩ := cls_facts fx
     obtain ⟨y0, y1, y2, y3, y4, y5, y6, y7, y8, y9⟩ := cls_facts fy
     have rx0 := rx 0
     have ry0 := ry 0
     rw [Nat.add_zero] at rx0 ry0
     have HS := Aside0.mk hS
     have HXS := Aside0.mk hxs
     have HX := Aside0.mk hx
     have HHX := Aside0.mk hxe
     have HHY := Aside0.mk hye
     have HXL := Aside0.mk hxl
     have KX := Aside0.mk kx
     have KY := Aside0.mk ky
     have HA := Aside0.mk ha
     have HAA := Aside0.mk haa
     have HAL := Aside0.mk hal'
     have HBL := Aside0.mk hbl
     have HJN := Aside0.mk hjn
     have HJ := Aside0.mk hj
     have hw64 : wrap64 (k - 1) = j := by unfold wrap64; omega
     have hwi : IntKind.i64.wrap (k - 1) = j := by rw [IntKind.wrap_i64]; omega
     clear hS hxs hx hxe hye hxl kx ky ha haa hal hal' hbl hjn fx fy hkz
     cases hls : Op.bytesLess x.f0.f0.toList y.f0.f0.toList with
     | false =>
      clear hj
      go_upto_region 6 with (fail)
      go_quiet (fail)
      have hfin : SRel1 l W M (.slice (some ⟨g, 0, none⟩) l.length c1) (n + 1) (wr.drewN nq) := by
       have h := srel2_exit (HEX.out _ (pw_below_drewN (Below.refl _ _) nq)) (fun a2 b2 y2 h1 h2 h3 => by
        have e1 : a2 = a := by
         have h4 := HA.out
         rw [h1] at h4
         have hl2 : a2.length = a.length := by
          have := HAL.out; have := HJ.out
          rw [HAA.out, List.length_append, List.length_singleton]
          omega
         exact (List.append_inj h4 hl2).1
        rw [e1, HAA.out, List.getLast?_append] at h3
        simp at h3
        subst h3
        rw [HX.out]
        exact hls) (by omega)
       rw [HNN.out] at h
       exact h
      have HF := Aside0.mk hfin
      clear hfin hw64 hwi
      go_wp2
      go_roundw
      case rel => exact ⟨n + 1, by go_num, HF⟩
      case measure => simp [intOf]; omega
     | true =>
      clear hj
      go_upto_region 6 with (fail)
      go_quiet (fail)
      go_upto_region 8 with (fail)
      refine start_ (n := 18) (S := fun w' => w'.cell? ⟨g, j.toNat * 10, none⟩ = some (.string y.f0.f0) ∧ w'.cell? ⟨g, j.toNat * 10 + 1, none⟩ = some (.string y.f0.f1) ∧ w'.cell? ⟨g, j.toNat * 10 + 2, none⟩ = some (.string y.f0.f2) ∧ w'.cell? ⟨g, j.toNat * 10 + 3, none⟩ = some (.int .u8 y.f0.f3) ∧ w'.cell? ⟨g, j.toNat * 10 + 4, none⟩ = some (.int .i64 y.f0.f4.f0) ∧ w'.cell? ⟨g, j.toNat * 10 + 5, none⟩ = some (.int .i64 y.f0.f4.f1) ∧ w'.cell? ⟨g, j.toNat * 10 + 6, none⟩ = some (.int .i64 y.f0.f4.f2) ∧ w'.cell? ⟨g, j.toNat * 10 + 7, none⟩ = some (.int .i64 y.f0.f4.f3) ∧ w'.cell? ⟨g, j.toNat * 10 + 8, none⟩ = some (.slice Ay y.f0.f5.length cy) ∧ w'.cell? ⟨g, j.toNat * 10 + 9, none⟩ = some (.int .i64 y.f1) ∧ w'.cell? ⟨g, k.toNat * 10, none⟩ = some (.string x.f0.f0) ∧ w'.cell? ⟨g, k.toNat * 10 + 1, none⟩ = some (.string x.f0.f1) ∧ w'.cell? ⟨g, k.toNat * 10 + 2, none⟩ = some (.string x.f0.f2) ∧ w'.cell? ⟨g, k.toNat * 10 + 3, none⟩ = some (.int .u8 x.f0.f3) ∧ w'.cell? ⟨g, k.toNat * 10 + 4, none⟩ = some (.int .i64 x.f0.f4.f0) ∧ w'.cell? ⟨g, k.toNat * 10 + 5, none⟩ = some (.int .i64 x.f0.f4.f1) ∧ w'.cell? ⟨g, k.toNat * 10 + 6, none⟩ = some (.int .i64 x.f0.f4.f2) ∧ w'.cell? ⟨g, k.toNat * 10 + 7, none⟩ = some (.int .i64 x.f0.f4.f3) ∧ w'.cell? ⟨g, k.toNat * 10 + 8, none⟩ = some (.slice Ax x.f0.f5.length cx) ∧ w'.cell? ⟨g, k.toNat * 10 + 9, none⟩ = some (.int .i64 x.f1)) (ds := [15, 17]) sortedwA_0 (by kernel_rfl) rfl rfl ⟨by exact y0, by exact y1, by exact y2, by exact y3, by exact y4, by exact y5, by exact y6, by exact y7, by exact y8, by exact y9, by exact x0, by exact x1, by exact x2, by exact x3, by exact x4, by exact x5, by exact x6, by exact x7, by exact x8, by exact x9⟩ (fun hHeld => ?_)
      generalize hwq : World.drew _ = wq at hHeld ⊢
      have hq0 : Below wr.heap.size wr wq := by rw [← hwq]; exact below_drew (pw_below_drewN (Below.refl _ _) _)
      have hNq := HS.out.below hq0
      have put1 := N_put hNq.1 k.toNat (by omega) HXL.out (x := y) (v := .slice Ay y.f0.f5.length cy) (Kd.FK_below KY.out hq0)
      have rqx : ∀ q, wq.frozen? ⟨g, k.toNat * 10 + q, none⟩ = false := fun q => by rw [← hwq]; exact rx q
      have rqx0 : wq.frozen? ⟨g, k.toNat * 10, none⟩ = false := by rw [← hwq]; exact rx0
      have HNQ := Aside0.mk hNq
      have HQ0 := Aside0.mk hq0
      clear hNq hq0
      refine pur_ (i := 0) (N := some 39) sortedwA_1 (by kernel_rfl) ?_
      refine pur_ (i := 1) (N := some 40) sortedwA_2 (by kernel_rfl) ?_
      refine pur_ (i := 2) (N := some 41) sortedwA_3 (by kernel_rfl) ?_
      refine pur_ (i := 3) (N := some 42) sortedwA_4 (by kernel_rfl) ?_
      refine pur_ (i := 4) (N := some 43) sortedwA_5 (by kernel_rfl) ?_
      refine pur_ (i := 5) (N := some 44) sortedwA_6 (by kernel_rfl) ?_
      refine pur_ (i := 6) (N := some 45) sortedwA_7 (by kernel_rfl) ?_
      refine pur_ (i := 7) (N := some 46) sortedwA_8 (by kernel_rfl) ?_
      refine pur_ (i := 8) (N := some 47) sortedwA_9 (by kernel_rfl) ?_
      refine tak_ (i := 9) (N := some 48) sortedwA_10 (by kernel_rfl) hHeld ?_
      refine pur_ (i := 10) (N := some 49) sortedwA_11 (by kernel_rfl) ?_
      refine pur_ (i := 11) (N := some 50) sortedwA_12 (by kernel_rfl) ?_
      refine pur_ (i := 12) (N := some 51) sortedwA_13 (by kernel_rfl) ?_
      refine tak_ (i := 13) (N := some 52) sortedwA_14 (by kernel_rfl) hHeld ?_
      refine pur_ (i := 14) (N := some 53) sortedwA_15 (by kernel_rfl) ?_
      refine last_ (i := 15) (N := none) sortedwA_16 rfl rfl (by kernel_rfl) (by decide) (fun K hK => ?_)
      refine skip_ (w1 := wq.setCells g (k.toNat * 10) (clsCells y (.slice Ay y.f0.f5.length cy))) (by rfl) rfl ?_ ?_
      rotate_left
      ·refine hK.out _ _ ?_
       clear hK K
       obtain ⟨HP1, HG1⟩ := put1
       have hr2 := cls_elem HP1 j.toNat (by rw [List.length_set]; omega) (by rw [List.length_set]; exact HXL.out)
       obtain ⟨_, _, f2, r2, _, _, _⟩ := hr2
       generalize hw2 : wq.setCells g (k.toNat * 10) (clsCells y (.slice Ay y.f0.f5.length cy)) = w2 at HP1 HG1 r2 f2 ⊢
       obtain ⟨z0, z1, z2, z3, z4, z5, z6, z7, z8, z9⟩ := cls_facts f2
       have r20 := r2 0
       rw [Nat.add_zero] at r20
       have HP1 := Aside0.mk HP1
       have HG1 := Aside0.mk HG1
       clear hw2
       refine pur_ (i := 16) (N := some 54) sortedwA_17 (by kernel_rfl) ?_
       refine last_ (i := 17) (N := none) sortedwA_18 rfl rfl (by kernel_rfl) (by decide) (fun K hK => ?_)
       refine skip_ (w1 := w2.setCells g (j.toNat * 10) (clsCells x (.slice Ax x.f0.f5.length cx))) (by rfl) rfl ?_ ?_
       rotate_left
       ·refine hK.out _ _ ?_
        clear hK K
        refine done_ (by kernel_rfl) ?_
        have hput2 := N_put HP1.out j.toNat (by rw [List.length_set]; omega) (by rw [List.length_set]; exact HXL.out) (x := x) (v := .slice Ax x.f0.f5.length cx) (Kd.FK_grown (Kd.FK_below KX.out HQ0.out) HG1.out (fun q hq e => by cases e; exact hq.2 rfl))
        have hgs := HG1.out.size
        have hgs2 := hput2.2.size
        have hfin : SRel2 l W M (.slice (some ⟨g, 0, none⟩) l.length c1) n.toNat hil j (w2.setCells g (j.toNat * 10) (clsCells x (.slice Ax x.f0.f5.length cx))) := by
         refine ⟨hj0, a', y :: b, ?_, ?_, ?_, ?_, ?_, ?_⟩
         ·rw [HA.out, HAA.out]; simp
         ·have := HAL.out; omega
         ·intro z hz
          rw [HX.out]
          rcases List.mem_cons.1 hz with rfl | hz
          ·exact hls
          ·exact HBL.out z hz
         ·have e := turn_row (b := b) (x := x) (y := y) (r := l.drop (n.toNat + 1)) a' HAA.out
          have e2 := HXS.out
          rw [HX.out] at e2 ⊢
          rw [e2, HAL.out, HJN.out] at e
          rw [← e]
          exact hput2.1
         ·exact HNQ.out.2.1.grown (HG1.out.trans hput2.2) HNQ.out.2.1.size (fun q hq => by cases hq; exact hg0)
         ·have := HNQ.out.2.2
          omega
        have HF := Aside0.mk hfin
        clear hfin hput2 hwi hHeld
        generalize w2.setCells g (j.toNat * 10) (clsCells x (.slice Ax x.f0.f5.length cx)) = w3 at HF ⊢
        go_wp2
        go_roundw
        case rel => exact ⟨j, by rw [HJ.out], HF⟩
        case measure => simp [intOf]; have := HJN.out; omega
       ·go_simp
        rfl
      ·go_simp
       rfl
  ·have c1b : decide (n < (l.length : Int)) = false := decide_eq_false hlt
   have hdone : SRow W wr M (.slice A1 l.length c1) (sortC l) := by
    have h := HR.out.2.2
    rw [List.take_of_length_le (by have := HR.out.2.1; omega), List.drop_eq_nil_of_le (by have := HR.out.2.1; omega), List.append_nil] at h
    exact h
   have hsl := sortC_len l
   have hzs : ∀ x ∈ sortC l, x.f0.f5.length ≤ 140737488351232 := fun x hx => HZ.out x ((sortC_perm l).mem_iff.1 hx)
   have HZS := Aside0.mk hzs
   have HSO : Aside0 (sortedF l = (sortC l).mapIdx (fun i x => outC (sortC l) i x)) := ⟨rfl⟩
   generalize hse : sortC l = s at hdone hsl HZS HSO
   have HSL := Aside0.mk hsl
   have hstart : SRel3 s W M (.slice A1 l.length c1) 0 (.slice none 0 0) wr := ⟨by omega, by omega, hdone, Kd.N_nil _ _ _ _ _⟩
   have HST := Aside0.mk hstart
   clear hstart hdone hse hzs hsl
   go_wp2
   go_loopw [6, 5] (fun i o wr => ∃ n : Int, i = .int .i64 n ∧ Aside0 (SRel3 s W M (.slice A1 l.length c1) n o wr)) (fun i _ _ => (l.length - (intOf i)).toNat)
   case atStart => exact ⟨0, rfl, HST⟩
   case round =>
    obtain ⟨n, rfl, HR⟩ := hrel
    have h0 := HR.out.1
    have h1 := HR.out.2.1
    have hS := HR.out.2.2.1
    have hO := HR.out.2.2.2
    generalize houts : (s.mapIdx (fun i x => outC s i x)).take n.toNat = outs at hO
    obtain ⟨Ao, co, rfl⟩ := Kd.N_slice hO
    have hol : outs.length ≤ 1000000000000 := by rw [← houts, List.length_take, List.length_mapIdx]; have := HSL.out; omega
    have HOL := Aside0.mk hol
    have HOUTS := Aside0.mk houts
    have HO := Aside0.mk hO
    have HS := Aside0.mk hS
    clear hol houts hO hS
    by_cases hlt : n < (l.length : Int)
    ·have c1b : decide (n < (l.length : Int)) = true := decide_eq_true hlt
     have hnl : n.toNat < s.length := by have := HSL.out; omega
     obtain ⟨g, cap, hv, hg0, hg1, _⟩ := Kd.N_form HS.out.1 (by omega)
     rw [HSL.out] at hv
     cases hv
     have hgM : g < M := HS.out.1.1 g rfl
     obtain ⟨Ax, cx, fx, rx, lx, fF, _⟩ := cls_elem HS.out.1 n.toNat hnl HSL.out.symm
     have hxb : (s[n.toNat]).f0.f5.length ≤ 140737488351232 := HZS.out _ (List.getElem_mem _)
     have HXE : Aside0 (∀ (q : Nat) (hq : q < s.length), q = n.toNat → s[q] = s[n.toNat]) := ⟨fun q hq e => by subst e; rfl⟩
     generalize hx : s[n.toNat] = x at fx lx fF hxb HXE
     obtain ⟨x0, x1, x2, x3, x4, x5, x6, x7, x8, x9⟩ := cls_facts fx
     have HX := Aside0.mk hx
     have HF := Aside0.mk (Kd.F_mono fF (ok' := fun k => k < M) (fun k hk => hk.1))
     have HLX := Aside0.mk lx
     have hMw := HS.out.2.2
     have HXC := Aside0.mk fx
     clear fx rx lx fF hx
     have hmid : ∀ (q : Nat) (ldr : ByteArray) (wz : World), (wz = (wr.alloc (.cells (boxCells x emp (.slice Ax x.f0.f5.length cx)) 38)).drewN q ∧ ldr = emp ∨ wz = ((wr.alloc (.cells (boxCells x emp (.slice Ax x.f0.f5.length cx)) 38)).drewN q).setCell ⟨wr.heap.size, 2, none⟩ (.string ldr)) → SMid s W M (.slice (some ⟨g, 0, none⟩) l.length c1) (.slice Ao outs.length co) outs x Ax cx wr.heap.size ldr wz := by
      rintro q ldr wz (⟨rfl, rfl⟩ | rfl)
      ·have hb : Below wr.heap.size wr ((wr.alloc (.cells (boxCells x emp (.slice Ax x.f0.f5.length cx)) 38)).drewN q) := pw_below_drewN (below_alloc (Below.refl _ _) _) _
       exact ⟨HS.out.below hb, Kd.N_below HO.out hb, blk_new wr _, Kd.F_below HF.out hb, by show (wr.alloc _).heap.size = _; rw [World.size_alloc], hMw⟩
      ·have hb : Below wr.heap.size wr ((wr.alloc (.cells (boxCells x emp (.slice Ax x.f0.f5.length cx)) 38)).drewN q) := pw_below_drewN (below_alloc (Below.refl _ _) _) _
       have hb2 : Below wr.heap.size wr (((wr.alloc (.cells (boxCells x emp (.slice Ax x.f0.f5.length cx)) 38)).drewN q).setCell ⟨wr.heap.size, 2, none⟩ (.string ldr)) := below_put hb _ _ (Nat.le_refl _) _
       refine ⟨HS.out.below hb2, Kd.N_below HO.out hb2, blk_put (w := (wr.alloc (.cells (boxCells x emp (.slice Ax x.f0.f5.length cx)) 38)).drewN q) (blk_new wr _) 2 _ rfl, Kd.F_below HF.out hb2, ?_, hMw⟩
       rw [World.size_setCell]
       show (wr.alloc _).heap.size = _
       rw [World.size_alloc]
     have HMID := Aside0.mk hmid
     have hnn : (0 : Int) ≤ n := h0
     clear hmid
     by_cases h48 : x.f0.f3 = 48
     ·have e48 : (x.f0.f3 == 48) = true := beq_iff_eq.2 h48
      have H48 := Aside0.mk h48
      clear h48
      go_wp2
      go_loopw [8] (fun i w' => ∃ k : Int, i = .int .i64 k ∧ Aside0 (SRel4 s n.toNat x k ∧ k ≤ n ∧ ∃ q, w' = (wr.alloc (.cells (boxCells x emp (.slice Ax x.f0.f5.length cx)) 38)).drewN q)) (fun i _ => (n + 1 - (intOf i)).toNat)
      case atStart => exact ⟨0, rfl, ⟨⟨by omega, fun q hq hq2 => absurd hq (by omega)⟩, by omega, 0, rfl⟩⟩
      case round =>
       obtain ⟨k, rfl, HR4⟩ := hrel
       obtain ⟨hk0, hno⟩ := HR4.out.1
       have hkn := HR4.out.2.1
       obtain ⟨q4, hw4⟩ := HR4.out.2.2
       have HNO := Aside0.mk hno
       have ckn : decide (k ≤ n) = true := decide_eq_true hkn
       have hkl : k < (l.length : Int) := by omega
       have hks : k.toNat < s.length := by omega
       obtain ⟨Ak, ck, fk, _, _, _, _⟩ := cls_elem HS.out.1 k.toNat hks HSL.out.symm
       have hke : k.toNat = n.toNat → s[k.toNat] = x := fun e => HXE.out _ hks e
       generalize hyk : s[k.toNat] = y at fk hke
       obtain ⟨y0, _, _, y3, _, _, _, _, _, y9⟩ := cls_facts fk
       have HY := Aside0.mk hyk
       have HKE := Aside0.mk hke
       subst hw4
       have z0 : ((wr.alloc (.cells (boxCells x emp (.slice Ax x.f0.f5.length cx)) 38)).drewN q4).cell? ⟨g, k.toNat * 10, none⟩ = some (.string y.f0.f0) := fcell' y0 _
       have z3 : ((wr.alloc (.cells (boxCells x emp (.slice Ax x.f0.f5.length cx)) 38)).drewN q4).cell? ⟨g, k.toNat * 10 + 3, none⟩ = some (.int .u8 y.f0.f3) := fcell' y3 _
       have z9 : ((wr.alloc (.cells (boxCells x emp (.slice Ax x.f0.f5.length cx)) 38)).drewN q4).cell? ⟨g, k.toNat * 10 + 9, none⟩ = some (.int .i64 y.f1) := fcell' y9 _
       have z9n : ((wr.alloc (.cells (boxCells x emp (.slice Ax x.f0.f5.length cx)) 38)).drewN q4).cell? ⟨g, n.toNat * 10 + 9, none⟩ = some (.int .i64 x.f1) := fcell' x9 _
       obtain ⟨b0, b1, b2, b3, b4, b5, b6, b7, b8⟩ := box_facts (w := (wr.alloc (.cells (boxCells x emp (.slice Ax x.f0.f5.length cx)) 38)).drewN q4) (b := wr.heap.size) (blk_new wr (.cells (boxCells x emp (.slice Ax x.f0.f5.length cx)) 38))
       have bz : ((wr.alloc (.cells (boxCells x emp (.slice Ax x.f0.f5.length cx)) 38)).drewN q4).frozen? ⟨wr.heap.size, 2, none⟩ = false := box_soft (w := (wr.alloc (.cells (boxCells x emp (.slice Ax x.f0.f5.length cx)) 38)).drewN q4) (b := wr.heap.size) (blk_new wr (.cells (boxCells x emp (.slice Ax x.f0.f5.length cx)) 38)) 2
       clear fk hyk hke hno
       generalize hwv : (wr.alloc (.cells (boxCells x emp (.slice Ax x.f0.f5.length cx)) 38)).drewN q4 = wv at z0 z3 z9 z9n b0 b1 b2 b3 b4 b5 b6 b7 b8 bz ⊢
       have HWV := Aside0.mk hwv
       clear hwv
       by_cases hm : y.f0.f3 = 48 ∧ y.f1 = x.f1
       ·have m1 : (y.f0.f3 == 48) = true := beq_iff_eq.2 hm.1
        have m2 : (y.f1 == x.f1) = true := beq_iff_eq.2 hm.2
        have hlead : leadC s n.toNat x = y.f0.f0 := by
         rw [← HY.out]
         exact first_here (by omega) hnl H48.out (by rw [HY.out]; exact hm) (fun q hq h => HNO.out q (by omega) (by omega) h)
        have HLEAD := Aside0.mk hlead
        clear hm hlead
        go_upto_region 18 with (fail)
        go_quiet (fail)
        go_upto_region 20 with (fail)
        have hsm := HMID.out (q4 + nq) y.f0.f0 _ (.inr rfl)
        rw [show (wr.alloc (.cells (boxCells x emp (.slice Ax x.f0.f5.length cx)) 38)).drewN (q4 + nq) = (wv.drewN nq) from by rw [← HWV.out, World.drewN_drewN]] at hsm
        have HSM := Aside0.mk hsm
        have HLD : Aside0 (leadC s n.toNat x = y.f0.f0) := HLEAD
        generalize hwz : (wv.drewN nq).setCell ⟨wr.heap.size, 2, none⟩ (.string y.f0.f0) = wz at HSM ⊢
        generalize hld : y.f0.f0 = ldr at HSM HLD
        clear hsm hwz hld b0 b1 b2 b3 b4 b5 b6 b7 b8 bz z0 z3 z9 z9n y0 y3 y9
        obtain ⟨tS, tO, tB, tF, tz, tM⟩ := HSM.out
        obtain ⟨b0, b1, b2, b3, b4, b5, b6, b7, b8⟩ := box_facts tB
        have bz := box_soft tB 8
        have tC := Kd.F_now tF
        have tbne : ∀ k : Nat, wr.heap.size ≠ wz.heap.size + k := fun k => by omega
        have TS := Aside0.mk tS
        have TO := Aside0.mk tO
        have TB := Aside0.mk tB
        have TC := Aside0.mk tC
        have TF := Aside0.mk tF
        have hwb : wr.heap.size < wz.heap.size := by omega
        have hwW : W.heap.size ≤ wz.heap.size := tS.2.1.size
        have TZ := Aside0.mk tz
        clear tS tO tB tC tF tz tbne
        go_wp2_with (first
         | (at_builtin; refine Kd.R_append_rows (Kd.int .u8) (w0 := W) W.heap.size rfl (.tmp 104) (.tmp 106) 25 5 (.int .u8 0) 1 rfl Tryd.underlying25 infoU8 rfl (by decide) (by decide) (.slice (some ⟨wz.heap.size, 0, none⟩) 0 0) [] x.f0.f5 Ax x.f0.f5.length cx (fun k => wz.heap.size ≤ k) (fun _ => False) rfl rfl (made_u8 wz _ hwW) (Kd.C_alloc TC.out _) (fun _ _ h => h) (fun _ h => h.elim) (fun k hk => by rw [World.size_alloc] at hk; omega) (below_alloc TS.out.2.1 _) (by rw [World.size_alloc]; omega) (by simp; omega) ?_; intro v5 w5 hR5 hB5 hg5 hat5; rw [List.nil_append] at hR5; obtain ⟨A5, c5, rfl, hl5, _⟩ := Kd.R_reads hR5; have hc5 : ∀ q, w5.cell? ⟨wr.heap.size, q, none⟩ = wz.cell? ⟨wr.heap.size, q, none⟩ := (fun q => cell_over wz w5 _ hg5 hwb q); have hf5 : ∀ q, w5.frozen? ⟨wr.heap.size, q, none⟩ = wz.frozen? ⟨wr.heap.size, q, none⟩ := (fun q => froz_over wz w5 _ hg5 hwb q); have hz5 := hg5.size; rw [World.size_alloc] at hz5; have HR5 := Aside0.mk hR5; have HB5 := Aside0.mk hB5; have HG5 := Aside0.mk hg5; have HL5 := Aside0.mk hl5; clear hR5 hB5 hg5 hat5 hl5)
         | (at_builtin; obtain ⟨mS, mO, mF, mB⟩ := tail_mid TS.out TO.out HR5.out HG5.out HB5.out hwb TZ.out tM (.slice A5 x.f0.f5.length c5) hMW; refine Kd.N_append k38 (w0 := W) W.heap.size rfl (.tmp 109) (.tmp 111) 31 38 (.agg #[(.string ⟨#[]⟩), (.string ⟨#[]⟩), (.string ⟨#[]⟩), (.int .u8 0), (.int .i64 0), (.int .i64 0), (.int .i64 0), (.int .i64 0), (.slice none 0 0)]) 112 rfl Tryd.underlying31 infoNode rfl (by decide) (by decide) (.slice Ao outs.length co) outs (⟨x.f0.f0, x.f0.f1, ldr, x.f0.f3, x.f0.f4, x.f0.f5⟩ : Node) [.string x.f0.f0, .string x.f0.f1, .string ldr, .int .u8 x.f0.f3, .int .i64 x.f0.f4.f0, .int .i64 x.f0.f4.f1, .int .i64 x.f0.f4.f2, .int .i64 x.f0.f4.f3, .slice A5 x.f0.f5.length c5] (fun k => M ≤ k) (fun k => wz.heap.size ≤ k) rfl (by rw [World.size_setCell]; rfl) (k38_mkF _ _ _ HL5.out mF) (fun k hk => ⟨by omega, fun e => by have := TO.out.1 k e.symm; omega⟩) (fun k hk => by rw [World.size_setCell] at hk; omega) mO mB (by rw [World.size_setCell]; omega) (by have := HOL.out; omega) ?_; intro v6 w6 hN6 hB6 hg6 hat6; have hz6 := hg6.size; rw [World.size_setCell] at hz6; have hS6 := tail_row mS hg6 TO.out; have HN6 := Aside0.mk hN6; have HB6 := Aside0.mk hB6; have HS6 := Aside0.mk hS6; clear hN6 hB6 hg6 hat6 mS mO mF mB hS6))
        have hfin : SRel3 s W M (.slice (some ⟨g, 0, none⟩) l.length c1) (n + 1) v6 w6 := by
         refine ⟨by omega, by have := HSL.out; omega, HS6.out, ?_⟩
         have e1 : (n + 1).toNat = n.toNat + 1 := by omega
         have e2 : outC s n.toNat (s[n.toNat]'hnl) = (⟨x.f0.f0, x.f0.f1, ldr, x.f0.f3, x.f0.f4, x.f0.f5⟩ : Node) := by
          rw [HX.out]
          unfold outC
          rw [HLD.out]
         rw [e1, outs_snoc hnl, HOUTS.out, e2]
         exact Kd.N_bound HN6.out
        have HFIN := Aside0.mk hfin
        clear hfin HN6 HB6 HS6
        go_roundw
        case rel => exact ⟨n + 1, by go_num, HFIN⟩
        case measure => simp [intOf]; omega
       ·have HNM := Aside0.mk hm
        have hlt2 : k < n := by
         rcases Int.lt_or_eq_of_le hkn with h | h
         ·exact h
         ·exfalso
          have e := HKE.out (by omega)
          apply hm
          rw [e]
          exact ⟨H48.out, rfl⟩
        have hfin : SRel4 s n.toNat x (k + 1) := by
         refine ⟨by omega, fun q hq hq2 => ?_⟩
         rcases Nat.lt_or_ge q k.toNat with h | h
         ·exact HNO.out q (by omega) hq2
         ·obtain rfl : q = k.toNat := by omega
          rw [HY.out]
          exact HNM.out
        have HF4 := Aside0.mk hfin
        have hpick : (y.f0.f3 == 48) = true ∧ (y.f1 == x.f1) = false ∨ (y.f0.f3 == 48) = false := by
         by_cases h1 : y.f0.f3 = 48
         ·exact .inl ⟨beq_iff_eq.2 h1, beq_eq_false_iff_ne.2 (fun h2 => hm ⟨h1, h2⟩)⟩
         ·exact .inr (beq_eq_false_iff_ne.2 h1)
        clear hm hfin
        rcases hpick with ⟨m1, m2⟩ | m1
        all_goals
         go_upto_region 18 with (fail)
         go_quiet (fail)
         go_wp2
         go_roundw
         case rel => exact ⟨k + 1, by go_num, ⟨HF4.out, by omega, q4 + nq, by rw [← HWV.out, World.drewN_drewN]⟩⟩
         case measure => simp [intOf]; omega
     ·have e48 : (x.f0.f3 == 48) = false := beq_eq_false_iff_ne.2 h48
      have H48 := Aside0.mk h48
      clear h48
      go_wp2
      go_loopw [8] (fun i w' => i = .int .i64 0 ∧ Aside0 (w' = wr.alloc (.cells (boxCells x emp (.slice Ax x.f0.f5.length cx)) 38))) (fun _ _ => 0)
      case atStart => exact ⟨rfl, ⟨rfl⟩⟩
      case round =>
       obtain ⟨rfl, HW4⟩ := hrel
       have hw4 := HW4.out
       subst hw4
       have ckn : decide (0 ≤ n) = true := decide_eq_true h0
       obtain ⟨d0, d1, d2, d3, d4, d5, d6, d7, d8⟩ := box_facts (w := wr.alloc (.cells (boxCells x emp (.slice Ax x.f0.f5.length cx)) 38)) (b := wr.heap.size) (blk_new wr (.cells (boxCells x emp (.slice Ax x.f0.f5.length cx)) 38))
       go_upto_region 20 with (fail)
       clear d0 d1 d2 d3 d4 d5 d6 d7 d8
       have hsm := HMID.out 0 emp (wr.alloc (.cells (boxCells x emp (.slice Ax x.f0.f5.length cx)) 38)) (.inl ⟨rfl, rfl⟩)
       have HSM := Aside0.mk hsm
       have HLD : Aside0 (leadC s n.toNat x = emp) := ⟨by unfold leadC; rw [if_neg H48.out]⟩
       generalize hwz : wr.alloc (.cells (boxCells x emp (.slice Ax x.f0.f5.length cx)) 38) = wz at HSM ⊢
       generalize hld : emp = ldr at HSM HLD
       clear hsm hwz hld
       obtain ⟨tS, tO, tB, tF, tz, tM⟩ := HSM.out
       obtain ⟨b0, b1, b2, b3, b4, b5, b6, b7, b8⟩ := box_facts tB
       have bz := box_soft tB 8
       have tC := Kd.F_now tF
       have tbne : ∀ k : Nat, wr.heap.size ≠ wz.heap.size + k := fun k => by omega
       have TS := Aside0.mk tS
       have TO := Aside0.mk tO
       have TB := Aside0.mk tB
       have TC := Aside0.mk tC
       have TF := Aside0.mk tF
       have hwb : wr.heap.size < wz.heap.size := by omega
       have hwW : W.heap.size ≤ wz.heap.size := tS.2.1.size
       have TZ := Aside0.mk tz
       clear tS tO tB tC tF tz tbne
       go_wp2_with (first
        | (at_builtin; refine Kd.R_append_rows (Kd.int .u8) (w0 := W) W.heap.size rfl (.tmp 104) (.tmp 106) 25 5 (.int .u8 0) 1 rfl Tryd.underlying25 infoU8 rfl (by decide) (by decide) (.slice (some ⟨wz.heap.size, 0, none⟩) 0 0) [] x.f0.f5 Ax x.f0.f5.length cx (fun k => wz.heap.size ≤ k) (fun _ => False) rfl rfl (made_u8 wz _ hwW) (Kd.C_alloc TC.out _) (fun _ _ h => h) (fun _ h => h.elim) (fun k hk => by rw [World.size_alloc] at hk; omega) (below_alloc TS.out.2.1 _) (by rw [World.size_alloc]; omega) (by simp; omega) ?_; intro v5 w5 hR5 hB5 hg5 hat5; rw [List.nil_append] at hR5; obtain ⟨A5, c5, rfl, hl5, _⟩ := Kd.R_reads hR5; have hc5 : ∀ q, w5.cell? ⟨wr.heap.size, q, none⟩ = wz.cell? ⟨wr.heap.size, q, none⟩ := (fun q => cell_over wz w5 _ hg5 hwb q); have hf5 : ∀ q, w5.frozen? ⟨wr.heap.size, q, none⟩ = wz.frozen? ⟨wr.heap.size, q, none⟩ := (fun q => froz_over wz w5 _ hg5 hwb q); have hz5 := hg5.size; rw [World.size_alloc] at hz5; have HR5 := Aside0.mk hR5; have HB5 := Aside0.mk hB5; have HG5 := Aside0.mk hg5; have HL5 := Aside0.mk hl5; clear hR5 hB5 hg5 hat5 hl5)
        | (at_builtin; obtain ⟨mS, mO, mF, mB⟩ := tail_mid TS.out TO.out HR5.out HG5.out HB5.out hwb TZ.out tM (.slice A5 x.f0.f5.length c5) hMW; refine Kd.N_append k38 (w0 := W) W.heap.size rfl (.tmp 109) (.tmp 111) 31 38 (.agg #[(.string ⟨#[]⟩), (.string ⟨#[]⟩), (.string ⟨#[]⟩), (.int .u8 0), (.int .i64 0), (.int .i64 0), (.int .i64 0), (.int .i64 0), (.slice none 0 0)]) 112 rfl Tryd.underlying31 infoNode rfl (by decide) (by decide) (.slice Ao outs.length co) outs (⟨x.f0.f0, x.f0.f1, ldr, x.f0.f3, x.f0.f4, x.f0.f5⟩ : Node) [.string x.f0.f0, .string x.f0.f1, .string ldr, .int .u8 x.f0.f3, .int .i64 x.f0.f4.f0, .int .i64 x.f0.f4.f1, .int .i64 x.f0.f4.f2, .int .i64 x.f0.f4.f3, .slice A5 x.f0.f5.length c5] (fun k => M ≤ k) (fun k => wz.heap.size ≤ k) rfl (by rw [World.size_setCell]; rfl) (k38_mkF _ _ _ HL5.out mF) (fun k hk => ⟨by omega, fun e => by have := TO.out.1 k e.symm; omega⟩) (fun k hk => by rw [World.size_setCell] at hk; omega) mO mB (by rw [World.size_setCell]; omega) (by have := HOL.out; omega) ?_; intro v6 w6 hN6 hB6 hg6 hat6; have hz6 := hg6.size; rw [World.size_setCell] at hz6; have hS6 := tail_row mS hg6 TO.out; have HN6 := Aside0.mk hN6; have HB6 := Aside0.mk hB6; have HS6 := Aside0.mk hS6; clear hN6 hB6 hg6 hat6 mS mO mF mB hS6))
       have hfin : SRel3 s W M (.slice (some ⟨g, 0, none⟩) l.length c1) (n + 1) v6 w6 := by
        refine ⟨by omega, by have := HSL.out; omega, HS6.out, ?_⟩
        have e1 : (n + 1).toNat = n.toNat + 1 := by omega
        have e2 : outC s n.toNat (s[n.toNat]'hnl) = (⟨x.f0.f0, x.f0.f1, ldr, x.f0.f3, x.f0.f4, x.f0.f5⟩ : Node) := by
         rw [HX.out]
         unfold outC
         rw [HLD.out]
        rw [e1, outs_snoc hnl, HOUTS.out, e2]
        exact Kd.N_bound HN6.out
       have HFIN := Aside0.mk hfin
       clear hfin HN6 HB6 HS6
       go_roundw
       case rel => exact ⟨n + 1, by go_num, HFIN⟩
       case measure => simp [intOf]; omega
    ·have c1b : decide (n < (l.length : Int)) = false := decide_eq_false hlt
     go_wp2
     rw [← hQ.out]
     refine ⟨_, rfl, ?_, HS.out.2.1⟩
     have e : outs = sortedF l := by rw [HSO.out, ← HOUTS.out, List.take_of_length_le (by rw [List.length_mapIdx]; have := HSL.out; omega)]
     rw [← e]
     exact Kd.N_mono HO.out (fun k hk => by have := hk.1; have := HS.out.2.2; omega)
end Go.Proofs.YtfmphccoeinhcaaDoor

namespace Go.Proofs.YtfmphccoeinhcaaDoor
open Go.Proofs.YtfmphccoeinhcaaDoor.Print
def clsZ (l : List Cls) : Bool := decide (l.length ≤ 1000000000000) && l.all (fun x => decide (x.f0.f5.length ≤ 140737488351232))
theorem clsZ_iff (l : List Cls) : clsZ l = true ↔ l.length ≤ 1000000000000 ∧ ∀ x ∈ l, x.f0.f5.length ≤ 140737488351232 := by simp [clsZ]
end Go.Proofs.YtfmphccoeinhcaaDoor
namespace Go.Proofs.YtfmphccoeinhcaaDoor.Print
open Go.RowKit Go.Proofs.YtfmphccoeinhcaaDoor Go.Proofs.YtfmphccoeinhcaaDoorW.PrintWords Go.Proofs.YtfmphccoeinhcaaDoorW.PrintLast Go.Proofs.YtfmphccoeinhcaaDoorW.PrintMore
set_option linter.unusedVariables false
def bindleref08_Sorted.f (l : List S60) : Option (List S38) := if clsZ l = true then some (sortedF l) else none
theorem bindleref08_Sorted.calls (A0 : Option Addr) (c0 : Nat) (l0 : List S60) (r : List S38) (w : World) (hr0 : Kd.C k60 w A0 l0.length l0) (hc0 : l0.length ≤ c0) (h : bindleref08_Sorted.f l0 = some r) :
  Calls Tryd.prog 29 #[.slice A0 l0.length c0] w fun e w' => ∃ v0_ : Value, e = .returned v0_ ∧ Kd.V k38 38 w' w.heap.size (fun k_ => w.heap.size ≤ k_) v0_ r ∧ Below w.heap.size w w' := by
 unfold bindleref08_Sorted.f at h
 split at h
 ·rename_i hc
  simp only [Option.some.injEq] at h
  obtain ⟨h1, h2⟩ := (clsZ_iff l0).1 hc
  refine (Sorted_calls A0 c0 l0 w hr0 h1 h2).mono ?_
  rintro e w' ⟨v, rfl, hV, hB⟩
  rw [h] at hV
  exact ⟨v, rfl, Kd.N_V hV, hB⟩
 ·cases h
end Go.Proofs.YtfmphccoeinhcaaDoor.Print

namespace Go.Proofs.YtfmphccoeinhcaaDoor.Print
open Go.RowKit Go.Proofs.YtfmphccoeinhcaaDoorW.PrintWords Go.Proofs.YtfmphccoeinhcaaDoorW.PrintLast Go.Proofs.YtfmphccoeinhcaaDoorW.PrintMore
attribute [local go_sem] max2_int min2_int max_two min_two max_three min_three max_four min_four   -- for this text's walks alone
set_option linter.unusedVariables false
set_option linter.unusedSimpArgs false
def bindleref18_class.l0 : Nat → List (S38) → ByteArray → Int → Int → Option (Int)
 | 0, _, _, _, _ => none
 | k + 1, x0, x1, x2, x7 => if x7 < (x0.length : Int) then (if 0 ≤ x7 then (if ((rd_T38 x0 x7).f0).toList = x1.toList then (some (wrap64 (x2 + x7))) else (bindleref18_class.l0 k x0 x1 x2 (wrap64 (x7 + 1)))) else (none)) else (some x2)
def bindleref18_class.f (k : Nat) (l0 : List (S38)) (a1 : ByteArray) (a2 : Int) : Option (Int) := bindleref18_class.l0 k l0 a1 a2 0
set_option maxHeartbeats 8000000 in
set_option maxRecDepth 100000 in
theorem bindleref18_class.calls (k : Nat) (A0 : Option Addr) (c0 : Nat) (l0 : List (S38)) (a1 : ByteArray) (a2 : Int) (r : Int) (w : World) (hr0 : Kd.C k38 w A0 l0.length l0) (hc0 : l0.length ≤ c0) (h : bindleref18_class.f k l0 a1 a2 = some r) :
  Calls Tryd.prog 65 #[.slice A0 l0.length c0, .string a1, .int .i64 a2] w fun e w' => e = .returned (.int .i64 r) ∧ Drawn0 w w' := by
 have HR0 := A0_ hr0
 have HC0 := A0_ hc0
 clear hr0 hc0
 have H : (bindleref18_class.l0 k l0 a1 a2 0) = some r := h
 clear h
 have H' := A0_ H
 clear H
 go_enter Tryd.func65, Tryd.ntmps65
 go_wp2
 go_loopg [7] k (fun kq v7 w' => ∃ (x7_1 : Int), v7 = .int .i64 x7_1 ∧ Aside0 (bindleref18_class.l0 kq l0 a1 a2 x7_1 = some r) ∧ Aside0 (kq ≤ k) ∧ Drawn0 w w')
 case atStart => exact ⟨(0), wr_, H', ⟨Nat.le_refl _⟩, by repeat (first | exact Drawn0.refl _ | apply Drawn0.step)⟩
 case round =>
  clear H'
  try clear p2
  obtain ⟨x7_1, rfl, HA, HK1, ⟨m1, rfl⟩⟩ := hrel
  cases gk with
  | zero => exact absurd HA.out (by simp [bindleref18_class.l0])
  | succ k1 =>
   have H := HA.out
   clear HA
   simp only [bindleref18_class.l0] at H
   by_cases c4 : x7_1 < (l0.length : Int)
   rotate_left
   ·rw [if_neg c4] at H
    have c4b0 : decide (x7_1 < (l0.length : Int)) = false := decide_eq_false c4
    clear c4
    obtain rfl := Option.some.inj H
    go_wp2
    go_ret
    exact ⟨by first | rfl | (simp; done) | (simp [*]; done), by repeat (first | exact Drawn0.refl _ | apply Drawn0.step)⟩
   rw [if_pos c4] at H
   have c4b0 : decide (x7_1 < (l0.length : Int)) = true := decide_eq_true c4
   clear c4
   by_cases c5 : 0 ≤ x7_1
   rotate_left
   ·rw [if_neg c5] at H
    exact absurd H (by simp)
   rw [if_pos c5] at H
   have c5b0 : decide (0 ≤ x7_1) = true := decide_eq_true c5
   clear c5
   by_cases c6 : ((rd_T38 l0 x7_1).f0).toList = a1.toList
   ·rw [if_pos c6] at H
    have c6b0 : (((rd_T38 l0 x7_1).f0).toList == a1.toList) = true := beq_iff_eq.mpr c6
    have c6b1 : (((rd_T38 l0 x7_1).f0).toList != a1.toList) = false := bne_eq_false_iff_eq.mpr c6
    clear c6
    obtain rfl := Option.some.inj H
    have p218 : 0 ≤ (x7_1 : Int) := wd_
    have q218 : x7_1 < (l0.length : Int) := wd_
    obtain ⟨ad218, A218_8, c218_8, e218, hx218_0, hx218_1, hx218_2, hx218_3, hx218_4, hx218_5, hx218_6, hx218_7, hx218_8, hl218_8, hi218_8⟩ := at_T38 HR0.out x7_1 p218 q218
    cases e218
    have HR218_8 := A0_ hi218_8
    have HC218_8 := A0_ hl218_8
    clear hi218_8 hl218_8
    replace p218 := eq_true p218
    replace q218 := eq_true q218
    go_wp2
    go_ret
    exact ⟨by first | rfl | (simp; done) | (simp [*]; done), by repeat (first | exact Drawn0.refl _ | apply Drawn0.step)⟩
   rw [if_neg c6] at H
   have c6b0 : (((rd_T38 l0 x7_1).f0).toList == a1.toList) = false := beq_eq_false_iff_ne.mpr c6
   have c6b1 : (((rd_T38 l0 x7_1).f0).toList != a1.toList) = true := bne_iff_ne.mpr c6
   have H' := A0_ H
   clear H
   have p218 : 0 ≤ (x7_1 : Int) := wd_
   have q218 : x7_1 < (l0.length : Int) := wd_
   obtain ⟨ad218, A218_8, c218_8, e218, hx218_0, hx218_1, hx218_2, hx218_3, hx218_4, hx218_5, hx218_6, hx218_7, hx218_8, hl218_8, hi218_8⟩ := at_T38 HR0.out x7_1 p218 q218
   cases e218
   have HR218_8 := A0_ hi218_8
   have HC218_8 := A0_ hl218_8
   clear hi218_8 hl218_8
   replace p218 := eq_true p218
   replace q218 := eq_true q218
   go_wp2
   go_roundg k1
   case measure => have := HK1.out; omega
   case rel => exact ⟨(wrap64 (x7_1 + 1)), wr_, H', ⟨by have := HK1.out; omega⟩, by repeat (first | exact Drawn0.refl _ | apply Drawn0.step)⟩
end Go.Proofs.YtfmphccoeinhcaaDoor.Print

namespace Go.Proofs.YtfmphccoeinhcaaDoor.Print
open Go.RowKit Go.Proofs.YtfmphccoeinhcaaDoorW.PrintWords Go.Proofs.YtfmphccoeinhcaaDoorW.PrintLast Go.Proofs.YtfmphccoeinhcaaDoorW.PrintMore
attribute [local go_sem] max2_int min2_int max_two min_two max_three min_three max_four min_four   -- for this text's walks alone
set_option linter.unusedVariables false
set_option linter.unusedSimpArgs false
abbrev q48_0 : Array Bool := #[false, false, false, false, false, false, false, false, false, false, false, false, false, false, false, false, false]
abbrev q48_1 : Array Bool := tb_ 17 1
abbrev q48_2 : Array Bool := tb_ 17 3
abbrev q48_3 : Array Bool := tb_ 17 7
abbrev q48_4 : Array Bool := tb_ 17 15
abbrev q48_5 : Array Bool := tb_ 17 47
abbrev q48_6 : Array Bool := tb_ 17 111
abbrev q48_7 : Array Bool := tb_ 17 239
abbrev q48_8 : Array Bool := tb_ 17 495
abbrev q48_9 : Array Bool := tb_ 17 1007
abbrev q48_10 : Array Bool := tb_ 17 3055
abbrev q48_11 : Array Bool := tb_ 17 3071
abbrev q48_12 : Array Bool := tb_ 17 4095
abbrev q48_13 : Array Bool := tb_ 17 8191
abbrev q48_14 : Array Bool := tb_ 17 16383
abbrev q48_15 : Array Bool := tb_ 17 32767
abbrev q48_16 : Array Bool := tb_ 17 65535
abbrev q48_17 : Array Bool := tb_ 17 131071
def bindleref18_classes.l0 : Nat → List (S38) → Int → List (S60) → Int → Option ((List (S60)))
 | 0, _, _, _, _ => none
 | k + 1, x0, x1, x5, x6 => if x6 < (x0.length : Int) then (if 0 ≤ x6 then ((bindleref18_class.f k x0 ((rd_T38 x0 x6).f2) x1).bind fun t221 => (if x5.length < 1172812402961 then (bindleref18_classes.l0 k x0 x1 (x5 ++ [(⟨(⟨(rd_T38 x0 x6).f0, (rd_T38 x0 x6).f1, (rd_T38 x0 x6).f2, (rd_T38 x0 x6).f3, (⟨(rd_T38 x0 x6).f4.f0, (rd_T38 x0 x6).f4.f1, (rd_T38 x0 x6).f4.f2, (rd_T38 x0 x6).f4.f3⟩ : S24), (rd_T38 x0 x6).f5⟩ : S38), t221⟩ : S60)]) (wrap64 (x6 + 1))) else (none))) else (none)) else (some x5)
def bindleref18_classes.f (k : Nat) (l0 : List (S38)) (a1 : Int) : Option ((List (S60))) := bindleref18_classes.l0 k l0 a1 ([] : List (S60)) 0
def bindleref18_classes.T5 : Bool × List (List Nat × List Nat) := (true, [([], []), ([], []), ([], []), ([1, 2], [1, 2]), ([3], [3]), ([], []), ([], []), ([], []), ([6, 7], [6, 7]), ([8], [8]), ([9], [9]), ([], []), ([5, 10, 11], [5, 10, 11]), ([4, 12], [4, 12]), ([13], [13]), ([0, 14, 12], [0, 14]), ([15, 15, 0, 1, 2, 3, 4, 5, 6, 7, 8, 9, 10, 11, 12, 13, 14, 15], [0, 15])])
def bindleref18_classes.B5 : List Nat := [0, 0, 0, 6, 14, 0, 0, 0, 192, 448, 960, 0, 4064, 8190, 16382, 32767, 65535]
theorem bindleref18_classes.tab5 : rtab .any (opsOf Tryd.f48 5) = bindleref18_classes.T5 := by kernel_rfl
theorem bindleref18_classes.bits5 : waitsOk bindleref18_classes.T5.2 bindleref18_classes.B5 = true := by kernel_rfl
set_option maxHeartbeats 8000000 in
set_option maxRecDepth 100000 in
theorem bindleref18_classes.calls (k : Nat) (P0_ : Nat → Prop) (A0 : Option Addr) (c0 : Nat) (l0 : List (S38)) (a1 : Int) (r : List (S60)) (w : World) (hs0 : Kd.V k38 38 w w.heap.size (fun k_ => P0_ k_) (.slice A0 l0.length c0) l0) (h : bindleref18_classes.f k l0 a1 = some r) :
  Calls Tryd.prog 48 #[.slice A0 l0.length c0, .int .i64 a1] w fun e w' => ∃ v0_ : Value, e = .returned (v0_) ∧ Kd.N k60 60 w' w.heap.size (fun k_ => (P0_ k_ ∨ w.heap.size ≤ k_)) v0_ r ∧ Below w.heap.size w w' := by
 have hu38 := Tryd.underlying38
 have hu60 := Tryd.underlying60
 have HO0 := A0_ (show Kd.V k38 38 w w.heap.size (fun k_ => (P0_ k_ ∨ w.heap.size ≤ k_)) (.slice A0 l0.length c0) l0 from Kd.V_mono hs0 (fun k_ hk => .inl hk))
 have HB := A0_ (Below.refl w.heap.size w)
 have H : (bindleref18_classes.l0 k l0 a1 ([] : List (S60)) 0) = some r := h
 clear h
 have H' := A0_ H
 clear H
 go_enter Tryd.func48, Tryd.ntmps48
 go_wp2
 go_loopg [5, 6] k (fun kq v5 v6 w' => ∃ (x5_1 : List (S60)) (x6_1 : Int), v6 = .int .i64 x6_1 ∧ Aside0 (bindleref18_classes.l0 kq l0 a1 x5_1 x6_1 = some r) ∧ Aside0 (kq ≤ k) ∧ Aside0 (Kd.V k38 38 w' w.heap.size (fun k_ => (P0_ k_ ∨ w.heap.size ≤ k_) ∧ some k_ ≠ (v5 : Value).ownBlock) (.slice A0 l0.length c0) l0) ∧ Aside0 (Kd.N k60 60 w' w.heap.size (fun k_ => (P0_ k_ ∨ w.heap.size ≤ k_)) v5 x5_1) ∧ Aside0 (Below w.heap.size w w'))
 case atStart => exact ⟨(([] : List (S60))), (0), wr_, H', ⟨Nat.le_refl _⟩, ⟨by (with_reducible repeat (first | apply Va_ | apply VN_ | apply V1_)); exact Kd.V_mono HO0.out (fun _ hk => ⟨hk, (by simp [Value.ownBlock])⟩)⟩, ⟨by first | exact Kd.S_nil _ _ _ _ _ | exact Kd.N_nil _ _ _ _ _ | exact Kd.V_nil _ _ _ _ _ | exact Kd.Q_nil _ _ _ _ _ | exact Kd.R_nil _ _ _ _ _⟩, ⟨wb_ HB.out⟩⟩
 case round =>
  clear H'
  try clear p2
  obtain ⟨x5_1, x6_1, rfl, HA, HK1, HO_0, HO_5, HB⟩ := hrel
  cases gk with
  | zero => exact absurd HA.out (by simp [bindleref18_classes.l0])
  | succ k1 =>
   have H := HA.out
   clear HA
   simp only [bindleref18_classes.l0] at H
   by_cases c3 : x6_1 < (l0.length : Int)
   rotate_left
   ·rw [if_neg c3] at H
    have c3b0 : decide (x6_1 < (l0.length : Int)) = false := decide_eq_false c3
    clear c3
    obtain rfl := Option.some.inj H
    go_wp2
    go_ret
    exact ⟨_, we_, wN_ HO_5.out, wb_ HB.out⟩
   rw [if_pos c3] at H
   have c3b0 : decide (x6_1 < (l0.length : Int)) = true := decide_eq_true c3
   clear c3
   by_cases c4 : 0 ≤ x6_1
   rotate_left
   ·rw [if_neg c4] at H
    exact absurd H (by simp)
   rw [if_pos c4] at H
   have c4b0 : decide (0 ≤ x6_1) = true := decide_eq_true c4
   clear c4
   replace H := Option.bind_eq_some_iff.mp H
   obtain ⟨t221, A50, H⟩ := H
   replace H : (if x5_1.length < 1172812402961 then (bindleref18_classes.l0 k1 l0 a1 (x5_1 ++ [(⟨(⟨(rd_T38 l0 x6_1).f0, (rd_T38 l0 x6_1).f1, (rd_T38 l0 x6_1).f2, (rd_T38 l0 x6_1).f3, (⟨(rd_T38 l0 x6_1).f4.f0, (rd_T38 l0 x6_1).f4.f1, (rd_T38 l0 x6_1).f4.f2, (rd_T38 l0 x6_1).f4.f3⟩ : S24), (rd_T38 l0 x6_1).f5⟩ : S38), t221⟩ : S60)]) (wrap64 (x6_1 + 1))) else (none)) = some r := H
   have A5 := A0_ A50
   clear A50
   by_cases c6 : x5_1.length < 1172812402961
   rotate_left
   ·rw [if_neg c6] at H
    exact absurd H (by simp)
   rw [if_pos c6] at H
   have LMc6 := A0_ c6
   clear c6
   obtain ⟨y222, hy222⟩ : ∃ y_ : List (S60), y_ = (x5_1 ++ [(⟨(⟨(rd_T38 l0 x6_1).f0, (rd_T38 l0 x6_1).f1, (rd_T38 l0 x6_1).f2, (rd_T38 l0 x6_1).f3, (⟨(rd_T38 l0 x6_1).f4.f0, (rd_T38 l0 x6_1).f4.f1, (rd_T38 l0 x6_1).f4.f2, (rd_T38 l0 x6_1).f4.f3⟩ : S24), (rd_T38 l0 x6_1).f5⟩ : S38), t221⟩ : S60)]) := ⟨_, rfl⟩
   replace H : (bindleref18_classes.l0 k1 l0 a1 y222 (wrap64 (x6_1 + 1))) = some r := by first | (rw [hy222]; with_reducible exact H) | (have H2_ := (Option.bind_some _ _).symm.trans H; rw [hy222]; with_reducible exact H2_) | (have H2_ := (Option.bind_some _ _).symm.trans H; with_reducible exact H2_) | with_reducible exact H | (rw [hy222]; exact H) | exact H
   have Ny222 := A0_ hy222
   clear hy222
   have H' := A0_ H
   clear H
   try go_wp2
   have n0_ := A0_ (V1_ HO_0.out)
   have n1_ := A0_ (Kd.N_drew HO_5.out)
   have n2_ := A0_ (b1_ HB.out)
   clear HO_0
   clear HO_5
   clear HB
   have HO_0 := n0_
   have HO_5 := n1_
   have HB := n2_
   clear n0_ n1_ n2_
   have p219 : 0 ≤ (x6_1 : Int) := wd_
   have q219 : x6_1 < (l0.length : Int) := wd_
   obtain ⟨ad219, A219_8, c219_8, e219, hx219_0, hx219_1, hx219_2, hx219_3, hx219_4, hx219_5, hx219_6, hx219_7, hx219_8, hl219_8, hi219_8⟩ := at_T38 (Kd.V_reads' HO_0.out).2.2 x6_1 p219 q219
   cases e219
   obtain ⟨ce219, hce219, hMe219, hcc219⟩ := Kd.V_get HO_0.out z38 x6_1 p219 (by first | exact q219 | exact wd_ | (have e_ := (Kd.V_reads' HO_0.out).1; omega))
   obtain ⟨ua219_8, uc219_8, rfl, ul219_8, ge219_8⟩ := k38_openF hMe219
   have hv219_8 := hcc219 8 _ rfl
   rw [add_field _ _ 8 (by omega)] at hv219_8
   replace hv219_8 := Option.some.inj (hv219_8.symm.trans hx219_8)
   injection hv219_8 with hva_ hvn_ hvc_
   rw [hva_] at ge219_8
   rw [hvc_] at ul219_8
   have HL219_8 := A0_ (show Kd.V (Kd.int .u8) 5 _ w.heap.size _ _ ((rd_T38 l0 x6_1).f5) from Kd.V_mk ul219_8 ge219_8)
   clear hva_ hvn_ hvc_ ge219_8 ul219_8
   clear hcc219 hce219
   have HR219_8 := A0_ hi219_8
   have HC219_8 := A0_ hl219_8
   clear hi219_8 hl219_8
   replace p219 := eq_true p219
   replace q219 := eq_true q219
   have p220 : 0 ≤ (x6_1 : Int) := wd_
   have q220 : x6_1 < (l0.length : Int) := wd_
   obtain ⟨ad220, A220_8, c220_8, e220, hx220_0, hx220_1, hx220_2, hx220_3, hx220_4, hx220_5, hx220_6, hx220_7, hx220_8, hl220_8, hi220_8⟩ := at_T38 (Kd.V_reads' HO_0.out).2.2 x6_1 p220 q220
   obtain rfl : ad219 = ad220 := (by injection e220)
   obtain ⟨ce220, hce220, hMe220, hcc220⟩ := Kd.V_get HO_0.out z38 x6_1 p220 (by first | exact q220 | exact wd_ | (have e_ := (Kd.V_reads' HO_0.out).1; omega))
   obtain ⟨ua220_8, uc220_8, rfl, ul220_8, ge220_8⟩ := k38_openF hMe220
   have hv220_8 := hcc220 8 _ rfl
   rw [add_field _ _ 8 (by omega)] at hv220_8
   replace hv220_8 := Option.some.inj (hv220_8.symm.trans hx220_8)
   injection hv220_8 with hva_ hvn_ hvc_
   rw [hva_] at ge220_8
   rw [hvc_] at ul220_8
   have HL220_8 := A0_ (show Kd.V (Kd.int .u8) 5 _ w.heap.size _ _ ((rd_T38 l0 x6_1).f5) from Kd.V_mk ul220_8 ge220_8)
   clear hva_ hvn_ hvc_ ge220_8 ul220_8
   clear hcc220 hce220
   have HR220_8 := A0_ hi220_8
   have HC220_8 := A0_ hl220_8
   clear hi220_8 hl220_8
   replace p220 := eq_true p220
   replace q220 := eq_true q220
   have ea_ := Option.some.inj (hx219_8.symm.trans hx220_8)
   injection ea_ with ea_ en_ ec_
   subst ea_
   subst ec_
   clear en_
   refine start_ (n := 17) (S := fun w' => w'.cell? (ad219.add ((x6_1).toNat * 9)) = some (.string ((rd_T38 l0 x6_1).f0)) ∧ w'.cell? ⟨(ad219.add ((x6_1).toNat * 9)).block, (ad219.add ((x6_1).toNat * 9)).off + 1, none⟩ = some (.string ((rd_T38 l0 x6_1).f1)) ∧ w'.cell? ⟨(ad219.add ((x6_1).toNat * 9)).block, (ad219.add ((x6_1).toNat * 9)).off + 2, none⟩ = some (.string ((rd_T38 l0 x6_1).f2)) ∧ w'.cell? ⟨(ad219.add ((x6_1).toNat * 9)).block, (ad219.add ((x6_1).toNat * 9)).off + 3, none⟩ = some (.int .u8 ((rd_T38 l0 x6_1).f3)) ∧ w'.cell? ⟨(ad219.add ((x6_1).toNat * 9)).block, (ad219.add ((x6_1).toNat * 9)).off + 4, none⟩ = some (.int .i64 ((rd_T38 l0 x6_1).f4.f0)) ∧ w'.cell? ⟨(ad219.add ((x6_1).toNat * 9)).block, (ad219.add ((x6_1).toNat * 9)).off + 5, none⟩ = some (.int .i64 ((rd_T38 l0 x6_1).f4.f1)) ∧ w'.cell? ⟨(ad219.add ((x6_1).toNat * 9)).block, (ad219.add ((x6_1).toNat * 9)).off + 6, none⟩ = some (.int .i64 ((rd_T38 l0 x6_1).f4.f2)) ∧ w'.cell? ⟨(ad219.add ((x6_1).toNat * 9)).block, (ad219.add ((x6_1).toNat * 9)).off + 7, none⟩ = some (.int .i64 ((rd_T38 l0 x6_1).f4.f3)) ∧ w'.cell? ⟨(ad219.add ((x6_1).toNat * 9)).block, (ad219.add ((x6_1).toNat * 9)).off + 8, none⟩ = some (.slice A219_8 ((rd_T38 l0 x6_1).f5).length c219_8) ∧ w'.cell? (ad219.add ((x6_1).toNat * 9)) = some (.string ((rd_T38 l0 x6_1).f0)) ∧ w'.cell? ⟨(ad219.add ((x6_1).toNat * 9)).block, (ad219.add ((x6_1).toNat * 9)).off + 1, none⟩ = some (.string ((rd_T38 l0 x6_1).f1)) ∧ w'.cell? ⟨(ad219.add ((x6_1).toNat * 9)).block, (ad219.add ((x6_1).toNat * 9)).off + 2, none⟩ = some (.string ((rd_T38 l0 x6_1).f2)) ∧ w'.cell? ⟨(ad219.add ((x6_1).toNat * 9)).block, (ad219.add ((x6_1).toNat * 9)).off + 3, none⟩ = some (.int .u8 ((rd_T38 l0 x6_1).f3)) ∧ w'.cell? ⟨(ad219.add ((x6_1).toNat * 9)).block, (ad219.add ((x6_1).toNat * 9)).off + 4, none⟩ = some (.int .i64 ((rd_T38 l0 x6_1).f4.f0)) ∧ w'.cell? ⟨(ad219.add ((x6_1).toNat * 9)).block, (ad219.add ((x6_1).toNat * 9)).off + 5, none⟩ = some (.int .i64 ((rd_T38 l0 x6_1).f4.f1)) ∧ w'.cell? ⟨(ad219.add ((x6_1).toNat * 9)).block, (ad219.add ((x6_1).toNat * 9)).off + 6, none⟩ = some (.int .i64 ((rd_T38 l0 x6_1).f4.f2)) ∧ w'.cell? ⟨(ad219.add ((x6_1).toNat * 9)).block, (ad219.add ((x6_1).toNat * 9)).off + 7, none⟩ = some (.int .i64 ((rd_T38 l0 x6_1).f4.f3)) ∧ w'.cell? ⟨(ad219.add ((x6_1).toNat * 9)).block, (ad219.add ((x6_1).toNat * 9)).off + 8, none⟩ = some (.slice A219_8 ((rd_T38 l0 x6_1).f5).length c219_8)) (ds := [14, 15]) q48_0 (by kernel_rfl) rfl rfl ⟨hx219_0, hx219_1, hx219_2, hx219_3, hx219_4, hx219_5, hx219_6, hx219_7, hx219_8, hx220_0, hx220_1, hx220_2, hx220_3, hx220_4, hx220_5, hx220_6, hx220_7, hx220_8⟩ (fun hHeld => ?_); refine with_tabW bindleref18_classes.tab5 bindleref18_classes.bits5 (fun HT_ HW_ => ?_)
   generalize wr.drew = w7 at HO_0 HO_5 HB HL219_8 HL220_8 HR219_8 HR220_8 hx219_0 hx219_1 hx219_2 hx219_3 hx219_4 hx219_5 hx219_6 hx219_7 hx219_8 hx220_0 hx220_1 hx220_2 hx220_3 hx220_4 hx220_5 hx220_6 hx220_7 hx220_8 hHeld ⊢
   refine pur_ (i := 0) (N := some 13) q48_1 (any_of HT_.out (by kernel_rfl)) ?_
   refine pur_ (i := 1) (N := some 14) q48_2 (any_of HT_.out (by kernel_rfl)) ?_
   refine pur_ (i := 2) (N := some 15) q48_3 (any_of HT_.out (by kernel_rfl)) ?_
   refine pur_ (i := 3) (N := some 16) q48_4 (any_of HT_.out (by kernel_rfl)) ?_
   refine pur_ (i := 5) (N := some 18) q48_5 (any_of HT_.out (by kernel_rfl)) ?_
   refine pur_ (i := 6) (N := some 19) q48_6 (any_of HT_.out (by kernel_rfl)) ?_
   refine pur_ (i := 7) (N := some 20) q48_7 (any_of HT_.out (by kernel_rfl)) ?_
   refine pur_ (i := 8) (N := some 21) q48_8 (any_of HT_.out (by kernel_rfl)) ?_
   refine pur_ (i := 9) (N := some 22) q48_9 (any_of HT_.out (by kernel_rfl)) ?_
   refine pur_ (i := 11) (N := some 24) q48_10 (any_of HT_.out (by kernel_rfl)) ?_
   refine take_ (i := 4) (N := some 17) (v := ?_) (a' := ?_) q48_11 rfl rfl (take_ofW HT_.out HW_.out (by kernel_rfl)) (fun _ _ _ h => h) (Or.inl ⟨by rfl, ?_⟩) hHeld ?_ ?_
   rotate_left
   ·rintro w' ⟨s0, s1, s2, s3, s4, s5, s6, s7, s8, s9, s10, s11, s12, s13, s14, s15, s16, s17⟩
    go_simp
    with_reducible rfl
   rotate_left
   ·simp only [Act.put, List.setIfInBounds_toArray, List.set_cons_zero, List.set_cons_succ, i64_w, i32_w]
    rfl
   refine take_ (i := 10) (N := some 23) (v := ?_) (a' := ?_) q48_12 rfl rfl (take_ofW HT_.out HW_.out (by kernel_rfl)) (fun _ _ _ h => h) (Or.inl ⟨by rfl, ?_⟩) hHeld ?_ ?_
   rotate_left
   ·rintro w' ⟨s0, s1, s2, s3, s4, s5, s6, s7, s8, s9, s10, s11, s12, s13, s14, s15, s16, s17⟩
    go_simp
    with_reducible rfl
   rotate_left
   ·simp only [Act.put, List.setIfInBounds_toArray, List.set_cons_zero, List.set_cons_succ, i64_w, i32_w]
    rfl
   refine one_ (i := 12) (N := some 25) q48_13 rfl rfl (one_of HT_.out (by kernel_rfl)) (by decide) (fun K hK => ?_)
   refine goes_ Tryd.func65 (by kernel_rfl) rfl #[.slice (some ad219) l0.length c0, .string ((rd_T38 l0 x6_1).f2), .int .i64 a1] (by rfl) rfl rfl wm_ ?_
   with_reducible refine (bindleref18_class.calls k1 _ _ l0 ((rd_T38 l0 x6_1).f2) a1 t221 _ ?side1 ?side2 A5.out).mono ?_
   (case side1 => exact wc_ (Kd.V_reads' HO_0.out).2.2)
   (case side2 => exact (Kd.V_reads' HO_0.out).2.1)
   rintro e w' ⟨rfl, ⟨nd, rfl⟩⟩
   refine ⟨_, rfl, ?_⟩
   refine hK.out _ _ ⟨hHeld.1, hHeld.2.1, hHeld.2.2.1, hHeld.2.2.2.1, hHeld.2.2.2.2.1, hHeld.2.2.2.2.2.1, hHeld.2.2.2.2.2.2.1, hHeld.2.2.2.2.2.2.2.1, hHeld.2.2.2.2.2.2.2.2.1, hHeld.2.2.2.2.2.2.2.2.2.1, hHeld.2.2.2.2.2.2.2.2.2.2.1, hHeld.2.2.2.2.2.2.2.2.2.2.2.1, hHeld.2.2.2.2.2.2.2.2.2.2.2.2.1, hHeld.2.2.2.2.2.2.2.2.2.2.2.2.2.1, hHeld.2.2.2.2.2.2.2.2.2.2.2.2.2.2.1, hHeld.2.2.2.2.2.2.2.2.2.2.2.2.2.2.2.1, hHeld.2.2.2.2.2.2.2.2.2.2.2.2.2.2.2.2.1, hHeld.2.2.2.2.2.2.2.2.2.2.2.2.2.2.2.2.2⟩ (fun hHeld => ?_)
   clear hK K
   refine norm_ (a' := ?_) ?_ ?_
   rotate_left
   ·show Act.put _ (some 25) _ = _
    simp only [Act.put, List.setIfInBounds_toArray, List.set_cons_zero, List.set_cons_succ, i64_w, i32_w]
    rfl
   refine pur_ (i := 13) (N := some 26) q48_14 (any_of HT_.out (by kernel_rfl)) ?_
   refine last_ (i := 14) (N := some 27) q48_15 rfl rfl (one_of HT_.out (by kernel_rfl)) (by decide) (fun K hK => ?_)
   refine value_ (w1 := ?_) (v := ?_) (by rfl) rfl ?_ ?_
   rotate_left 2
   ·go_simp
    constructor
    ·rfl
    rfl
   refine hK.out _ _ ?_
   clear hK K
   refine norm_ (a' := ?_) ?_ ?_
   rotate_left
   ·show Act.put _ (some 27) _ = _
    simp only [Act.put, List.setIfInBounds_toArray, List.set_cons_zero, List.set_cons_succ, i64_w, i32_w]
    rfl
   refine last_ (i := 15) (N := some 28) q48_16 rfl rfl (one_of HT_.out (by kernel_rfl)) (by decide) (fun K hK => ?_)
   refine Kd.N_append_step k60 (w0 := w) w.heap.size (by rfl) (.tmp 13) (.tmp 27) 55 60 (.agg #[(.string ⟨#[]⟩), (.string ⟨#[]⟩), (.string ⟨#[]⟩), (.int .u8 0), (.int .i64 0), (.int .i64 0), (.int .i64 0), (.int .i64 0), (.slice none 0 0), (.int .i64 0)]) 120 rfl Tryd.underlying55 info60 rfl (by decide) (by omega) u5 x5_1 (⟨(⟨(rd_T38 l0 x6_1).f0, (rd_T38 l0 x6_1).f1, (rd_T38 l0 x6_1).f2, (rd_T38 l0 x6_1).f3, (⟨(rd_T38 l0 x6_1).f4.f0, (rd_T38 l0 x6_1).f4.f1, (rd_T38 l0 x6_1).f4.f2, (rd_T38 l0 x6_1).f4.f3⟩ : S24), (rd_T38 l0 x6_1).f5⟩ : S38), t221⟩ : S60) [.string ((rd_T38 l0 x6_1).f0), .string ((rd_T38 l0 x6_1).f1), .string ((rd_T38 l0 x6_1).f2), .int .u8 ((rd_T38 l0 x6_1).f3), .int .i64 ((rd_T38 l0 x6_1).f4.f0), .int .i64 ((rd_T38 l0 x6_1).f4.f1), .int .i64 ((rd_T38 l0 x6_1).f4.f2), .int .i64 ((rd_T38 l0 x6_1).f4.f3), .slice A219_8 ((rd_T38 l0 x6_1).f5).length c219_8, .int .i64 t221] (fun k_ => (P0_ k_ ∨ w.heap.size ≤ k_)) (fun k_ => ((fun k_ => (P0_ k_ ∨ w.heap.size ≤ k_))) k_ ∧ some k_ ≠ (u5 : Value).ownBlock) rfl rfl ?aP (fun _ hk => hk) ?aF ?aO ?aB ?aS ?aL ?_
   (case aP => exact (k60_mkF _ _ (⟨(⟨(rd_T38 l0 x6_1).f0, (rd_T38 l0 x6_1).f1, (rd_T38 l0 x6_1).f2, (rd_T38 l0 x6_1).f3, (⟨(rd_T38 l0 x6_1).f4.f0, (rd_T38 l0 x6_1).f4.f1, (rd_T38 l0 x6_1).f4.f2, (rd_T38 l0 x6_1).f4.f3⟩ : S24), (rd_T38 l0 x6_1).f5⟩ : S38), t221⟩ : S60) (Kd.V_reads' (Kd.V_mono (ok' := (fun k_ => ((fun k_ => (P0_ k_ ∨ w.heap.size ≤ k_))) k_ ∧ some k_ ≠ (u5 : Value).ownBlock)) (show Kd.V (Kd.int .u8) 5 (w7.drewN nd) w.heap.size _ _ _ from Kd.V_drewN HL219_8.out nd) (fun k_ hk => ⟨hk.1, hk.2⟩))).2.1 (Kd.V_F (Kd.V_mono (ok' := (fun k_ => ((fun k_ => (P0_ k_ ∨ w.heap.size ≤ k_))) k_ ∧ some k_ ≠ (u5 : Value).ownBlock)) (show Kd.V (Kd.int .u8) 5 (w7.drewN nd) w.heap.size _ _ _ from Kd.V_drewN HL219_8.out nd) (fun k_ hk => ⟨hk.1, hk.2⟩)))))
   (case aB => exact (wb_ HB.out))
   (case aF => exact (fun k_ hk => (.inr (Nat.le_trans (below_size (wb_ HB.out)) hk))))
   (case aO => exact (wN_ HO_5.out))
   (case aS => exact (below_size (wb_ HB.out)))
   (case aL => have := LMc6.out; omega)
   intro v223 w8 ho hb hg hat
   rw [← Ny222.out] at ho
   have n0_ := A0_ (Kd.V_afterv (ok := (fun k_ => (P0_ k_ ∨ w.heap.size ≤ k_))) (wV_ HO_0.out) hg hat)
   have n1_ := A0_ (Kd.V_afterv (ok := (fun k_ => (P0_ k_ ∨ w.heap.size ≤ k_))) (wV_ HL219_8.out) hg hat)
   have n2_ := A0_ (Kd.V_afterv (ok := (fun k_ => (P0_ k_ ∨ w.heap.size ≤ k_))) (wV_ HL220_8.out) hg hat)
   have n3_ := A0_ (hb)
   have n4_ := A0_ (ho)
   clear HO_0
   clear HL219_8
   clear HL220_8
   clear HB
   clear HO_5
   have HO_0 := n0_
   have HL219_8 := n1_
   have HL220_8 := n2_
   have HB := n3_
   have HO224 := n4_
   clear n0_ n1_ n2_ n3_ n4_
   clear ho hb hg hat
   refine hK.out _ _ ?_
   clear hK K
   refine norm_ (a' := ?_) ?_ ?_
   rotate_left
   ·show Act.put _ (some 28) _ = _
    simp only [Act.put, List.setIfInBounds_toArray, List.set_cons_zero, List.set_cons_succ, i64_w, i32_w]
    rfl
   refine pur_ (i := 16) (N := some 5) q48_17 (any_of HT_.out (by kernel_rfl)) ?_
   refine done_ (done_of HT_.out (by kernel_rfl)) ?_
   try go_wp2
   go_roundg k1
   case measure => have := HK1.out; omega
   case rel => exact ⟨(y222), (wrap64 (x6_1 + 1)), wr_, H', ⟨by have := HK1.out; omega⟩, ⟨wV_ HO_0.out⟩, ⟨wN_ HO224.out⟩, ⟨wb_ HB.out⟩⟩
end Go.Proofs.YtfmphccoeinhcaaDoor.Print

namespace Go.Proofs.YtfmphccoeinhcaaDoor.Print
open Go.RowKit Go.Proofs.YtfmphccoeinhcaaDoorW.PrintWords Go.Proofs.YtfmphccoeinhcaaDoorW.PrintLast Go.Proofs.YtfmphccoeinhcaaDoorW.PrintMore
attribute [local go_sem] max2_int min2_int max_two min_two max_three min_three max_four min_four   -- for this text's walks alone
set_option linter.unusedVariables false
set_option linter.unusedSimpArgs false
end Go.Proofs.YtfmphccoeinhcaaDoor.Print

namespace Go.Proofs.YtfmphccoeinhcaaDoor.Print
open Go.RowKit Go.Proofs.YtfmphccoeinhcaaDoorW.PrintWords Go.Proofs.YtfmphccoeinhcaaDoorW.PrintLast Go.Proofs.YtfmphccoeinhcaaDoorW.PrintMore
attribute [local go_sem] max2_int min2_int max_two min_two max_three min_three max_four min_four   -- for this text's walks alone
set_option linter.unusedVariables false
set_option linter.unusedSimpArgs false
end Go.Proofs.YtfmphccoeinhcaaDoor.Print

namespace Go.Proofs.YtfmphccoeinhcaaDoor.Print
open Go.RowKit Go.Proofs.YtfmphccoeinhcaaDoorW.PrintWords Go.Proofs.YtfmphccoeinhcaaDoorW.PrintLast Go.Proofs.YtfmphccoeinhcaaDoorW.PrintMore
attribute [local go_sem] max2_int min2_int max_two min_two max_three min_three max_four min_four   -- for this text's walks alone
set_option linter.unusedVariables false
set_option linter.unusedSimpArgs false
mutual
def bindleref18_Keep.l0 : Nat → List ByteArray → List (S60) → List (S60) → Int → Option ((List (S38)))
 | 0, _, _, _, _ => none
 | k + 1, x1, x5, x6, x7 => if x7 < (x6.length : Int) then (bindleref18_Keep.l1 k x1 x5 x6 x7 0) else ((bindleref08_Sorted.f x5).bind fun t617 => (some t617))
def bindleref18_Keep.l1 : Nat → List ByteArray → List (S60) → List (S60) → Int → Int → Option ((List (S38)))
 | 0, _, _, _, _, _ => none
 | k + 1, x1, x5, x6, x7, x8 => if x8 < (x1.length : Int) then (if 0 ≤ x8 then (if 0 ≤ x7 then (if x7 < (x6.length : Int) then (if (rdOf ByteArray.empty x1 x8).toList = ((rd_T60 x6 x7).f0.f0).toList then (if x5.length < 1172812402961 then (bindleref18_Keep.l0 k x1 (x5 ++ [(⟨(⟨(rd_T60 x6 x7).f0.f0, (rd_T60 x6 x7).f0.f1, (rd_T60 x6 x7).f0.f2, (rd_T60 x6 x7).f0.f3, (⟨(rd_T60 x6 x7).f0.f4.f0, (rd_T60 x6 x7).f0.f4.f1, (rd_T60 x6 x7).f0.f4.f2, (rd_T60 x6 x7).f0.f4.f3⟩ : S24), (rd_T60 x6 x7).f0.f5⟩ : S38), (rd_T60 x6 x7).f1⟩ : S60)]) x6 (wrap64 (x7 + 1))) else (none)) else (bindleref18_Keep.l1 k x1 x5 x6 x7 (wrap64 (x8 + 1)))) else (none)) else (none)) else (none)) else (bindleref18_Keep.l0 k x1 x5 x6 (wrap64 (x7 + 1)))
end
def bindleref18_Keep.f (k : Nat) (l0 : List (S38)) (l1 : List ByteArray) : Option ((List (S38))) := (bindleref18_classes.f k l0 0).bind fun t614 => (bindleref18_Keep.l0 k l1 ([] : List (S60)) t614 0)
set_option maxHeartbeats 8000000 in
set_option maxRecDepth 100000 in
theorem bindleref18_Keep.calls (k : Nat) (P0_ : Nat → Prop) (A0 : Option Addr) (c0 : Nat) (l0 : List (S38)) (A1 : Option Addr) (c1 : Nat) (l1 : List ByteArray) (r : List (S38)) (w : World) (hs0 : Kd.V k38 38 w w.heap.size (fun k_ => P0_ k_) (.slice A0 l0.length c0) l0) (hr1 : Kd.C Kd.string w A1 l1.length l1) (hc1 : l1.length ≤ c1) (h : bindleref18_Keep.f k l0 l1 = some r) :
  Calls Tryd.prog 37 #[.slice A0 l0.length c0, .slice A1 l1.length c1] w fun e w' => ∃ v0_ : Value, e = .returned (v0_) ∧ Kd.V k38 38 w' w.heap.size (fun k_ => (P0_ k_ ∨ w.heap.size ≤ k_)) v0_ r ∧ Below w.heap.size w w' := by
 have hu60 := Tryd.underlying60
 have HO0 := A0_ (show Kd.V k38 38 w w.heap.size (fun k_ => (P0_ k_ ∨ w.heap.size ≤ k_)) (.slice A0 l0.length c0) l0 from Kd.V_mono hs0 (fun k_ hk => .inl hk))
 have HR1 := A0_ hr1
 have HC1 := A0_ hc1
 clear hr1 hc1
 have HB := A0_ (Below.refl w.heap.size w)
 have H : ((bindleref18_classes.f k l0 0).bind fun t614 => (bindleref18_Keep.l0 k l1 ([] : List (S60)) t614 0)) = some r := h
 clear h
 replace H := Option.bind_eq_some_iff.mp H
 obtain ⟨t614, A30, H⟩ := H
 replace H : (bindleref18_Keep.l0 k l1 ([] : List (S60)) t614 0) = some r := H
 have A3 := A0_ A30
 clear A30
 have H' := A0_ H
 clear H
 go_enter Tryd.func37, Tryd.ntmps37
 go_wp2_with (first | (go_at_call 48; (with_reducible refine (bindleref18_classes.calls k (fun k_ => (P0_ k_ ∨ w.heap.size ≤ k_)) _ _ l0 0 t614 _ ?side1 A3.out).mono ?_); (case side1 => exact HO0.out); rintro e w4 ⟨v615, rfl, ho0, hb⟩; have n0_ := A0_ (Kd.V_elder' (wV_ HO0.out) (Kd.N_base ho0) hb); have n1_ := A0_ (Kd.N_lower (Kd.N_mono (ok' := fun k_ => (P0_ k_ ∨ w.heap.size ≤ k_)) ho0 (fun k_ hk_ => Or.elim hk_ (fun hs_ => hs_) (fun hn_ => (.inr (Nat.le_trans (below_size (wb_ HB.out)) hn_))))) (below_size (wb_ HB.out))); have n2_ := A0_ (below_step (wb_ HB.out) hb); clear HO0; clear HB; have HO0 := n0_; have HO616 := n1_; have HB := n2_; clear n0_ n1_ n2_; (try clear hb); (try clear hb2); (try clear hk); (try clear hi); (try clear ho0)))
 repeat (go_quiet (first | (go_at_call 48; (with_reducible refine (bindleref18_classes.calls k (fun k_ => (P0_ k_ ∨ w.heap.size ≤ k_)) _ _ l0 0 t614 _ ?side1 A3.out).mono ?_); (case side1 => exact HO0.out); rintro e w4 ⟨v615, rfl, ho0, hb⟩; have n0_ := A0_ (Kd.V_elder' (wV_ HO0.out) (Kd.N_base ho0) hb); have n1_ := A0_ (Kd.N_lower (Kd.N_mono (ok' := fun k_ => (P0_ k_ ∨ w.heap.size ≤ k_)) ho0 (fun k_ hk_ => Or.elim hk_ (fun hs_ => hs_) (fun hn_ => (.inr (Nat.le_trans (below_size (wb_ HB.out)) hn_))))) (below_size (wb_ HB.out))); have n2_ := A0_ (below_step (wb_ HB.out) hb); clear HO0; clear HB; have HO0 := n0_; have HO616 := n1_; have HB := n2_; clear n0_ n1_ n2_; (try clear hb); (try clear hb2); (try clear hk); (try clear hi); (try clear ho0))); try go_wp2_with (first | (go_at_call 48; (with_reducible refine (bindleref18_classes.calls k (fun k_ => (P0_ k_ ∨ w.heap.size ≤ k_)) _ _ l0 0 t614 _ ?side1 A3.out).mono ?_); (case side1 => exact HO0.out); rintro e w4 ⟨v615, rfl, ho0, hb⟩; have n0_ := A0_ (Kd.V_elder' (wV_ HO0.out) (Kd.N_base ho0) hb); have n1_ := A0_ (Kd.N_lower (Kd.N_mono (ok' := fun k_ => (P0_ k_ ∨ w.heap.size ≤ k_)) ho0 (fun k_ hk_ => Or.elim hk_ (fun hs_ => hs_) (fun hn_ => (.inr (Nat.le_trans (below_size (wb_ HB.out)) hn_))))) (below_size (wb_ HB.out))); have n2_ := A0_ (below_step (wb_ HB.out) hb); clear HO0; clear HB; have HO0 := n0_; have HO616 := n1_; have HB := n2_; clear n0_ n1_ n2_; (try clear hb); (try clear hb2); (try clear hk); (try clear hi); (try clear ho0))))
 go_loopg [5, 7] k (fun kq v5 v7 w' => ∃ (x5_1 : List (S60)) (x7_1 : Int), v7 = .int .i64 x7_1 ∧ Aside0 (bindleref18_Keep.l0 kq l1 x5_1 t614 x7_1 = some r) ∧ Aside0 (kq ≤ k) ∧ Aside0 (Kd.N k60 60 w' w.heap.size (fun k_ => (P0_ k_ ∨ w.heap.size ≤ k_) ∧ some k_ ≠ (v615 : Value).ownBlock) v5 x5_1) ∧ Aside0 (Kd.N k60 60 w' w.heap.size (fun k_ => (P0_ k_ ∨ w.heap.size ≤ k_) ∧ some k_ ≠ (v5 : Value).ownBlock) v615 t614) ∧ Aside0 (Below w.heap.size w w'))
 case atStart => exact ⟨(([] : List (S60))), (0), wr_, H', ⟨Nat.le_refl _⟩, ⟨by first | exact Kd.S_nil _ _ _ _ _ | exact Kd.N_nil _ _ _ _ _ | exact Kd.V_nil _ _ _ _ _ | exact Kd.Q_nil _ _ _ _ _ | exact Kd.R_nil _ _ _ _ _⟩, ⟨by (with_reducible repeat (first | apply Kd.N_alloc | apply Kd.N_drewN | apply Kd.N_drew)); exact Kd.N_mono HO616.out (fun _ hk => ⟨hk, (by simp [Value.ownBlock])⟩)⟩, ⟨wb_ HB.out⟩⟩
 case round =>
  clear H'
  try clear c1
  try clear p2
  try clear c3
  obtain ⟨x5_1, x7_1, rfl, HA, HK1, HO_5, HO_6, HB⟩ := hrel
  cases gk with
  | zero => exact absurd HA.out (by simp [bindleref18_Keep.l0])
  | succ k1 =>
   have H := HA.out
   clear HA
   simp only [bindleref18_Keep.l0] at H
   by_cases c5 : x7_1 < (t614.length : Int)
   rotate_left
   ·rw [if_neg c5] at H
    have c5b0 : decide (x7_1 < (t614.length : Int)) = false := decide_eq_false c5
    clear c5
    replace H := Option.bind_eq_some_iff.mp H
    obtain ⟨t617, A140, H⟩ := H
    replace H : (some t617) = some r := H
    have A14 := A0_ A140
    clear A140
    obtain rfl := Option.some.inj H
    obtain ⟨Ao15, co15, eo15⟩ := Kd.N_slice HO_6.out
    subst eo15
    obtain ⟨Ao16, co16, eo16⟩ := Kd.N_slice HO_5.out
    subst eo16
    go_wp2_with (first | (go_at_call 29; (with_reducible refine (bindleref08_Sorted.calls _ _ x5_1 t617 _ ?side1 ?side2 A14.out).mono ?_); (case side1 => exact wc_ (Kd.N_reads' HO_5.out).2.2); (case side2 => exact (Kd.N_reads' HO_5.out).2.1); rintro e w17 ⟨v618, rfl, ho0, hb⟩; have n0_ := A0_ (Kd.N_below (wN_ HO_5.out) hb); have n1_ := A0_ (Kd.N_below (wN_ HO_6.out) hb); have n2_ := A0_ (Kd.V_lower (Kd.V_mono (ok' := fun k_ => (P0_ k_ ∨ w.heap.size ≤ k_) ∧ some k_ ≠ (.slice Ao16 x5_1.length co16 : Value).ownBlock ∧ some k_ ≠ (.slice Ao15 t614.length co15 : Value).ownBlock) ho0 (fun k_ hk_ => ⟨(.inr (Nat.le_trans (below_size (wb_ HB.out)) hk_)), (Kd.fresh' (Kd.N_lt (wN_ HO_5.out)) k_ hk_), (Kd.fresh' (Kd.N_lt (wN_ HO_6.out)) k_ hk_)⟩)) (below_size (wb_ HB.out))); have n3_ := A0_ (below_step (wb_ HB.out) hb); clear HO_5; clear HO_6; clear HB; have HO_5 := n0_; have HO_6 := n1_; have HO619 := n2_; have HB := n3_; clear n0_ n1_ n2_ n3_; (try clear hb); (try clear hb2); (try clear hk); (try clear hi); (try clear ho0)))
    repeat (go_quiet (first | (go_at_call 29; (with_reducible refine (bindleref08_Sorted.calls _ _ x5_1 t617 _ ?side1 ?side2 A14.out).mono ?_); (case side1 => exact wc_ (Kd.N_reads' HO_5.out).2.2); (case side2 => exact (Kd.N_reads' HO_5.out).2.1); rintro e w17 ⟨v618, rfl, ho0, hb⟩; have n0_ := A0_ (Kd.N_below (wN_ HO_5.out) hb); have n1_ := A0_ (Kd.N_below (wN_ HO_6.out) hb); have n2_ := A0_ (Kd.V_lower (Kd.V_mono (ok' := fun k_ => (P0_ k_ ∨ w.heap.size ≤ k_) ∧ some k_ ≠ (.slice Ao16 x5_1.length co16 : Value).ownBlock ∧ some k_ ≠ (.slice Ao15 t614.length co15 : Value).ownBlock) ho0 (fun k_ hk_ => ⟨(.inr (Nat.le_trans (below_size (wb_ HB.out)) hk_)), (Kd.fresh' (Kd.N_lt (wN_ HO_5.out)) k_ hk_), (Kd.fresh' (Kd.N_lt (wN_ HO_6.out)) k_ hk_)⟩)) (below_size (wb_ HB.out))); have n3_ := A0_ (below_step (wb_ HB.out) hb); clear HO_5; clear HO_6; clear HB; have HO_5 := n0_; have HO_6 := n1_; have HO619 := n2_; have HB := n3_; clear n0_ n1_ n2_ n3_; (try clear hb); (try clear hb2); (try clear hk); (try clear hi); (try clear ho0))); try go_wp2_with (first | (go_at_call 29; (with_reducible refine (bindleref08_Sorted.calls _ _ x5_1 t617 _ ?side1 ?side2 A14.out).mono ?_); (case side1 => exact wc_ (Kd.N_reads' HO_5.out).2.2); (case side2 => exact (Kd.N_reads' HO_5.out).2.1); rintro e w17 ⟨v618, rfl, ho0, hb⟩; have n0_ := A0_ (Kd.N_below (wN_ HO_5.out) hb); have n1_ := A0_ (Kd.N_below (wN_ HO_6.out) hb); have n2_ := A0_ (Kd.V_lower (Kd.V_mono (ok' := fun k_ => (P0_ k_ ∨ w.heap.size ≤ k_) ∧ some k_ ≠ (.slice Ao16 x5_1.length co16 : Value).ownBlock ∧ some k_ ≠ (.slice Ao15 t614.length co15 : Value).ownBlock) ho0 (fun k_ hk_ => ⟨(.inr (Nat.le_trans (below_size (wb_ HB.out)) hk_)), (Kd.fresh' (Kd.N_lt (wN_ HO_5.out)) k_ hk_), (Kd.fresh' (Kd.N_lt (wN_ HO_6.out)) k_ hk_)⟩)) (below_size (wb_ HB.out))); have n3_ := A0_ (below_step (wb_ HB.out) hb); clear HO_5; clear HO_6; clear HB; have HO_5 := n0_; have HO_6 := n1_; have HO619 := n2_; have HB := n3_; clear n0_ n1_ n2_ n3_; (try clear hb); (try clear hb2); (try clear hk); (try clear hi); (try clear ho0))))
    go_ret
    exact ⟨_, we_, by (with_reducible repeat (first | apply Va_ | apply VN_ | apply V1_)); exact Kd.V_mono HO619.out (fun _ hk => hk.1), wb_ HB.out⟩
   rw [if_pos c5] at H
   have c5b0 : decide (x7_1 < (t614.length : Int)) = true := decide_eq_true c5
   clear c5
   have H' := A0_ H
   clear H
   obtain ⟨Ao6, co6, eo6⟩ := Kd.N_slice HO_6.out
   subst eo6
   go_wp2
   repeat (go_quiet (fail); try go_wp2)
   go_loopg [5, 8] k1 (fun kq v5 v8 w' => ∃ (x5_2 : List (S60)) (x8_2 : Int), v8 = .int .i64 x8_2 ∧ Aside0 (bindleref18_Keep.l1 kq l1 x5_2 t614 x7_1 x8_2 = some r) ∧ Aside0 (kq ≤ k1) ∧ Aside0 (Kd.N k60 60 w' w.heap.size (fun k_ => (P0_ k_ ∨ w.heap.size ≤ k_) ∧ some k_ ≠ ((.slice Ao6 t614.length co6) : Value).ownBlock) v5 x5_2) ∧ Aside0 (Kd.N k60 60 w' w.heap.size (fun k_ => (P0_ k_ ∨ w.heap.size ≤ k_) ∧ some k_ ≠ (v5 : Value).ownBlock) (.slice Ao6 t614.length co6) t614) ∧ Aside0 (Below w.heap.size w w'))
   case atStart => exact ⟨(x5_1), (0), wr_, H', ⟨Nat.le_refl _⟩, ⟨wN_ HO_5.out⟩, ⟨wN_ HO_6.out⟩, ⟨wb_ HB.out⟩⟩
   case round =>
    clear H'
    try clear c1
    try clear p2
    try clear c3
    try clear c5
    try clear c5b0
    try clear p2
    obtain ⟨x5_2, x8_2, rfl, HA, HK2, HO_5, HO_6, HB⟩ := hrel
    cases gk with
    | zero => exact absurd HA.out (by simp [bindleref18_Keep.l1])
    | succ k2 =>
     have H := HA.out
     clear HA
     simp only [bindleref18_Keep.l1] at H
     by_cases c7 : x8_2 < (l1.length : Int)
     rotate_left
     ·rw [if_neg c7] at H
      have c7b0 : decide (x8_2 < (l1.length : Int)) = false := decide_eq_false c7
      clear c7
      have H' := A0_ H
      clear H
      go_wp2
      repeat (go_quiet (fail); try go_wp2)
      go_roundg k2
      case measure => have := HK1.out; have := HK2.out; omega
      case rel => exact ⟨(x5_2), (wrap64 (x7_1 + 1)), wr_, H', ⟨by have := HK1.out; have := HK2.out; omega⟩, ⟨wN_ HO_5.out⟩, ⟨wN_ HO_6.out⟩, ⟨wb_ HB.out⟩⟩
     rw [if_pos c7] at H
     have c7b0 : decide (x8_2 < (l1.length : Int)) = true := decide_eq_true c7
     clear c7
     by_cases c8 : 0 ≤ x8_2
     rotate_left
     ·rw [if_neg c8] at H
      exact absurd H (by simp)
     rw [if_pos c8] at H
     have c8b0 : decide (0 ≤ x8_2) = true := decide_eq_true c8
     clear c8
     by_cases c9 : 0 ≤ x7_1
     rotate_left
     ·rw [if_neg c9] at H
      exact absurd H (by simp)
     rw [if_pos c9] at H
     have c9b0 : decide (0 ≤ x7_1) = true := decide_eq_true c9
     clear c9
     by_cases c10 : x7_1 < (t614.length : Int)
     rotate_left
     ·rw [if_neg c10] at H
      exact absurd H (by simp)
     rw [if_pos c10] at H
     have c10b0 : decide (x7_1 < (t614.length : Int)) = true := decide_eq_true c10
     clear c10
     by_cases c11 : (rdOf ByteArray.empty l1 x8_2).toList = ((rd_T60 t614 x7_1).f0.f0).toList
     rotate_left
     ·rw [if_neg c11] at H
      have c11b0 : ((rdOf ByteArray.empty l1 x8_2).toList == ((rd_T60 t614 x7_1).f0.f0).toList) = false := beq_eq_false_iff_ne.mpr c11
      have c11b1 : ((rdOf ByteArray.empty l1 x8_2).toList != ((rd_T60 t614 x7_1).f0.f0).toList) = true := bne_iff_ne.mpr c11
      have H' := A0_ H
      clear H
      have p620 : 0 ≤ (x8_2 : Int) := wd_
      have q620 : x8_2 < (l1.length : Int) := wd_
      obtain ⟨ad620, e620, hx620_0⟩ := Kd.at_string HR1.out x8_2 p620 q620
      cases e620
      replace hx620_0 := (HB.out.cell (World.block_lt_of_cell? w _ hx620_0)).trans hx620_0
      replace p620 := eq_true p620
      replace q620 := eq_true q620
      have p621 : 0 ≤ (x7_1 : Int) := wd_
      have q621 : x7_1 < (t614.length : Int) := wd_
      obtain ⟨ad621, A621_8, c621_8, e621, hx621_0, hx621_1, hx621_2, hx621_3, hx621_4, hx621_5, hx621_6, hx621_7, hx621_8, hx621_9, hl621_8, hi621_8⟩ := at_T60 (Kd.N_reads' HO_6.out).2.2 x7_1 p621 q621
      cases e621
      obtain ⟨ce621, hce621, hMe621, hcc621⟩ := Kd.N_get HO_6.out z60 x7_1 p621 (by first | exact q621 | exact wd_ | (have e_ := (Kd.N_reads' HO_6.out).1; omega))
      obtain ⟨ua621_8, uc621_8, rfl, ul621_8, ge621_8⟩ := k60_openF hMe621
      have hv621_8 := hcc621 8 _ rfl
      rw [add_field _ _ 8 (by omega)] at hv621_8
      replace hv621_8 := Option.some.inj (hv621_8.symm.trans hx621_8)
      injection hv621_8 with hva_ hvn_ hvc_
      rw [hva_] at ge621_8
      rw [hvc_] at ul621_8
      have HL621_8 := A0_ (show Kd.V (Kd.int .u8) 5 _ w.heap.size _ _ ((rd_T60 t614 x7_1).f0.f5) from Kd.V_mk ul621_8 ge621_8)
      clear hva_ hvn_ hvc_ ge621_8 ul621_8
      clear hcc621 hce621
      have HR621_8 := A0_ hi621_8
      have HC621_8 := A0_ hl621_8
      clear hi621_8 hl621_8
      replace p621 := eq_true p621
      replace q621 := eq_true q621
      go_wp2
      repeat (go_quiet (fail); try go_wp2)
      go_roundg k2
      case measure => have := HK1.out; have := HK2.out; omega
      case rel => exact ⟨(x5_2), (wrap64 (x8_2 + 1)), wr_, H', ⟨by have := HK1.out; have := HK2.out; omega⟩, ⟨wN_ HO_5.out⟩, ⟨wN_ HO_6.out⟩, ⟨wb_ HB.out⟩⟩
     rw [if_pos c11] at H
     have c11b0 : ((rdOf ByteArray.empty l1 x8_2).toList == ((rd_T60 t614 x7_1).f0.f0).toList) = true := beq_iff_eq.mpr c11
     have c11b1 : ((rdOf ByteArray.empty l1 x8_2).toList != ((rd_T60 t614 x7_1).f0.f0).toList) = false := bne_eq_false_iff_eq.mpr c11
     clear c11
     by_cases c12 : x5_2.length < 1172812402961
     rotate_left
     ·rw [if_neg c12] at H
      exact absurd H (by simp)
     rw [if_pos c12] at H
     have LMc12 := A0_ c12
     clear c12
     obtain ⟨y623, hy623⟩ : ∃ y_ : List (S60), y_ = (x5_2 ++ [(⟨(⟨(rd_T60 t614 x7_1).f0.f0, (rd_T60 t614 x7_1).f0.f1, (rd_T60 t614 x7_1).f0.f2, (rd_T60 t614 x7_1).f0.f3, (⟨(rd_T60 t614 x7_1).f0.f4.f0, (rd_T60 t614 x7_1).f0.f4.f1, (rd_T60 t614 x7_1).f0.f4.f2, (rd_T60 t614 x7_1).f0.f4.f3⟩ : S24), (rd_T60 t614 x7_1).f0.f5⟩ : S38), (rd_T60 t614 x7_1).f1⟩ : S60)]) := ⟨_, rfl⟩
     replace H : (bindleref18_Keep.l0 k2 l1 y623 t614 (wrap64 (x7_1 + 1))) = some r := by first | (rw [hy623]; with_reducible exact H) | (have H2_ := (Option.bind_some _ _).symm.trans H; rw [hy623]; with_reducible exact H2_) | (have H2_ := (Option.bind_some _ _).symm.trans H; with_reducible exact H2_) | with_reducible exact H | (rw [hy623]; exact H) | exact H
     have Ny623 := A0_ hy623
     clear hy623
     have H' := A0_ H
     clear H
     have p620 : 0 ≤ (x8_2 : Int) := wd_
     have q620 : x8_2 < (l1.length : Int) := wd_
     obtain ⟨ad620, e620, hx620_0⟩ := Kd.at_string HR1.out x8_2 p620 q620
     cases e620
     replace hx620_0 := (HB.out.cell (World.block_lt_of_cell? w _ hx620_0)).trans hx620_0
     replace p620 := eq_true p620
     replace q620 := eq_true q620
     have p621 : 0 ≤ (x7_1 : Int) := wd_
     have q621 : x7_1 < (t614.length : Int) := wd_
     obtain ⟨ad621, A621_8, c621_8, e621, hx621_0, hx621_1, hx621_2, hx621_3, hx621_4, hx621_5, hx621_6, hx621_7, hx621_8, hx621_9, hl621_8, hi621_8⟩ := at_T60 (Kd.N_reads' HO_6.out).2.2 x7_1 p621 q621
     cases e621
     obtain ⟨ce621, hce621, hMe621, hcc621⟩ := Kd.N_get HO_6.out z60 x7_1 p621 (by first | exact q621 | exact wd_ | (have e_ := (Kd.N_reads' HO_6.out).1; omega))
     obtain ⟨ua621_8, uc621_8, rfl, ul621_8, ge621_8⟩ := k60_openF hMe621
     have hv621_8 := hcc621 8 _ rfl
     rw [add_field _ _ 8 (by omega)] at hv621_8
     replace hv621_8 := Option.some.inj (hv621_8.symm.trans hx621_8)
     injection hv621_8 with hva_ hvn_ hvc_
     rw [hva_] at ge621_8
     rw [hvc_] at ul621_8
     have HL621_8 := A0_ (show Kd.V (Kd.int .u8) 5 _ w.heap.size _ _ ((rd_T60 t614 x7_1).f0.f5) from Kd.V_mk ul621_8 ge621_8)
     clear hva_ hvn_ hvc_ ge621_8 ul621_8
     clear hcc621 hce621
     have HR621_8 := A0_ hi621_8
     have HC621_8 := A0_ hl621_8
     clear hi621_8 hl621_8
     replace p621 := eq_true p621
     replace q621 := eq_true q621
     have p622 : 0 ≤ (x7_1 : Int) := wd_
     have q622 : x7_1 < (t614.length : Int) := wd_
     obtain ⟨ad622, A622_8, c622_8, e622, hx622_0, hx622_1, hx622_2, hx622_3, hx622_4, hx622_5, hx622_6, hx622_7, hx622_8, hx622_9, hl622_8, hi622_8⟩ := at_T60 (Kd.N_reads' HO_6.out).2.2 x7_1 p622 q622
     obtain rfl : ad621 = ad622 := (by injection e622)
     obtain ⟨ce622, hce622, hMe622, hcc622⟩ := Kd.N_get HO_6.out z60 x7_1 p622 (by first | exact q622 | exact wd_ | (have e_ := (Kd.N_reads' HO_6.out).1; omega))
     obtain ⟨ua622_8, uc622_8, rfl, ul622_8, ge622_8⟩ := k60_openF hMe622
     have hv622_8 := hcc622 8 _ rfl
     rw [add_field _ _ 8 (by omega)] at hv622_8
     replace hv622_8 := Option.some.inj (hv622_8.symm.trans hx622_8)
     injection hv622_8 with hva_ hvn_ hvc_
     rw [hva_] at ge622_8
     rw [hvc_] at ul622_8
     have HL622_8 := A0_ (show Kd.V (Kd.int .u8) 5 _ w.heap.size _ _ ((rd_T60 t614 x7_1).f0.f5) from Kd.V_mk ul622_8 ge622_8)
     clear hva_ hvn_ hvc_ ge622_8 ul622_8
     clear hcc622 hce622
     have HR622_8 := A0_ hi622_8
     have HC622_8 := A0_ hl622_8
     clear hi622_8 hl622_8
     replace p622 := eq_true p622
     replace q622 := eq_true q622
     have ea_ := Option.some.inj (hx621_8.symm.trans hx622_8)
     injection ea_ with ea_ en_ ec_
     subst ea_
     subst ec_
     clear en_
     go_wp2_with (first | ((with_reducible refine gate_builtin (b := .append) (xs := #[.tmp 34, .tmp 39]) rfl ?_); at_builtin; refine Kd.N_append k60 (w0 := w) w.heap.size rfl (.tmp 34) (.tmp 39) 55 60 (.agg #[(.string ⟨#[]⟩), (.string ⟨#[]⟩), (.string ⟨#[]⟩), (.int .u8 0), (.int .i64 0), (.int .i64 0), (.int .i64 0), (.int .i64 0), (.slice none 0 0), (.int .i64 0)]) 120 rfl Tryd.underlying55 info60 rfl (by decide) (by omega) u5 x5_2 (⟨(⟨(rd_T60 t614 x7_1).f0.f0, (rd_T60 t614 x7_1).f0.f1, (rd_T60 t614 x7_1).f0.f2, (rd_T60 t614 x7_1).f0.f3, (⟨(rd_T60 t614 x7_1).f0.f4.f0, (rd_T60 t614 x7_1).f0.f4.f1, (rd_T60 t614 x7_1).f0.f4.f2, (rd_T60 t614 x7_1).f0.f4.f3⟩ : S24), (rd_T60 t614 x7_1).f0.f5⟩ : S38), (rd_T60 t614 x7_1).f1⟩ : S60) [.string ((rd_T60 t614 x7_1).f0.f0), .string ((rd_T60 t614 x7_1).f0.f1), .string ((rd_T60 t614 x7_1).f0.f2), .int .u8 ((rd_T60 t614 x7_1).f0.f3), .int .i64 ((rd_T60 t614 x7_1).f0.f4.f0), .int .i64 ((rd_T60 t614 x7_1).f0.f4.f1), .int .i64 ((rd_T60 t614 x7_1).f0.f4.f2), .int .i64 ((rd_T60 t614 x7_1).f0.f4.f3), .slice A621_8 ((rd_T60 t614 x7_1).f0.f5).length c621_8, .int .i64 ((rd_T60 t614 x7_1).f1)] (fun k_ => (P0_ k_ ∨ w.heap.size ≤ k_) ∧ some k_ ≠ (.slice (some ad621) t614.length co6 : Value).ownBlock) (fun k_ => ((fun k_ => (P0_ k_ ∨ w.heap.size ≤ k_) ∧ some k_ ≠ (.slice (some ad621) t614.length co6 : Value).ownBlock)) k_ ∧ some k_ ≠ (u5 : Value).ownBlock) rfl rfl ?aP (fun _ hk => hk) ?aF ?aO ?aB ?aS ?aL ?_; (case aP => exact (k60_mkF _ _ (⟨(⟨(rd_T60 t614 x7_1).f0.f0, (rd_T60 t614 x7_1).f0.f1, (rd_T60 t614 x7_1).f0.f2, (rd_T60 t614 x7_1).f0.f3, (⟨(rd_T60 t614 x7_1).f0.f4.f0, (rd_T60 t614 x7_1).f0.f4.f1, (rd_T60 t614 x7_1).f0.f4.f2, (rd_T60 t614 x7_1).f0.f4.f3⟩ : S24), (rd_T60 t614 x7_1).f0.f5⟩ : S38), (rd_T60 t614 x7_1).f1⟩ : S60) (Kd.V_reads' (Kd.V_mono (ok' := (fun k_ => ((fun k_ => (P0_ k_ ∨ w.heap.size ≤ k_) ∧ some k_ ≠ (.slice (some ad621) t614.length co6 : Value).ownBlock)) k_ ∧ some k_ ≠ (u5 : Value).ownBlock)) (HL622_8.out) (fun k_ hk => ⟨⟨hk.1.1, hk.2⟩, hk.1.2⟩))).2.1 (Kd.V_F (Kd.V_mono (ok' := (fun k_ => ((fun k_ => (P0_ k_ ∨ w.heap.size ≤ k_) ∧ some k_ ≠ (.slice (some ad621) t614.length co6 : Value).ownBlock)) k_ ∧ some k_ ≠ (u5 : Value).ownBlock)) (HL622_8.out) (fun k_ hk => ⟨⟨hk.1.1, hk.2⟩, hk.1.2⟩))))); (case aB => exact (wb_ HB.out)); (case aF => exact (fun k_ hk => ⟨(.inr (Nat.le_trans (below_size (wb_ HB.out)) hk)), Kd.fresh' (Kd.N_lt (wN_ HO_6.out)) k_ hk⟩)); (case aO => exact (wN_ HO_5.out)); (case aS => exact (below_size (wb_ HB.out))); (case aL => have := LMc12.out; omega); intro v624 w13 ho hb hg hat; rw [← Ny623.out] at ho; have n0_ := A0_ (Kd.N_afterv (ok := (fun k_ => (P0_ k_ ∨ w.heap.size ≤ k_))) (wN_ HO_6.out) hg hat); have n1_ := A0_ (Kd.V_afterv (ok := (fun k_ => (P0_ k_ ∨ w.heap.size ≤ k_) ∧ some k_ ≠ (.slice (some ad621) t614.length co6 : Value).ownBlock)) (by (with_reducible repeat (first | apply Va_ | apply VN_ | apply V1_)); exact Kd.V_mono HL621_8.out (fun _ hk => ⟨⟨hk.1.1, hk.2⟩, hk.1.2⟩)) hg hat); have n2_ := A0_ (Kd.V_afterv (ok := (fun k_ => (P0_ k_ ∨ w.heap.size ≤ k_) ∧ some k_ ≠ (.slice (some ad621) t614.length co6 : Value).ownBlock)) (by (with_reducible repeat (first | apply Va_ | apply VN_ | apply V1_)); exact Kd.V_mono HL622_8.out (fun _ hk => ⟨⟨hk.1.1, hk.2⟩, hk.1.2⟩)) hg hat); have n3_ := A0_ (hb); have n4_ := A0_ (ho); clear HO_6; clear HL621_8; clear HL622_8; clear HB; clear HO_5; have HO_6 := n0_; have HL621_8 := n1_; have HL622_8 := n2_; have HB := n3_; have HO625 := n4_; clear n0_ n1_ n2_ n3_ n4_; clear ho hb hg hat))
     repeat (go_quiet (first | ((with_reducible refine gate_builtin (b := .append) (xs := #[.tmp 34, .tmp 39]) rfl ?_); at_builtin; refine Kd.N_append k60 (w0 := w) w.heap.size rfl (.tmp 34) (.tmp 39) 55 60 (.agg #[(.string ⟨#[]⟩), (.string ⟨#[]⟩), (.string ⟨#[]⟩), (.int .u8 0), (.int .i64 0), (.int .i64 0), (.int .i64 0), (.int .i64 0), (.slice none 0 0), (.int .i64 0)]) 120 rfl Tryd.underlying55 info60 rfl (by decide) (by omega) u5 x5_2 (⟨(⟨(rd_T60 t614 x7_1).f0.f0, (rd_T60 t614 x7_1).f0.f1, (rd_T60 t614 x7_1).f0.f2, (rd_T60 t614 x7_1).f0.f3, (⟨(rd_T60 t614 x7_1).f0.f4.f0, (rd_T60 t614 x7_1).f0.f4.f1, (rd_T60 t614 x7_1).f0.f4.f2, (rd_T60 t614 x7_1).f0.f4.f3⟩ : S24), (rd_T60 t614 x7_1).f0.f5⟩ : S38), (rd_T60 t614 x7_1).f1⟩ : S60) [.string ((rd_T60 t614 x7_1).f0.f0), .string ((rd_T60 t614 x7_1).f0.f1), .string ((rd_T60 t614 x7_1).f0.f2), .int .u8 ((rd_T60 t614 x7_1).f0.f3), .int .i64 ((rd_T60 t614 x7_1).f0.f4.f0), .int .i64 ((rd_T60 t614 x7_1).f0.f4.f1), .int .i64 ((rd_T60 t614 x7_1).f0.f4.f2), .int .i64 ((rd_T60 t614 x7_1).f0.f4.f3), .slice A621_8 ((rd_T60 t614 x7_1).f0.f5).length c621_8, .int .i64 ((rd_T60 t614 x7_1).f1)] (fun k_ => (P0_ k_ ∨ w.heap.size ≤ k_) ∧ some k_ ≠ (.slice (some ad621) t614.length co6 : Value).ownBlock) (fun k_ => ((fun k_ => (P0_ k_ ∨ w.heap.size ≤ k_) ∧ some k_ ≠ (.slice (some ad621) t614.length co6 : Value).ownBlock)) k_ ∧ some k_ ≠ (u5 : Value).ownBlock) rfl rfl ?aP (fun _ hk => hk) ?aF ?aO ?aB ?aS ?aL ?_; (case aP => exact (k60_mkF _ _ (⟨(⟨(rd_T60 t614 x7_1).f0.f0, (rd_T60 t614 x7_1).f0.f1, (rd_T60 t614 x7_1).f0.f2, (rd_T60 t614 x7_1).f0.f3, (⟨(rd_T60 t614 x7_1).f0.f4.f0, (rd_T60 t614 x7_1).f0.f4.f1, (rd_T60 t614 x7_1).f0.f4.f2, (rd_T60 t614 x7_1).f0.f4.f3⟩ : S24), (rd_T60 t614 x7_1).f0.f5⟩ : S38), (rd_T60 t614 x7_1).f1⟩ : S60) (Kd.V_reads' (Kd.V_mono (ok' := (fun k_ => ((fun k_ => (P0_ k_ ∨ w.heap.size ≤ k_) ∧ some k_ ≠ (.slice (some ad621) t614.length co6 : Value).ownBlock)) k_ ∧ some k_ ≠ (u5 : Value).ownBlock)) (show Kd.V (Kd.int .u8) 5 (wr.drewN nq) w.heap.size _ _ _ from Kd.V_drewN HL622_8.out nq) (fun k_ hk => ⟨⟨hk.1.1, hk.2⟩, hk.1.2⟩))).2.1 (Kd.V_F (Kd.V_mono (ok' := (fun k_ => ((fun k_ => (P0_ k_ ∨ w.heap.size ≤ k_) ∧ some k_ ≠ (.slice (some ad621) t614.length co6 : Value).ownBlock)) k_ ∧ some k_ ≠ (u5 : Value).ownBlock)) (show Kd.V (Kd.int .u8) 5 (wr.drewN nq) w.heap.size _ _ _ from Kd.V_drewN HL622_8.out nq) (fun k_ hk => ⟨⟨hk.1.1, hk.2⟩, hk.1.2⟩))))); (case aB => exact (wb_ HB.out)); (case aF => exact (fun k_ hk => ⟨(.inr (Nat.le_trans (below_size (wb_ HB.out)) hk)), Kd.fresh' (Kd.N_lt (wN_ HO_6.out)) k_ hk⟩)); (case aO => exact (wN_ HO_5.out)); (case aS => exact (below_size (wb_ HB.out))); (case aL => have := LMc12.out; omega); intro v624 w13 ho hb hg hat; rw [← Ny623.out] at ho; have n0_ := A0_ (Kd.N_afterv (ok := (fun k_ => (P0_ k_ ∨ w.heap.size ≤ k_))) (wN_ HO_6.out) hg hat); have n1_ := A0_ (Kd.V_afterv (ok := (fun k_ => (P0_ k_ ∨ w.heap.size ≤ k_) ∧ some k_ ≠ (.slice (some ad621) t614.length co6 : Value).ownBlock)) (by (with_reducible repeat (first | apply Va_ | apply VN_ | apply V1_)); exact Kd.V_mono HL621_8.out (fun _ hk => ⟨⟨hk.1.1, hk.2⟩, hk.1.2⟩)) hg hat); have n2_ := A0_ (Kd.V_afterv (ok := (fun k_ => (P0_ k_ ∨ w.heap.size ≤ k_) ∧ some k_ ≠ (.slice (some ad621) t614.length co6 : Value).ownBlock)) (by (with_reducible repeat (first | apply Va_ | apply VN_ | apply V1_)); exact Kd.V_mono HL622_8.out (fun _ hk => ⟨⟨hk.1.1, hk.2⟩, hk.1.2⟩)) hg hat); have n3_ := A0_ (hb); have n4_ := A0_ (ho); clear HO_6; clear HL621_8; clear HL622_8; clear HB; clear HO_5; have HO_6 := n0_; have HL621_8 := n1_; have HL622_8 := n2_; have HB := n3_; have HO625 := n4_; clear n0_ n1_ n2_ n3_ n4_; clear ho hb hg hat)); try go_wp2_with (first | ((with_reducible refine gate_builtin (b := .append) (xs := #[.tmp 34, .tmp 39]) rfl ?_); at_builtin; refine Kd.N_append k60 (w0 := w) w.heap.size rfl (.tmp 34) (.tmp 39) 55 60 (.agg #[(.string ⟨#[]⟩), (.string ⟨#[]⟩), (.string ⟨#[]⟩), (.int .u8 0), (.int .i64 0), (.int .i64 0), (.int .i64 0), (.int .i64 0), (.slice none 0 0), (.int .i64 0)]) 120 rfl Tryd.underlying55 info60 rfl (by decide) (by omega) u5 x5_2 (⟨(⟨(rd_T60 t614 x7_1).f0.f0, (rd_T60 t614 x7_1).f0.f1, (rd_T60 t614 x7_1).f0.f2, (rd_T60 t614 x7_1).f0.f3, (⟨(rd_T60 t614 x7_1).f0.f4.f0, (rd_T60 t614 x7_1).f0.f4.f1, (rd_T60 t614 x7_1).f0.f4.f2, (rd_T60 t614 x7_1).f0.f4.f3⟩ : S24), (rd_T60 t614 x7_1).f0.f5⟩ : S38), (rd_T60 t614 x7_1).f1⟩ : S60) [.string ((rd_T60 t614 x7_1).f0.f0), .string ((rd_T60 t614 x7_1).f0.f1), .string ((rd_T60 t614 x7_1).f0.f2), .int .u8 ((rd_T60 t614 x7_1).f0.f3), .int .i64 ((rd_T60 t614 x7_1).f0.f4.f0), .int .i64 ((rd_T60 t614 x7_1).f0.f4.f1), .int .i64 ((rd_T60 t614 x7_1).f0.f4.f2), .int .i64 ((rd_T60 t614 x7_1).f0.f4.f3), .slice A621_8 ((rd_T60 t614 x7_1).f0.f5).length c621_8, .int .i64 ((rd_T60 t614 x7_1).f1)] (fun k_ => (P0_ k_ ∨ w.heap.size ≤ k_) ∧ some k_ ≠ (.slice (some ad621) t614.length co6 : Value).ownBlock) (fun k_ => ((fun k_ => (P0_ k_ ∨ w.heap.size ≤ k_) ∧ some k_ ≠ (.slice (some ad621) t614.length co6 : Value).ownBlock)) k_ ∧ some k_ ≠ (u5 : Value).ownBlock) rfl rfl ?aP (fun _ hk => hk) ?aF ?aO ?aB ?aS ?aL ?_; (case aP => exact (k60_mkF _ _ (⟨(⟨(rd_T60 t614 x7_1).f0.f0, (rd_T60 t614 x7_1).f0.f1, (rd_T60 t614 x7_1).f0.f2, (rd_T60 t614 x7_1).f0.f3, (⟨(rd_T60 t614 x7_1).f0.f4.f0, (rd_T60 t614 x7_1).f0.f4.f1, (rd_T60 t614 x7_1).f0.f4.f2, (rd_T60 t614 x7_1).f0.f4.f3⟩ : S24), (rd_T60 t614 x7_1).f0.f5⟩ : S38), (rd_T60 t614 x7_1).f1⟩ : S60) (Kd.V_reads' (Kd.V_mono (ok' := (fun k_ => ((fun k_ => (P0_ k_ ∨ w.heap.size ≤ k_) ∧ some k_ ≠ (.slice (some ad621) t614.length co6 : Value).ownBlock)) k_ ∧ some k_ ≠ (u5 : Value).ownBlock)) (show Kd.V (Kd.int .u8) 5 (wr.drewN nq) w.heap.size _ _ _ from Kd.V_drewN HL622_8.out nq) (fun k_ hk => ⟨⟨hk.1.1, hk.2⟩, hk.1.2⟩))).2.1 (Kd.V_F (Kd.V_mono (ok' := (fun k_ => ((fun k_ => (P0_ k_ ∨ w.heap.size ≤ k_) ∧ some k_ ≠ (.slice (some ad621) t614.length co6 : Value).ownBlock)) k_ ∧ some k_ ≠ (u5 : Value).ownBlock)) (show Kd.V (Kd.int .u8) 5 (wr.drewN nq) w.heap.size _ _ _ from Kd.V_drewN HL622_8.out nq) (fun k_ hk => ⟨⟨hk.1.1, hk.2⟩, hk.1.2⟩))))); (case aB => exact (wb_ HB.out)); (case aF => exact (fun k_ hk => ⟨(.inr (Nat.le_trans (below_size (wb_ HB.out)) hk)), Kd.fresh' (Kd.N_lt (wN_ HO_6.out)) k_ hk⟩)); (case aO => exact (wN_ HO_5.out)); (case aS => exact (below_size (wb_ HB.out))); (case aL => have := LMc12.out; omega); intro v624 w13 ho hb hg hat; rw [← Ny623.out] at ho; have n0_ := A0_ (Kd.N_afterv (ok := (fun k_ => (P0_ k_ ∨ w.heap.size ≤ k_))) (wN_ HO_6.out) hg hat); have n1_ := A0_ (Kd.V_afterv (ok := (fun k_ => (P0_ k_ ∨ w.heap.size ≤ k_) ∧ some k_ ≠ (.slice (some ad621) t614.length co6 : Value).ownBlock)) (by (with_reducible repeat (first | apply Va_ | apply VN_ | apply V1_)); exact Kd.V_mono HL621_8.out (fun _ hk => ⟨⟨hk.1.1, hk.2⟩, hk.1.2⟩)) hg hat); have n2_ := A0_ (Kd.V_afterv (ok := (fun k_ => (P0_ k_ ∨ w.heap.size ≤ k_) ∧ some k_ ≠ (.slice (some ad621) t614.length co6 : Value).ownBlock)) (by (with_reducible repeat (first | apply Va_ | apply VN_ | apply V1_)); exact Kd.V_mono HL622_8.out (fun _ hk => ⟨⟨hk.1.1, hk.2⟩, hk.1.2⟩)) hg hat); have n3_ := A0_ (hb); have n4_ := A0_ (ho); clear HO_6; clear HL621_8; clear HL622_8; clear HB; clear HO_5; have HO_6 := n0_; have HL621_8 := n1_; have HL622_8 := n2_; have HB := n3_; have HO625 := n4_; clear n0_ n1_ n2_ n3_ n4_; clear ho hb hg hat)))
     go_roundg k2
     case measure => have := HK1.out; have := HK2.out; omega
     case rel => exact ⟨(y623), (wrap64 (x7_1 + 1)), wr_, H', ⟨by have := HK1.out; have := HK2.out; omega⟩, ⟨wN_ HO625.out⟩, ⟨wN_ HO_6.out⟩, ⟨wb_ HB.out⟩⟩
end Go.Proofs.YtfmphccoeinhcaaDoor.Print

namespace Go.Proofs.YtfmphccoeinhcaaDoor.Print
open Go.RowKit Go.Proofs.YtfmphccoeinhcaaDoorW.PrintWords Go.Proofs.YtfmphccoeinhcaaDoorW.PrintLast Go.Proofs.YtfmphccoeinhcaaDoorW.PrintMore
attribute [local go_sem] max2_int min2_int max_two min_two max_three min_three max_four min_four   -- for this text's walks alone
set_option linter.unusedVariables false
set_option linter.unusedSimpArgs false
abbrev q33_0 : Array Bool := #[false, false, false, false, false, false, false, false, false, false, false, false, false, false]
abbrev q33_1 : Array Bool := tb_ 14 1
abbrev q33_2 : Array Bool := tb_ 14 3
abbrev q33_3 : Array Bool := tb_ 14 7
abbrev q33_4 : Array Bool := tb_ 14 15
abbrev q33_5 : Array Bool := tb_ 14 31
abbrev q33_6 : Array Bool := tb_ 14 63
abbrev q33_7 : Array Bool := tb_ 14 127
abbrev q33_8 : Array Bool := tb_ 14 255
abbrev q33_9 : Array Bool := tb_ 14 511
abbrev q33_10 : Array Bool := tb_ 14 1023
abbrev q33_11 : Array Bool := tb_ 14 2047
abbrev q33_12 : Array Bool := tb_ 14 4095
abbrev q33_13 : Array Bool := tb_ 14 8191
abbrev q33_14 : Array Bool := tb_ 14 16383
abbrev q33_15 : Array Bool := tb_ 14 95
abbrev q33_16 : Array Bool := tb_ 14 223
abbrev q33_17 : Array Bool := tb_ 14 479
def bindleref18_Subtract.l0 : Nat → List (S38) → List (S38) → Bool → List ByteArray → Int → Option ((List (S38)))
 | 0, _, _, _, _, _ => none
 | k + 1, x0, x1, x2, x7, x8 => if x8 < (x0.length : Int) then (if 0 ≤ x8 then ((bindleref08_Find.f k x1 ((rd_T38 x0 x8).f0)).bind fun bt630 => (if bt630.2.2.2.2.2.2.2.2.2 = true then (if x2 = true then ((bindleref08_Equal.f bt630.1 bt630.2.1 bt630.2.2.1 bt630.2.2.2.1 bt630.2.2.2.2.1 bt630.2.2.2.2.2.1 bt630.2.2.2.2.2.2.1 bt630.2.2.2.2.2.2.2.1 bt630.2.2.2.2.2.2.2.2.1 ((rd_T38 x0 x8).f0) ((rd_T38 x0 x8).f1) ((rd_T38 x0 x8).f2) ((rd_T38 x0 x8).f3) ((rd_T38 x0 x8).f4.f0) ((rd_T38 x0 x8).f4.f1) ((rd_T38 x0 x8).f4.f2) ((rd_T38 x0 x8).f4.f3) ((rd_T38 x0 x8).f5)).bind fun t644 => (if t644 = true then (bindleref18_Subtract.l0 k x0 x1 x2 x7 (wrap64 (x8 + 1))) else (if x7.length < 8796093022208 then (bindleref18_Subtract.l0 k x0 x1 x2 (x7 ++ [(rd_T38 x0 x8).f0]) (wrap64 (x8 + 1))) else (none)))) else (bindleref18_Subtract.l0 k x0 x1 x2 x7 (wrap64 (x8 + 1)))) else (if x7.length < 8796093022208 then (bindleref18_Subtract.l0 k x0 x1 x2 (x7 ++ [(rd_T38 x0 x8).f0]) (wrap64 (x8 + 1))) else (none)))) else (none)) else ((bindleref18_Keep.f k x0 x7).bind fun t626 => (some t626))
def bindleref18_Subtract.f (k : Nat) (l0 : List (S38)) (l1 : List (S38)) (a2 : Bool) : Option ((List (S38))) := bindleref18_Subtract.l0 k l0 l1 a2 ([] : List ByteArray) 0
def bindleref18_Subtract.T6 : Bool × List (List Nat × List Nat) := (true, [([], []), ([0], [0]), ([1], [1]), ([2], [2]), ([3, 2, 2], [2, 3]), ([4], [4]), ([4], [4]), ([4], [4]), ([6, 7, 4], [4, 6, 7]), ([8, 4], [4, 8]), ([5, 9, 4, 4], [4, 5, 9]), ([10, 4], [4, 10]), ([4, 11, 2], [2, 4, 11]), ([2, 12], [2, 12])])
def bindleref18_Subtract.B6 : List Nat := [0, 1, 3, 7, 15, 31, 31, 31, 223, 479, 1023, 2047, 4095, 8191]
theorem bindleref18_Subtract.tab6 : rtab .any (opsOf Tryd.f33 6) = bindleref18_Subtract.T6 := by kernel_rfl
theorem bindleref18_Subtract.bits6 : waitsOk bindleref18_Subtract.T6.2 bindleref18_Subtract.B6 = true := by kernel_rfl
set_option maxHeartbeats 8000000 in
set_option maxRecDepth 100000 in
theorem bindleref18_Subtract.calls (k : Nat) (P0_ : Nat → Prop) (A0 : Option Addr) (c0 : Nat) (l0 : List (S38)) (P1_ : Nat → Prop) (A1 : Option Addr) (c1 : Nat) (l1 : List (S38)) (a2 : Bool) (r : List (S38)) (w : World) (hs0 : Kd.V k38 38 w w.heap.size (fun k_ => P0_ k_) (.slice A0 l0.length c0) l0) (hs1 : Kd.V k38 38 w w.heap.size (fun k_ => P1_ k_) (.slice A1 l1.length c1) l1) (h : bindleref18_Subtract.f k l0 l1 a2 = some r) :
  Calls Tryd.prog 33 #[.slice A0 l0.length c0, .slice A1 l1.length c1, .bool a2] w fun e w' => ∃ v0_ : Value, e = .returned (v0_) ∧ Kd.V k38 38 w' w.heap.size (fun k_ => ((P0_ k_ ∨ P1_ k_) ∨ w.heap.size ≤ k_)) v0_ r ∧ Below w.heap.size w w' := by
 have hu38 := Tryd.underlying38
 have HO0 := A0_ (show Kd.V k38 38 w w.heap.size (fun k_ => ((P0_ k_ ∨ P1_ k_) ∨ w.heap.size ≤ k_)) (.slice A0 l0.length c0) l0 from Kd.V_mono hs0 (fun k_ hk => .inl (.inl hk)))
 have HO1 := A0_ (show Kd.V k38 38 w w.heap.size (fun k_ => ((P0_ k_ ∨ P1_ k_) ∨ w.heap.size ≤ k_)) (.slice A1 l1.length c1) l1 from Kd.V_mono hs1 (fun k_ hk => .inl (.inr hk)))
 have HB := A0_ (Below.refl w.heap.size w)
 have H : (bindleref18_Subtract.l0 k l0 l1 a2 ([] : List ByteArray) 0) = some r := h
 clear h
 have H' := A0_ H
 clear H
 go_enter Tryd.func33, Tryd.ntmps33
 go_wp2
 go_loopg [7, 8] k (fun kq v7 v8 w' => ∃ (x7_1 : List ByteArray) (x8_1 : Int), v8 = .int .i64 x8_1 ∧ Aside0 (bindleref18_Subtract.l0 kq l0 l1 a2 x7_1 x8_1 = some r) ∧ Aside0 (kq ≤ k) ∧ Aside0 (Kd.V k38 38 w' w.heap.size (fun k_ => ((P0_ k_ ∨ P1_ k_) ∨ w.heap.size ≤ k_) ∧ some k_ ≠ (v7 : Value).ownBlock) (.slice A0 l0.length c0) l0) ∧ Aside0 (Kd.V k38 38 w' w.heap.size (fun k_ => ((P0_ k_ ∨ P1_ k_) ∨ w.heap.size ≤ k_) ∧ some k_ ≠ (v7 : Value).ownBlock) (.slice A1 l1.length c1) l1) ∧ Aside0 (Kd.R Kd.string 9 w' w.heap.size (fun k_ => (w.heap.size ≤ k_)) v7 x7_1) ∧ Aside0 (Below w.heap.size w w'))
 case atStart => exact ⟨(([] : List ByteArray)), (0), wr_, H', ⟨Nat.le_refl _⟩, ⟨by (with_reducible repeat (first | apply Va_ | apply VN_ | apply V1_)); exact Kd.V_mono HO0.out (fun _ hk => ⟨hk, (by simp [Value.ownBlock])⟩)⟩, ⟨by (with_reducible repeat (first | apply Va_ | apply VN_ | apply V1_)); exact Kd.V_mono HO1.out (fun _ hk => ⟨hk, (by simp [Value.ownBlock])⟩)⟩, ⟨by first | exact Kd.R_nil _ _ _ _ _ | exact Kd.N_nil _ _ _ _ _ | exact Kd.V_nil _ _ _ _ _ | exact Kd.Q_nil _ _ _ _ _ | exact Kd.S_nil _ _ _ _ _⟩, ⟨wb_ HB.out⟩⟩
 case round =>
  clear H'
  try clear c1
  try clear p2
  try clear c3
  obtain ⟨x7_1, x8_1, rfl, HA, HK1, HO_0, HO_1, HO_7, HB⟩ := hrel
  cases gk with
  | zero => exact absurd HA.out (by simp [bindleref18_Subtract.l0])
  | succ k1 =>
   have H := HA.out
   clear HA
   simp only [bindleref18_Subtract.l0] at H
   by_cases c4 : x8_1 < (l0.length : Int)
   rotate_left
   ·rw [if_neg c4] at H
    have c4b0 : decide (x8_1 < (l0.length : Int)) = false := decide_eq_false c4
    clear c4
    replace H := Option.bind_eq_some_iff.mp H
    obtain ⟨t626, A410, H⟩ := H
    replace H : (some t626) = some r := H
    have A41 := A0_ A410
    clear A410
    obtain rfl := Option.some.inj H
    obtain ⟨Ao42, co42, eo42⟩ := Kd.R_slice HO_7.out
    subst eo42
    go_wp2_with (first | ((with_reducible refine gate_callee (f := 37) rfl ?_); refine goesL_ (some 51) rfl rfl Tryd.func37 (by kernel_rfl) rfl #[.slice A0 l0.length c0, .slice Ao42 x7_1.length co42] rfl wm_ ?_; (with_reducible refine (bindleref18_Keep.calls k1 (fun k_ => (((P0_ k_ ∨ P1_ k_) ∨ w.heap.size ≤ k_) ∧ some k_ ≠ (.slice Ao42 x7_1.length co42 : Value).ownBlock)) _ _ l0 _ _ x7_1 t626 _ ?side1 ?side2 ?side3 A41.out).mono ?_); (case side1 => exact HO_0.out); (case side2 => exact wc_ (Kd.R_reads' HO_7.out).2.2); (case side3 => exact (Kd.R_reads' HO_7.out).2.1); rintro e w43 ⟨v627, rfl, ho0, hb⟩; refine ⟨_, rfl, ?_⟩; have n0_ := A0_ (Vb_ (wV_ HO_0.out) hb); have n1_ := A0_ (Vb_ (wV_ HO_1.out) hb); have n2_ := A0_ (Rb_ (wR_ HO_7.out) hb); have n3_ := A0_ (Kd.V_lower (Kd.V_mono (ok' := fun k_ => ((P0_ k_ ∨ P1_ k_) ∨ w.heap.size ≤ k_) ∧ some k_ ≠ (.slice Ao42 x7_1.length co42 : Value).ownBlock) ho0 (fun k_ hk_ => ⟨Or.elim hk_ (fun hs_ => hs_.1) (fun hn_ => (.inr (Nat.le_trans (below_size (wb_ HB.out)) hn_))), Or.elim hk_ (fun hs_ => hs_.2) (fun hn_ => (Kd.fresh' (Kd.R_lt (wR_ HO_7.out)) k_ hn_))⟩)) (below_size (wb_ HB.out))); have n4_ := A0_ (below_step (wb_ HB.out) hb); clear HO_0; clear HO_1; clear HO_7; clear HB; have HO_0 := n0_; have HO_1 := n1_; have HO_7 := n2_; have HO628 := n3_; have HB := n4_; clear n0_ n1_ n2_ n3_ n4_; (try clear hb); (try clear hb2); (try clear hk); (try clear hi); (try clear ho0)))
    go_ret
    exact ⟨_, we_, by (with_reducible repeat (first | apply Va_ | apply VN_ | apply V1_)); exact Kd.V_mono HO628.out (fun _ hk => hk.1), wb_ HB.out⟩
   rw [if_pos c4] at H
   have c4b0 : decide (x8_1 < (l0.length : Int)) = true := decide_eq_true c4
   clear c4
   by_cases c5 : 0 ≤ x8_1
   rotate_left
   ·rw [if_neg c5] at H
    exact absurd H (by simp)
   rw [if_pos c5] at H
   have c5b0 : decide (0 ≤ x8_1) = true := decide_eq_true c5
   clear c5
   replace H := Option.bind_eq_some_iff.mp H
   obtain ⟨⟨t630, t631, t632, t633, t634, t635, t636, t637, t638, t641⟩, A60, H⟩ := H
   replace H : (if t641 = true then (if a2 = true then ((bindleref08_Equal.f t630 t631 t632 t633 t634 t635 t636 t637 t638 ((rd_T38 l0 x8_1).f0) ((rd_T38 l0 x8_1).f1) ((rd_T38 l0 x8_1).f2) ((rd_T38 l0 x8_1).f3) ((rd_T38 l0 x8_1).f4.f0) ((rd_T38 l0 x8_1).f4.f1) ((rd_T38 l0 x8_1).f4.f2) ((rd_T38 l0 x8_1).f4.f3) ((rd_T38 l0 x8_1).f5)).bind fun t644 => (if t644 = true then (bindleref18_Subtract.l0 k1 l0 l1 a2 x7_1 (wrap64 (x8_1 + 1))) else (if x7_1.length < 8796093022208 then (bindleref18_Subtract.l0 k1 l0 l1 a2 (x7_1 ++ [(rd_T38 l0 x8_1).f0]) (wrap64 (x8_1 + 1))) else (none)))) else (bindleref18_Subtract.l0 k1 l0 l1 a2 x7_1 (wrap64 (x8_1 + 1)))) else (if x7_1.length < 8796093022208 then (bindleref18_Subtract.l0 k1 l0 l1 a2 (x7_1 ++ [(rd_T38 l0 x8_1).f0]) (wrap64 (x8_1 + 1))) else (none))) = some r := H
   have A6 := A0_ A60
   clear A60
   by_cases c7 : t641 = true
   rotate_left
   ·replace c7 := Bool.eq_false_iff.mpr c7
    subst c7
    have H1 : (if x7_1.length < 8796093022208 then (bindleref18_Subtract.l0 k1 l0 l1 a2 (x7_1 ++ [(rd_T38 l0 x8_1).f0]) (wrap64 (x8_1 + 1))) else (none)) = some r := by rw [if_neg (show ¬ (false = true) by decide)] at H; exact H
    clear H
    have H := H1
    clear H1
    by_cases c33 : x7_1.length < 8796093022208
    rotate_left
    ·rw [if_neg c33] at H
     exact absurd H (by simp)
    rw [if_pos c33] at H
    have LMc33 := A0_ c33
    clear c33
    obtain ⟨y650, hy650⟩ : ∃ y_ : List ByteArray, y_ = (x7_1 ++ [(rd_T38 l0 x8_1).f0]) := ⟨_, rfl⟩
    replace H : (bindleref18_Subtract.l0 k1 l0 l1 a2 y650 (wrap64 (x8_1 + 1))) = some r := by first | (rw [hy650]; with_reducible exact H) | (have H2_ := (Option.bind_some _ _).symm.trans H; rw [hy650]; with_reducible exact H2_) | (have H2_ := (Option.bind_some _ _).symm.trans H; with_reducible exact H2_) | with_reducible exact H | (rw [hy650]; exact H) | exact H
    have Ny650 := A0_ hy650
    clear hy650
    have H' := A0_ H
    clear H
    have p629 : 0 ≤ (x8_1 : Int) := wd_
    have q629 : x8_1 < (l0.length : Int) := wd_
    obtain ⟨ad629, A629_8, c629_8, e629, hx629_0, hx629_1, hx629_2, hx629_3, hx629_4, hx629_5, hx629_6, hx629_7, hx629_8, hl629_8, hi629_8⟩ := at_T38 (Kd.V_reads' HO_0.out).2.2 x8_1 p629 q629
    cases e629
    obtain ⟨ce629, hce629, hMe629, hcc629⟩ := Kd.V_get HO_0.out z38 x8_1 p629 (by first | exact q629 | exact wd_ | (have e_ := (Kd.V_reads' HO_0.out).1; omega))
    obtain ⟨ua629_8, uc629_8, rfl, ul629_8, ge629_8⟩ := k38_openF hMe629
    have hv629_8 := hcc629 8 _ rfl
    rw [add_field _ _ 8 (by omega)] at hv629_8
    replace hv629_8 := Option.some.inj (hv629_8.symm.trans hx629_8)
    injection hv629_8 with hva_ hvn_ hvc_
    rw [hva_] at ge629_8
    rw [hvc_] at ul629_8
    have HL629_8 := A0_ (show Kd.V (Kd.int .u8) 5 _ w.heap.size _ _ ((rd_T38 l0 x8_1).f5) from Kd.V_mk ul629_8 ge629_8)
    clear hva_ hvn_ hvc_ ge629_8 ul629_8
    clear hcc629 hce629
    have HR629_8 := A0_ hi629_8
    have HC629_8 := A0_ hl629_8
    clear hi629_8 hl629_8
    replace p629 := eq_true p629
    replace q629 := eq_true q629
    try go_wp2_with (first | ((with_reducible refine gate_callee (f := 19) rfl ?_); refine goesL_ (some 24) rfl rfl Tryd.func19 (by kernel_rfl) rfl #[.slice A1 l1.length c1, .string ((rd_T38 l0 x8_1).f0)] rfl wm_ ?_; (with_reducible refine (bindleref08_Find.calls k1 (fun k_ => (((P0_ k_ ∨ P1_ k_) ∨ w.heap.size ≤ k_) ∧ some k_ ≠ (u7 : Value).ownBlock)) _ _ l1 ((rd_T38 l0 x8_1).f0) t630 t631 t632 t633 t634 t635 t636 t637 t638 false _ ?side1 A6.out).mono ?_); (case side1 => exact HO_1.out); rintro e w34 ⟨v639, rfl, ho0, hb⟩; refine ⟨_, rfl, ?_⟩; have n0_ := A0_ (Vb_ (wV_ HO_0.out) hb); have n1_ := A0_ (Vb_ (wV_ HO_1.out) hb); have n2_ := A0_ (Rb_ (wR_ HO_7.out) hb); have n3_ := A0_ (Vb_ (wV_ HL629_8.out) hb); have n4_ := A0_ (Kd.V_lower (Kd.V_mono (ok' := fun k_ => ((P0_ k_ ∨ P1_ k_) ∨ w.heap.size ≤ k_) ∧ some k_ ≠ (u7 : Value).ownBlock) ho0 (fun k_ hk_ => ⟨Or.elim hk_ (fun hs_ => hs_.1) (fun hn_ => (.inr (Nat.le_trans (below_size (wb_ HB.out)) hn_))), Or.elim hk_ (fun hs_ => hs_.2) (fun hn_ => (Kd.fresh' (Kd.R_lt (wR_ HO_7.out)) k_ hn_))⟩)) (below_size (wb_ HB.out))); have n5_ := A0_ (Kd.C_below (by repeat (first | (with_reducible exact HR629_8.out) | (with_reducible refine Ca_ ?_ _) | (with_reducible refine CN_ ?_ _) | (with_reducible refine C1_ ?_) | exact HR629_8.out)) hb); have n6_ := A0_ (below_step (wb_ HB.out) hb); clear HO_0; clear HO_1; clear HO_7; clear HL629_8; clear HR629_8; clear HB; have HO_0 := n0_; have HO_1 := n1_; have HO_7 := n2_; have HL629_8 := n3_; have HO640 := n4_; have HR629_8 := n5_; have HB := n6_; clear n0_ n1_ n2_ n3_ n4_ n5_ n6_; (try clear hb); (try clear hb2); (try clear hk); (try clear hi); (try clear ho0)) | ((with_reducible refine gate_dst (N := 9) rfl ?_); refine box_event ?hg (N := 9) ?hd (cs := #[.string (⟨#[]⟩ : ByteArray), .string (⟨#[]⟩ : ByteArray), .string (⟨#[]⟩ : ByteArray), .int .u8 0, .int .i64 0, .int .i64 0, .int .i64 0, .int .i64 0, .slice none 0 0]) (t := 38) ?hr ?_; (case hd => rfl); (case hg => rfl); (case hr => first | (go_simp; done) | (go_simp; rfl)); intro gb642 hg w35 hbox hb; have n0_ := A0_ (Vb_ (Kd.V_elderB (wV_ HO_0.out) gb642 (Nat.le_of_eq hg.symm)) hb); have n1_ := A0_ (Vb_ (Kd.V_elderB (wV_ HO_1.out) gb642 (Nat.le_of_eq hg.symm)) hb); have n2_ := A0_ (Rb_ (wR_ HO_7.out) hb); have n3_ := A0_ (Vb_ (Kd.V_elderB (wV_ HL629_8.out) gb642 (Nat.le_of_eq hg.symm)) hb); have n4_ := A0_ (Vb_ (Kd.V_elderB (wV_ HO640.out) gb642 (Nat.le_of_eq hg.symm)) hb); have n5_ := A0_ (Kd.C_below (by repeat (first | (with_reducible exact HR629_8.out) | (with_reducible refine Ca_ ?_ _) | (with_reducible refine CN_ ?_ _) | (with_reducible refine C1_ ?_) | exact HR629_8.out)) hb); have n6_ := A0_ (below_step (wb_ HB.out) hb); have n7_ := A0_ (hbox); have n8_ := A0_ ((by rw [hg]; exact (below_size (wb_ HB.out)) : w.heap.size ≤ gb642)); have n9_ := A0_ ((by rw [hg]; exact (below_size (wb_ HB.out)) : w.heap.size ≤ gb642)); clear HO_0; clear HO_1; clear HO_7; clear HL629_8; clear HO640; clear HR629_8; clear HB; have HO_0 := n0_; have HO_1 := n1_; have HO_7 := n2_; have HL629_8 := n3_; have HO640 := n4_; have HR629_8 := n5_; have HB := n6_; have BK642 := n7_; have GW642 := n8_; have GE642 := n9_; clear n0_ n1_ n2_ n3_ n4_ n5_ n6_ n7_ n8_ n9_; clear hb hbox hg; have hcz36_0 : w35.cell? ⟨gb642, 0, none⟩ = some (.string (⟨#[]⟩ : ByteArray)) := (bc_ BK642.out 0).trans rfl; have hcz36_1 : w35.cell? ⟨gb642, 1, none⟩ = some (.string (⟨#[]⟩ : ByteArray)) := (bc_ BK642.out 1).trans rfl; have hcz36_2 : w35.cell? ⟨gb642, 2, none⟩ = some (.string (⟨#[]⟩ : ByteArray)) := (bc_ BK642.out 2).trans rfl; have hcz36_3 : w35.cell? ⟨gb642, 3, none⟩ = some (.int .u8 0) := (bc_ BK642.out 3).trans rfl; have hcz36_4 : w35.cell? ⟨gb642, 4, none⟩ = some (.int .i64 0) := (bc_ BK642.out 4).trans rfl; have hcz36_5 : w35.cell? ⟨gb642, 5, none⟩ = some (.int .i64 0) := (bc_ BK642.out 5).trans rfl; have hcz36_6 : w35.cell? ⟨gb642, 6, none⟩ = some (.int .i64 0) := (bc_ BK642.out 6).trans rfl; have hcz36_7 : w35.cell? ⟨gb642, 7, none⟩ = some (.int .i64 0) := (bc_ BK642.out 7).trans rfl; have hcz36_8 : w35.cell? ⟨gb642, 8, none⟩ = some (.slice none 0 0) := (bc_ BK642.out 8).trans rfl; have hfz36_0 := bf_ BK642.out 0; have hfz36_1 := bf_ BK642.out 1; have hfz36_2 := bf_ BK642.out 2; have hfz36_3 := bf_ BK642.out 3; have hfz36_4 := bf_ BK642.out 4; have hfz36_5 := bf_ BK642.out 5; have hfz36_6 := bf_ BK642.out 6; have hfz36_7 := bf_ BK642.out 7; have hfz36_8 := bf_ BK642.out 8; obtain ⟨Ao37, co37, eo37⟩ := Kd.V_slice HO640.out; subst eo37))
    have n0_ : Aside0 (Kd.V k38 38 (((((((((w35.setCell ⟨gb642, 0, none⟩ (.string t630)).setCell ⟨gb642, 1, none⟩ (.string t631)).setCell ⟨gb642, 2, none⟩ (.string t632)).setCell ⟨gb642, 3, none⟩ (.int .u8 t633)).setCell ⟨gb642, 4, none⟩ (.int .i64 t634)).setCell ⟨gb642, 5, none⟩ (.int .i64 t635)).setCell ⟨gb642, 6, none⟩ (.int .i64 t636)).setCell ⟨gb642, 7, none⟩ (.int .i64 t637)).setCell ⟨gb642, 8, none⟩ (.slice Ao37 t638.length co37)) w.heap.size (fun k_ => ((P0_ k_ ∨ P1_ k_) ∨ w.heap.size ≤ k_) ∧ some k_ ≠ (u7 : Value).ownBlock ∧ k_ ≠ gb642) (.slice (some ad629) l0.length c0) l0) := ⟨by (with_reducible repeat (first | apply Va_ | apply VN_ | apply V1_)); exact Kd.V_mono (Kd.V_far (p := ⟨gb642, 8, none⟩) (Kd.V_far (p := ⟨gb642, 7, none⟩) (Kd.V_far (p := ⟨gb642, 6, none⟩) (Kd.V_far (p := ⟨gb642, 5, none⟩) (Kd.V_far (p := ⟨gb642, 4, none⟩) (Kd.V_far (p := ⟨gb642, 3, none⟩) (Kd.V_far (p := ⟨gb642, 2, none⟩) (Kd.V_far (p := ⟨gb642, 1, none⟩) (Kd.V_far (p := ⟨gb642, 0, none⟩) (Kd.V_mono HO_0.out (fun k_ hk => (⟨hk, hk.2⟩ : _ ∧ k_ ≠ gb642))) (fun _ hk => hk.2) (.string t630)) (fun _ hk => hk.2) (.string t631)) (fun _ hk => hk.2) (.string t632)) (fun _ hk => hk.2) (.int .u8 t633)) (fun _ hk => hk.2) (.int .i64 t634)) (fun _ hk => hk.2) (.int .i64 t635)) (fun _ hk => hk.2) (.int .i64 t636)) (fun _ hk => hk.2) (.int .i64 t637)) (fun _ hk => hk.2) (.slice Ao37 t638.length co37)) (fun _ hk => ⟨hk.1.1.1, ⟨hk.1.1.2, hk.1.2⟩⟩)⟩
    have n1_ : Aside0 (Kd.V k38 38 (((((((((w35.setCell ⟨gb642, 0, none⟩ (.string t630)).setCell ⟨gb642, 1, none⟩ (.string t631)).setCell ⟨gb642, 2, none⟩ (.string t632)).setCell ⟨gb642, 3, none⟩ (.int .u8 t633)).setCell ⟨gb642, 4, none⟩ (.int .i64 t634)).setCell ⟨gb642, 5, none⟩ (.int .i64 t635)).setCell ⟨gb642, 6, none⟩ (.int .i64 t636)).setCell ⟨gb642, 7, none⟩ (.int .i64 t637)).setCell ⟨gb642, 8, none⟩ (.slice Ao37 t638.length co37)) w.heap.size (fun k_ => ((P0_ k_ ∨ P1_ k_) ∨ w.heap.size ≤ k_) ∧ some k_ ≠ (u7 : Value).ownBlock ∧ k_ ≠ gb642) (.slice A1 l1.length c1) l1) := ⟨by (with_reducible repeat (first | apply Va_ | apply VN_ | apply V1_)); exact Kd.V_mono (Kd.V_far (p := ⟨gb642, 8, none⟩) (Kd.V_far (p := ⟨gb642, 7, none⟩) (Kd.V_far (p := ⟨gb642, 6, none⟩) (Kd.V_far (p := ⟨gb642, 5, none⟩) (Kd.V_far (p := ⟨gb642, 4, none⟩) (Kd.V_far (p := ⟨gb642, 3, none⟩) (Kd.V_far (p := ⟨gb642, 2, none⟩) (Kd.V_far (p := ⟨gb642, 1, none⟩) (Kd.V_far (p := ⟨gb642, 0, none⟩) (Kd.V_mono HO_1.out (fun k_ hk => (⟨hk, hk.2⟩ : _ ∧ k_ ≠ gb642))) (fun _ hk => hk.2) (.string t630)) (fun _ hk => hk.2) (.string t631)) (fun _ hk => hk.2) (.string t632)) (fun _ hk => hk.2) (.int .u8 t633)) (fun _ hk => hk.2) (.int .i64 t634)) (fun _ hk => hk.2) (.int .i64 t635)) (fun _ hk => hk.2) (.int .i64 t636)) (fun _ hk => hk.2) (.int .i64 t637)) (fun _ hk => hk.2) (.slice Ao37 t638.length co37)) (fun _ hk => ⟨hk.1.1.1, ⟨hk.1.1.2, hk.1.2⟩⟩)⟩
    have n2_ : Aside0 (Kd.R Kd.string 9 (((((((((w35.setCell ⟨gb642, 0, none⟩ (.string t630)).setCell ⟨gb642, 1, none⟩ (.string t631)).setCell ⟨gb642, 2, none⟩ (.string t632)).setCell ⟨gb642, 3, none⟩ (.int .u8 t633)).setCell ⟨gb642, 4, none⟩ (.int .i64 t634)).setCell ⟨gb642, 5, none⟩ (.int .i64 t635)).setCell ⟨gb642, 6, none⟩ (.int .i64 t636)).setCell ⟨gb642, 7, none⟩ (.int .i64 t637)).setCell ⟨gb642, 8, none⟩ (.slice Ao37 t638.length co37)) w.heap.size (fun k_ => (w.heap.size ≤ k_)) u7 x7_1) := ⟨by (with_reducible repeat (first | apply Ra_ | apply RN_ | apply R1_)); exact Kd.R_mono (Kd.R_far (p := ⟨gb642, 8, none⟩) (Kd.R_far (p := ⟨gb642, 7, none⟩) (Kd.R_far (p := ⟨gb642, 6, none⟩) (Kd.R_far (p := ⟨gb642, 5, none⟩) (Kd.R_far (p := ⟨gb642, 4, none⟩) (Kd.R_far (p := ⟨gb642, 3, none⟩) (Kd.R_far (p := ⟨gb642, 2, none⟩) (Kd.R_far (p := ⟨gb642, 1, none⟩) (Kd.R_far (p := ⟨gb642, 0, none⟩) (Kd.R_types HO_7.out BK642.out (by decide)) (fun _ hk => hk.2) (.string t630)) (fun _ hk => hk.2) (.string t631)) (fun _ hk => hk.2) (.string t632)) (fun _ hk => hk.2) (.int .u8 t633)) (fun _ hk => hk.2) (.int .i64 t634)) (fun _ hk => hk.2) (.int .i64 t635)) (fun _ hk => hk.2) (.int .i64 t636)) (fun _ hk => hk.2) (.int .i64 t637)) (fun _ hk => hk.2) (.slice Ao37 t638.length co37)) (fun _ hk => hk.1)⟩
    have n3_ : Aside0 (Kd.V (Kd.int .u8) 5 (((((((((w35.setCell ⟨gb642, 0, none⟩ (.string t630)).setCell ⟨gb642, 1, none⟩ (.string t631)).setCell ⟨gb642, 2, none⟩ (.string t632)).setCell ⟨gb642, 3, none⟩ (.int .u8 t633)).setCell ⟨gb642, 4, none⟩ (.int .i64 t634)).setCell ⟨gb642, 5, none⟩ (.int .i64 t635)).setCell ⟨gb642, 6, none⟩ (.int .i64 t636)).setCell ⟨gb642, 7, none⟩ (.int .i64 t637)).setCell ⟨gb642, 8, none⟩ (.slice Ao37 t638.length co37)) w.heap.size (fun k_ => ((P0_ k_ ∨ P1_ k_) ∨ w.heap.size ≤ k_) ∧ some k_ ≠ (u7 : Value).ownBlock ∧ k_ ≠ gb642) (.slice A629_8 ((rd_T38 l0 x8_1).f5).length c629_8) ((rd_T38 l0 x8_1).f5)) := ⟨by (with_reducible repeat (first | apply Va_ | apply VN_ | apply V1_)); exact Kd.V_mono (Kd.V_far (p := ⟨gb642, 8, none⟩) (Kd.V_far (p := ⟨gb642, 7, none⟩) (Kd.V_far (p := ⟨gb642, 6, none⟩) (Kd.V_far (p := ⟨gb642, 5, none⟩) (Kd.V_far (p := ⟨gb642, 4, none⟩) (Kd.V_far (p := ⟨gb642, 3, none⟩) (Kd.V_far (p := ⟨gb642, 2, none⟩) (Kd.V_far (p := ⟨gb642, 1, none⟩) (Kd.V_far (p := ⟨gb642, 0, none⟩) (Kd.V_mono HL629_8.out (fun k_ hk => (⟨hk, hk.2⟩ : _ ∧ k_ ≠ gb642))) (fun _ hk => hk.2) (.string t630)) (fun _ hk => hk.2) (.string t631)) (fun _ hk => hk.2) (.string t632)) (fun _ hk => hk.2) (.int .u8 t633)) (fun _ hk => hk.2) (.int .i64 t634)) (fun _ hk => hk.2) (.int .i64 t635)) (fun _ hk => hk.2) (.int .i64 t636)) (fun _ hk => hk.2) (.int .i64 t637)) (fun _ hk => hk.2) (.slice Ao37 t638.length co37)) (fun _ hk => ⟨hk.1.1.1, ⟨hk.1.1.2, hk.1.2⟩⟩)⟩
    have n4_ : Aside0 (Kd.V (Kd.int .u8) 5 (((((((((w35.setCell ⟨gb642, 0, none⟩ (.string t630)).setCell ⟨gb642, 1, none⟩ (.string t631)).setCell ⟨gb642, 2, none⟩ (.string t632)).setCell ⟨gb642, 3, none⟩ (.int .u8 t633)).setCell ⟨gb642, 4, none⟩ (.int .i64 t634)).setCell ⟨gb642, 5, none⟩ (.int .i64 t635)).setCell ⟨gb642, 6, none⟩ (.int .i64 t636)).setCell ⟨gb642, 7, none⟩ (.int .i64 t637)).setCell ⟨gb642, 8, none⟩ (.slice Ao37 t638.length co37)) w.heap.size (fun k_ => ((P0_ k_ ∨ P1_ k_) ∨ w.heap.size ≤ k_) ∧ some k_ ≠ (u7 : Value).ownBlock ∧ k_ ≠ gb642) (.slice Ao37 t638.length co37) t638) := ⟨by (with_reducible repeat (first | apply Va_ | apply VN_ | apply V1_)); exact Kd.V_mono (Kd.V_far (p := ⟨gb642, 8, none⟩) (Kd.V_far (p := ⟨gb642, 7, none⟩) (Kd.V_far (p := ⟨gb642, 6, none⟩) (Kd.V_far (p := ⟨gb642, 5, none⟩) (Kd.V_far (p := ⟨gb642, 4, none⟩) (Kd.V_far (p := ⟨gb642, 3, none⟩) (Kd.V_far (p := ⟨gb642, 2, none⟩) (Kd.V_far (p := ⟨gb642, 1, none⟩) (Kd.V_far (p := ⟨gb642, 0, none⟩) (Kd.V_mono HO640.out (fun k_ hk => (⟨hk, hk.2⟩ : _ ∧ k_ ≠ gb642))) (fun _ hk => hk.2) (.string t630)) (fun _ hk => hk.2) (.string t631)) (fun _ hk => hk.2) (.string t632)) (fun _ hk => hk.2) (.int .u8 t633)) (fun _ hk => hk.2) (.int .i64 t634)) (fun _ hk => hk.2) (.int .i64 t635)) (fun _ hk => hk.2) (.int .i64 t636)) (fun _ hk => hk.2) (.int .i64 t637)) (fun _ hk => hk.2) (.slice Ao37 t638.length co37)) (fun _ hk => ⟨hk.1.1.1, ⟨hk.1.1.2, hk.1.2⟩⟩)⟩
    have n5_ : Aside0 ((((((((((w35.setCell ⟨gb642, 0, none⟩ (.string t630)).setCell ⟨gb642, 1, none⟩ (.string t631)).setCell ⟨gb642, 2, none⟩ (.string t632)).setCell ⟨gb642, 3, none⟩ (.int .u8 t633)).setCell ⟨gb642, 4, none⟩ (.int .i64 t634)).setCell ⟨gb642, 5, none⟩ (.int .i64 t635)).setCell ⟨gb642, 6, none⟩ (.int .i64 t636)).setCell ⟨gb642, 7, none⟩ (.int .i64 t637)).setCell ⟨gb642, 8, none⟩ (.slice Ao37 t638.length co37)).heap[gb642]? = some (.cells #[.string t630, .string t631, .string t632, .int .u8 t633, .int .i64 t634, .int .i64 t635, .int .i64 t636, .int .i64 t637, .slice Ao37 t638.length co37] 38 (0, 0))) := ⟨by (with_reducible repeat (first | refine blk_drewN ?_ _ | refine blk_drew ?_ | refine blk_alloc ?_ _)); refine blk_put (cs := #[.string t630, .string t631, .string t632, .int .u8 t633, .int .i64 t634, .int .i64 t635, .int .i64 t636, .int .i64 t637, .slice none 0 0]) ?_ 8 _ rfl; (with_reducible repeat (first | refine blk_drewN ?_ _ | refine blk_drew ?_ | refine blk_alloc ?_ _)); refine blk_put (cs := #[.string t630, .string t631, .string t632, .int .u8 t633, .int .i64 t634, .int .i64 t635, .int .i64 t636, .int .i64 0, .slice none 0 0]) ?_ 7 _ rfl; (with_reducible repeat (first | refine blk_drewN ?_ _ | refine blk_drew ?_ | refine blk_alloc ?_ _)); refine blk_put (cs := #[.string t630, .string t631, .string t632, .int .u8 t633, .int .i64 t634, .int .i64 t635, .int .i64 0, .int .i64 0, .slice none 0 0]) ?_ 6 _ rfl; (with_reducible repeat (first | refine blk_drewN ?_ _ | refine blk_drew ?_ | refine blk_alloc ?_ _)); refine blk_put (cs := #[.string t630, .string t631, .string t632, .int .u8 t633, .int .i64 t634, .int .i64 0, .int .i64 0, .int .i64 0, .slice none 0 0]) ?_ 5 _ rfl; (with_reducible repeat (first | refine blk_drewN ?_ _ | refine blk_drew ?_ | refine blk_alloc ?_ _)); refine blk_put (cs := #[.string t630, .string t631, .string t632, .int .u8 t633, .int .i64 0, .int .i64 0, .int .i64 0, .int .i64 0, .slice none 0 0]) ?_ 4 _ rfl; (with_reducible repeat (first | refine blk_drewN ?_ _ | refine blk_drew ?_ | refine blk_alloc ?_ _)); refine blk_put (cs := #[.string t630, .string t631, .string t632, .int .u8 0, .int .i64 0, .int .i64 0, .int .i64 0, .int .i64 0, .slice none 0 0]) ?_ 3 _ rfl; (with_reducible repeat (first | refine blk_drewN ?_ _ | refine blk_drew ?_ | refine blk_alloc ?_ _)); refine blk_put (cs := #[.string t630, .string t631, .string (⟨#[]⟩ : ByteArray), .int .u8 0, .int .i64 0, .int .i64 0, .int .i64 0, .int .i64 0, .slice none 0 0]) ?_ 2 _ rfl; (with_reducible repeat (first | refine blk_drewN ?_ _ | refine blk_drew ?_ | refine blk_alloc ?_ _)); refine blk_put (cs := #[.string t630, .string (⟨#[]⟩ : ByteArray), .string (⟨#[]⟩ : ByteArray), .int .u8 0, .int .i64 0, .int .i64 0, .int .i64 0, .int .i64 0, .slice none 0 0]) ?_ 1 _ rfl; (with_reducible repeat (first | refine blk_drewN ?_ _ | refine blk_drew ?_ | refine blk_alloc ?_ _)); refine blk_put (cs := #[.string (⟨#[]⟩ : ByteArray), .string (⟨#[]⟩ : ByteArray), .string (⟨#[]⟩ : ByteArray), .int .u8 0, .int .i64 0, .int .i64 0, .int .i64 0, .int .i64 0, .slice none 0 0]) ?_ 0 _ rfl; (with_reducible repeat (first | refine blk_drewN ?_ _ | refine blk_drew ?_ | refine blk_alloc ?_ _)); exact BK642.out⟩
    have n6_ : Aside0 (Below w.heap.size w (((((((((w35.setCell ⟨gb642, 0, none⟩ (.string t630)).setCell ⟨gb642, 1, none⟩ (.string t631)).setCell ⟨gb642, 2, none⟩ (.string t632)).setCell ⟨gb642, 3, none⟩ (.int .u8 t633)).setCell ⟨gb642, 4, none⟩ (.int .i64 t634)).setCell ⟨gb642, 5, none⟩ (.int .i64 t635)).setCell ⟨gb642, 6, none⟩ (.int .i64 t636)).setCell ⟨gb642, 7, none⟩ (.int .i64 t637)).setCell ⟨gb642, 8, none⟩ (.slice Ao37 t638.length co37))) := ⟨wb1_ HB.out GE642.out⟩
    (try clear HO_0)
    (try clear HO_1)
    (try clear HO_7)
    (try clear HL629_8)
    (try clear HO640)
    (try clear BK642)
    (try clear HB)
    generalize (((((((((w35.setCell ⟨gb642, 0, none⟩ (.string t630)).setCell ⟨gb642, 1, none⟩ (.string t631)).setCell ⟨gb642, 2, none⟩ (.string t632)).setCell ⟨gb642, 3, none⟩ (.int .u8 t633)).setCell ⟨gb642, 4, none⟩ (.int .i64 t634)).setCell ⟨gb642, 5, none⟩ (.int .i64 t635)).setCell ⟨gb642, 6, none⟩ (.int .i64 t636)).setCell ⟨gb642, 7, none⟩ (.int .i64 t637)).setCell ⟨gb642, 8, none⟩ (.slice Ao37 t638.length co37)) = w38 at n0_ n1_ n2_ n3_ n4_ n5_ n6_ ⊢
    have HO_0 := n0_
    have HO_1 := n1_
    have HO_7 := n2_
    have HL629_8 := n3_
    have HO640 := n4_
    have BK642 := n5_
    have HB := n6_
    clear n0_ n1_ n2_ n3_ n4_ n5_ n6_
    have n0_ := A0_ (V1_ HO_0.out)
    have n1_ := A0_ (V1_ HO_1.out)
    have n2_ := A0_ (R1_ HO_7.out)
    have n3_ := A0_ (V1_ HL629_8.out)
    have n4_ := A0_ (V1_ HO640.out)
    have n5_ := A0_ (blk_drew BK642.out)
    have n6_ := A0_ (b1_ HB.out)
    clear HO_0
    clear HO_1
    clear HO_7
    clear HL629_8
    clear HO640
    clear BK642
    clear HB
    have HO_0 := n0_
    have HO_1 := n1_
    have HO_7 := n2_
    have HL629_8 := n3_
    have HO640 := n4_
    have BK642 := n5_
    have HB := n6_
    clear n0_ n1_ n2_ n3_ n4_ n5_ n6_
    refine start_ (n := 14) (S := fun w' => True) (ds := []) q33_0 (by kernel_rfl) rfl rfl trivial (fun hHeld => ?_); refine with_tabW bindleref18_Subtract.tab6 bindleref18_Subtract.bits6 (fun HT_ HW_ => ?_)
    generalize w38.drew = w39 at HO_0 HO_1 HO_7 HL629_8 HO640 BK642 HB hHeld ⊢
    refine pur_ (i := 0) (N := some 27) q33_1 (any_of HT_.out (by kernel_rfl)) ?_
    refine pur_ (i := 1) (N := some 28) q33_2 (any_of HT_.out (by kernel_rfl)) ?_
    refine pur_ (i := 2) (N := some 29) q33_3 (any_of HT_.out (by kernel_rfl)) ?_
    refine puu_ (i := 3) (N := some 30) q33_4 (any_of HT_.out (by kernel_rfl)) ?_
    refine puu_ (i := 4) (N := some 31) q33_5 (any_of HT_.out (by kernel_rfl)) ?_
    refine puu_ (i := 5) (N := some 32) q33_6 (any_of HT_.out (by kernel_rfl)) ?_
    refine puu_ (i := 6) (N := some 33) q33_7 (any_of HT_.out (by kernel_rfl)) ?_
    refine puu_ (i := 7) (N := some 34) q33_8 (any_of HT_.out (by kernel_rfl)) ?_
    refine puu_ (i := 8) (N := some 35) q33_9 (any_of HT_.out (by kernel_rfl)) ?_
    refine puu_ (i := 9) (N := some 36) q33_10 (any_of HT_.out (by kernel_rfl)) ?_
    refine puu_ (i := 10) (N := some 37) q33_11 (any_of HT_.out (by kernel_rfl)) ?_
    refine puu_ (i := 11) (N := some 38) q33_12 (any_of HT_.out (by kernel_rfl)) ?_
    refine puu_ (i := 12) (N := some 39) q33_13 (any_of HT_.out (by kernel_rfl)) ?_
    refine pur_ (i := 13) (N := some 40) q33_14 (any_of HT_.out (by kernel_rfl)) ?_
    refine done_ (done_of HT_.out (by kernel_rfl)) ?_
    have p649 : 0 ≤ (x8_1 : Int) := wd_
    have q649 : x8_1 < (l0.length : Int) := wd_
    obtain ⟨ad649, A649_8, c649_8, e649, hx649_0, hx649_1, hx649_2, hx649_3, hx649_4, hx649_5, hx649_6, hx649_7, hx649_8, hl649_8, hi649_8⟩ := at_T38 (Kd.V_reads' HO_0.out).2.2 x8_1 p649 q649
    obtain rfl : ad629 = ad649 := (by injection e649)
    obtain ⟨ce649, hce649, hMe649, hcc649⟩ := Kd.V_get HO_0.out z38 x8_1 p649 (by first | exact q649 | exact wd_ | (have e_ := (Kd.V_reads' HO_0.out).1; omega))
    obtain ⟨ua649_8, uc649_8, rfl, ul649_8, ge649_8⟩ := k38_openF hMe649
    have hv649_8 := hcc649 8 _ rfl
    rw [add_field _ _ 8 (by omega)] at hv649_8
    replace hv649_8 := Option.some.inj (hv649_8.symm.trans hx649_8)
    injection hv649_8 with hva_ hvn_ hvc_
    rw [hva_] at ge649_8
    rw [hvc_] at ul649_8
    have HL649_8 := A0_ (show Kd.V (Kd.int .u8) 5 _ w.heap.size _ _ ((rd_T38 l0 x8_1).f5) from Kd.V_mk ul649_8 ge649_8)
    clear hva_ hvn_ hvc_ ge649_8 ul649_8
    clear hcc649 hce649
    have HR649_8 := A0_ hi649_8
    have HC649_8 := A0_ hl649_8
    clear hi649_8 hl649_8
    replace p649 := eq_true p649
    replace q649 := eq_true q649
    try go_wp2_with (first | ((with_reducible refine gate_builtin (b := .append) (xs := #[.tmp 41, .tmp 47]) rfl ?_); at_builtin; refine Kd.R_append Kd.string (w0 := w) w.heap.size rfl (.tmp 41) (.tmp 47) 67 9 (.string ⟨#[]⟩) 16 rfl Tryd.underlying67 info9 rfl (by decide) (by omega) u7 x7_1 ((rd_T38 l0 x8_1).f0) [.string ((rd_T38 l0 x8_1).f0)] (fun k_ => (w.heap.size ≤ k_)) (fun _ => False) rfl rfl ?aP (fun _ hk => hk.elim) ?aF ?aO ?aB ?aS ?aL ?_; (case aP => exact rfl); (case aB => exact (wb1_ HB.out GE642.out)); (case aF => exact (fun k_ hk => (Nat.le_trans (below_size (wb1_ HB.out GE642.out)) hk))); (case aO => exact (wR_ HO_7.out)); (case aS => exact (below_size (wb1_ HB.out GE642.out))); (case aL => have := LMc33.out; omega); intro v651 w40 ho hb hg hat; rw [← Ny650.out] at ho; have n0_ := A0_ (Kd.V_afterv (ok := (fun k_ => ((P0_ k_ ∨ P1_ k_) ∨ w.heap.size ≤ k_) ∧ k_ ≠ gb642)) (by (with_reducible repeat (first | apply Va_ | apply VN_ | apply V1_)); exact Kd.V_mono HO_0.out (fun _ hk => ⟨⟨hk.1, hk.2.2⟩, hk.2.1⟩)) hg hat); have n1_ := A0_ (Kd.V_afterv (ok := (fun k_ => ((P0_ k_ ∨ P1_ k_) ∨ w.heap.size ≤ k_) ∧ k_ ≠ gb642)) (by (with_reducible repeat (first | apply Va_ | apply VN_ | apply V1_)); exact Kd.V_mono HO_1.out (fun _ hk => ⟨⟨hk.1, hk.2.2⟩, hk.2.1⟩)) hg hat); have n2_ := A0_ (Kd.V_afterv (ok := (fun k_ => ((P0_ k_ ∨ P1_ k_) ∨ w.heap.size ≤ k_) ∧ k_ ≠ gb642)) (by (with_reducible repeat (first | apply Va_ | apply VN_ | apply V1_)); exact Kd.V_mono HL629_8.out (fun _ hk => ⟨⟨hk.1, hk.2.2⟩, hk.2.1⟩)) hg hat); have n3_ := A0_ (Kd.V_afterv (ok := (fun k_ => ((P0_ k_ ∨ P1_ k_) ∨ w.heap.size ≤ k_) ∧ k_ ≠ gb642)) (by (with_reducible repeat (first | apply Va_ | apply VN_ | apply V1_)); exact Kd.V_mono HO640.out (fun _ hk => ⟨⟨hk.1, hk.2.2⟩, hk.2.1⟩)) hg hat); have n4_ := A0_ (blk_grown (g := gb642) (o := .cells #[.string t630, .string t631, .string t632, .int .u8 t633, .int .i64 t634, .int .i64 t635, .int .i64 t636, .int .i64 t637, .slice Ao37 t638.length co37] 38 (0, 0)) (wB_ BK642.out) hg (Kd.R_ne HO_7.out BK642.out (by decide))); have n5_ := A0_ (Kd.V_afterv (ok := (fun k_ => ((P0_ k_ ∨ P1_ k_) ∨ w.heap.size ≤ k_) ∧ k_ ≠ gb642)) (by (with_reducible repeat (first | apply Va_ | apply VN_ | apply V1_)); exact Kd.V_mono HL649_8.out (fun _ hk => ⟨⟨hk.1, hk.2.2⟩, hk.2.1⟩)) hg hat); have n6_ := A0_ (hb); have n7_ := A0_ (ho); clear HO_0; clear HO_1; clear HL629_8; clear HO640; clear BK642; clear HL649_8; clear HB; clear HO_7; have HO_0 := n0_; have HO_1 := n1_; have HL629_8 := n2_; have HO640 := n3_; have BK642 := n4_; have HL649_8 := n5_; have HB := n6_; have HO652 := n7_; clear n0_ n1_ n2_ n3_ n4_ n5_ n6_ n7_; clear ho hb hg hat))
    go_roundg k1
    case measure => have := HK1.out; omega
    case rel => exact ⟨(y650), (wrap64 (x8_1 + 1)), wr_, H', ⟨by have := HK1.out; omega⟩, ⟨by (with_reducible repeat (first | apply Va_ | apply VN_ | apply V1_)); exact Kd.V_mono HO_0.out (fun _ hk => ⟨hk.1.1, hk.2⟩)⟩, ⟨by (with_reducible repeat (first | apply Va_ | apply VN_ | apply V1_)); exact Kd.V_mono HO_1.out (fun _ hk => ⟨hk.1.1, hk.2⟩)⟩, ⟨wR_ HO652.out⟩, ⟨wb1_ HB.out GE642.out⟩⟩
   subst c7
   have H1 : (if a2 = true then ((bindleref08_Equal.f t630 t631 t632 t633 t634 t635 t636 t637 t638 ((rd_T38 l0 x8_1).f0) ((rd_T38 l0 x8_1).f1) ((rd_T38 l0 x8_1).f2) ((rd_T38 l0 x8_1).f3) ((rd_T38 l0 x8_1).f4.f0) ((rd_T38 l0 x8_1).f4.f1) ((rd_T38 l0 x8_1).f4.f2) ((rd_T38 l0 x8_1).f4.f3) ((rd_T38 l0 x8_1).f5)).bind fun t644 => (if t644 = true then (bindleref18_Subtract.l0 k1 l0 l1 a2 x7_1 (wrap64 (x8_1 + 1))) else (if x7_1.length < 8796093022208 then (bindleref18_Subtract.l0 k1 l0 l1 a2 (x7_1 ++ [(rd_T38 l0 x8_1).f0]) (wrap64 (x8_1 + 1))) else (none)))) else (bindleref18_Subtract.l0 k1 l0 l1 a2 x7_1 (wrap64 (x8_1 + 1)))) = some r := by rw [if_pos rfl] at H; exact H
   clear H
   have H := H1
   clear H1
   by_cases c8 : a2 = true
   rotate_left
   ·replace c8 := Bool.eq_false_iff.mpr c8
    subst c8
    have H1 : (bindleref18_Subtract.l0 k1 l0 l1 false x7_1 (wrap64 (x8_1 + 1))) = some r := by rw [if_neg (show ¬ (false = true) by decide)] at H; exact H
    clear H
    have H := H1
    clear H1
    have H' := A0_ H
    clear H
    have p629 : 0 ≤ (x8_1 : Int) := wd_
    have q629 : x8_1 < (l0.length : Int) := wd_
    obtain ⟨ad629, A629_8, c629_8, e629, hx629_0, hx629_1, hx629_2, hx629_3, hx629_4, hx629_5, hx629_6, hx629_7, hx629_8, hl629_8, hi629_8⟩ := at_T38 (Kd.V_reads' HO_0.out).2.2 x8_1 p629 q629
    cases e629
    obtain ⟨ce629, hce629, hMe629, hcc629⟩ := Kd.V_get HO_0.out z38 x8_1 p629 (by first | exact q629 | exact wd_ | (have e_ := (Kd.V_reads' HO_0.out).1; omega))
    obtain ⟨ua629_8, uc629_8, rfl, ul629_8, ge629_8⟩ := k38_openF hMe629
    have hv629_8 := hcc629 8 _ rfl
    rw [add_field _ _ 8 (by omega)] at hv629_8
    replace hv629_8 := Option.some.inj (hv629_8.symm.trans hx629_8)
    injection hv629_8 with hva_ hvn_ hvc_
    rw [hva_] at ge629_8
    rw [hvc_] at ul629_8
    have HL629_8 := A0_ (show Kd.V (Kd.int .u8) 5 _ w.heap.size _ _ ((rd_T38 l0 x8_1).f5) from Kd.V_mk ul629_8 ge629_8)
    clear hva_ hvn_ hvc_ ge629_8 ul629_8
    clear hcc629 hce629
    have HR629_8 := A0_ hi629_8
    have HC629_8 := A0_ hl629_8
    clear hi629_8 hl629_8
    replace p629 := eq_true p629
    replace q629 := eq_true q629
    try go_wp2_with (first | ((with_reducible refine gate_callee (f := 19) rfl ?_); refine goesL_ (some 24) rfl rfl Tryd.func19 (by kernel_rfl) rfl #[.slice A1 l1.length c1, .string ((rd_T38 l0 x8_1).f0)] rfl wm_ ?_; (with_reducible refine (bindleref08_Find.calls k1 (fun k_ => (((P0_ k_ ∨ P1_ k_) ∨ w.heap.size ≤ k_) ∧ some k_ ≠ (u7 : Value).ownBlock)) _ _ l1 ((rd_T38 l0 x8_1).f0) t630 t631 t632 t633 t634 t635 t636 t637 t638 true _ ?side1 A6.out).mono ?_); (case side1 => exact HO_1.out); rintro e w27 ⟨v639, rfl, ho0, hb⟩; refine ⟨_, rfl, ?_⟩; have n0_ := A0_ (Vb_ (wV_ HO_0.out) hb); have n1_ := A0_ (Vb_ (wV_ HO_1.out) hb); have n2_ := A0_ (Rb_ (wR_ HO_7.out) hb); have n3_ := A0_ (Vb_ (wV_ HL629_8.out) hb); have n4_ := A0_ (Kd.V_lower (Kd.V_mono (ok' := fun k_ => ((P0_ k_ ∨ P1_ k_) ∨ w.heap.size ≤ k_) ∧ some k_ ≠ (u7 : Value).ownBlock) ho0 (fun k_ hk_ => ⟨Or.elim hk_ (fun hs_ => hs_.1) (fun hn_ => (.inr (Nat.le_trans (below_size (wb_ HB.out)) hn_))), Or.elim hk_ (fun hs_ => hs_.2) (fun hn_ => (Kd.fresh' (Kd.R_lt (wR_ HO_7.out)) k_ hn_))⟩)) (below_size (wb_ HB.out))); have n5_ := A0_ (Kd.C_below (by repeat (first | (with_reducible exact HR629_8.out) | (with_reducible refine Ca_ ?_ _) | (with_reducible refine CN_ ?_ _) | (with_reducible refine C1_ ?_) | exact HR629_8.out)) hb); have n6_ := A0_ (below_step (wb_ HB.out) hb); clear HO_0; clear HO_1; clear HO_7; clear HL629_8; clear HR629_8; clear HB; have HO_0 := n0_; have HO_1 := n1_; have HO_7 := n2_; have HL629_8 := n3_; have HO640 := n4_; have HR629_8 := n5_; have HB := n6_; clear n0_ n1_ n2_ n3_ n4_ n5_ n6_; (try clear hb); (try clear hb2); (try clear hk); (try clear hi); (try clear ho0)) | ((with_reducible refine gate_dst (N := 9) rfl ?_); refine box_event ?hg (N := 9) ?hd (cs := #[.string (⟨#[]⟩ : ByteArray), .string (⟨#[]⟩ : ByteArray), .string (⟨#[]⟩ : ByteArray), .int .u8 0, .int .i64 0, .int .i64 0, .int .i64 0, .int .i64 0, .slice none 0 0]) (t := 38) ?hr ?_; (case hd => rfl); (case hg => rfl); (case hr => first | (go_simp; done) | (go_simp; rfl)); intro gb642 hg w28 hbox hb; have n0_ := A0_ (Vb_ (Kd.V_elderB (wV_ HO_0.out) gb642 (Nat.le_of_eq hg.symm)) hb); have n1_ := A0_ (Vb_ (Kd.V_elderB (wV_ HO_1.out) gb642 (Nat.le_of_eq hg.symm)) hb); have n2_ := A0_ (Rb_ (wR_ HO_7.out) hb); have n3_ := A0_ (Vb_ (Kd.V_elderB (wV_ HL629_8.out) gb642 (Nat.le_of_eq hg.symm)) hb); have n4_ := A0_ (Vb_ (Kd.V_elderB (wV_ HO640.out) gb642 (Nat.le_of_eq hg.symm)) hb); have n5_ := A0_ (Kd.C_below (by repeat (first | (with_reducible exact HR629_8.out) | (with_reducible refine Ca_ ?_ _) | (with_reducible refine CN_ ?_ _) | (with_reducible refine C1_ ?_) | exact HR629_8.out)) hb); have n6_ := A0_ (below_step (wb_ HB.out) hb); have n7_ := A0_ (hbox); have n8_ := A0_ ((by rw [hg]; exact (below_size (wb_ HB.out)) : w.heap.size ≤ gb642)); have n9_ := A0_ ((by rw [hg]; exact (below_size (wb_ HB.out)) : w.heap.size ≤ gb642)); clear HO_0; clear HO_1; clear HO_7; clear HL629_8; clear HO640; clear HR629_8; clear HB; have HO_0 := n0_; have HO_1 := n1_; have HO_7 := n2_; have HL629_8 := n3_; have HO640 := n4_; have HR629_8 := n5_; have HB := n6_; have BK642 := n7_; have GW642 := n8_; have GE642 := n9_; clear n0_ n1_ n2_ n3_ n4_ n5_ n6_ n7_ n8_ n9_; clear hb hbox hg; have hcz29_0 : w28.cell? ⟨gb642, 0, none⟩ = some (.string (⟨#[]⟩ : ByteArray)) := (bc_ BK642.out 0).trans rfl; have hcz29_1 : w28.cell? ⟨gb642, 1, none⟩ = some (.string (⟨#[]⟩ : ByteArray)) := (bc_ BK642.out 1).trans rfl; have hcz29_2 : w28.cell? ⟨gb642, 2, none⟩ = some (.string (⟨#[]⟩ : ByteArray)) := (bc_ BK642.out 2).trans rfl; have hcz29_3 : w28.cell? ⟨gb642, 3, none⟩ = some (.int .u8 0) := (bc_ BK642.out 3).trans rfl; have hcz29_4 : w28.cell? ⟨gb642, 4, none⟩ = some (.int .i64 0) := (bc_ BK642.out 4).trans rfl; have hcz29_5 : w28.cell? ⟨gb642, 5, none⟩ = some (.int .i64 0) := (bc_ BK642.out 5).trans rfl; have hcz29_6 : w28.cell? ⟨gb642, 6, none⟩ = some (.int .i64 0) := (bc_ BK642.out 6).trans rfl; have hcz29_7 : w28.cell? ⟨gb642, 7, none⟩ = some (.int .i64 0) := (bc_ BK642.out 7).trans rfl; have hcz29_8 : w28.cell? ⟨gb642, 8, none⟩ = some (.slice none 0 0) := (bc_ BK642.out 8).trans rfl; have hfz29_0 := bf_ BK642.out 0; have hfz29_1 := bf_ BK642.out 1; have hfz29_2 := bf_ BK642.out 2; have hfz29_3 := bf_ BK642.out 3; have hfz29_4 := bf_ BK642.out 4; have hfz29_5 := bf_ BK642.out 5; have hfz29_6 := bf_ BK642.out 6; have hfz29_7 := bf_ BK642.out 7; have hfz29_8 := bf_ BK642.out 8; obtain ⟨Ao30, co30, eo30⟩ := Kd.V_slice HO640.out; subst eo30))
    have n0_ : Aside0 (Kd.V k38 38 (((((((((w28.setCell ⟨gb642, 0, none⟩ (.string t630)).setCell ⟨gb642, 1, none⟩ (.string t631)).setCell ⟨gb642, 2, none⟩ (.string t632)).setCell ⟨gb642, 3, none⟩ (.int .u8 t633)).setCell ⟨gb642, 4, none⟩ (.int .i64 t634)).setCell ⟨gb642, 5, none⟩ (.int .i64 t635)).setCell ⟨gb642, 6, none⟩ (.int .i64 t636)).setCell ⟨gb642, 7, none⟩ (.int .i64 t637)).setCell ⟨gb642, 8, none⟩ (.slice Ao30 t638.length co30)) w.heap.size (fun k_ => ((P0_ k_ ∨ P1_ k_) ∨ w.heap.size ≤ k_) ∧ some k_ ≠ (u7 : Value).ownBlock ∧ k_ ≠ gb642) (.slice (some ad629) l0.length c0) l0) := ⟨by (with_reducible repeat (first | apply Va_ | apply VN_ | apply V1_)); exact Kd.V_mono (Kd.V_far (p := ⟨gb642, 8, none⟩) (Kd.V_far (p := ⟨gb642, 7, none⟩) (Kd.V_far (p := ⟨gb642, 6, none⟩) (Kd.V_far (p := ⟨gb642, 5, none⟩) (Kd.V_far (p := ⟨gb642, 4, none⟩) (Kd.V_far (p := ⟨gb642, 3, none⟩) (Kd.V_far (p := ⟨gb642, 2, none⟩) (Kd.V_far (p := ⟨gb642, 1, none⟩) (Kd.V_far (p := ⟨gb642, 0, none⟩) (Kd.V_mono HO_0.out (fun k_ hk => (⟨hk, hk.2⟩ : _ ∧ k_ ≠ gb642))) (fun _ hk => hk.2) (.string t630)) (fun _ hk => hk.2) (.string t631)) (fun _ hk => hk.2) (.string t632)) (fun _ hk => hk.2) (.int .u8 t633)) (fun _ hk => hk.2) (.int .i64 t634)) (fun _ hk => hk.2) (.int .i64 t635)) (fun _ hk => hk.2) (.int .i64 t636)) (fun _ hk => hk.2) (.int .i64 t637)) (fun _ hk => hk.2) (.slice Ao30 t638.length co30)) (fun _ hk => ⟨hk.1.1.1, ⟨hk.1.1.2, hk.1.2⟩⟩)⟩
    have n1_ : Aside0 (Kd.V k38 38 (((((((((w28.setCell ⟨gb642, 0, none⟩ (.string t630)).setCell ⟨gb642, 1, none⟩ (.string t631)).setCell ⟨gb642, 2, none⟩ (.string t632)).setCell ⟨gb642, 3, none⟩ (.int .u8 t633)).setCell ⟨gb642, 4, none⟩ (.int .i64 t634)).setCell ⟨gb642, 5, none⟩ (.int .i64 t635)).setCell ⟨gb642, 6, none⟩ (.int .i64 t636)).setCell ⟨gb642, 7, none⟩ (.int .i64 t637)).setCell ⟨gb642, 8, none⟩ (.slice Ao30 t638.length co30)) w.heap.size (fun k_ => ((P0_ k_ ∨ P1_ k_) ∨ w.heap.size ≤ k_) ∧ some k_ ≠ (u7 : Value).ownBlock ∧ k_ ≠ gb642) (.slice A1 l1.length c1) l1) := ⟨by (with_reducible repeat (first | apply Va_ | apply VN_ | apply V1_)); exact Kd.V_mono (Kd.V_far (p := ⟨gb642, 8, none⟩) (Kd.V_far (p := ⟨gb642, 7, none⟩) (Kd.V_far (p := ⟨gb642, 6, none⟩) (Kd.V_far (p := ⟨gb642, 5, none⟩) (Kd.V_far (p := ⟨gb642, 4, none⟩) (Kd.V_far (p := ⟨gb642, 3, none⟩) (Kd.V_far (p := ⟨gb642, 2, none⟩) (Kd.V_far (p := ⟨gb642, 1, none⟩) (Kd.V_far (p := ⟨gb642, 0, none⟩) (Kd.V_mono HO_1.out (fun k_ hk => (⟨hk, hk.2⟩ : _ ∧ k_ ≠ gb642))) (fun _ hk => hk.2) (.string t630)) (fun _ hk => hk.2) (.string t631)) (fun _ hk => hk.2) (.string t632)) (fun _ hk => hk.2) (.int .u8 t633)) (fun _ hk => hk.2) (.int .i64 t634)) (fun _ hk => hk.2) (.int .i64 t635)) (fun _ hk => hk.2) (.int .i64 t636)) (fun _ hk => hk.2) (.int .i64 t637)) (fun _ hk => hk.2) (.slice Ao30 t638.length co30)) (fun _ hk => ⟨hk.1.1.1, ⟨hk.1.1.2, hk.1.2⟩⟩)⟩
    have n2_ : Aside0 (Kd.R Kd.string 9 (((((((((w28.setCell ⟨gb642, 0, none⟩ (.string t630)).setCell ⟨gb642, 1, none⟩ (.string t631)).setCell ⟨gb642, 2, none⟩ (.string t632)).setCell ⟨gb642, 3, none⟩ (.int .u8 t633)).setCell ⟨gb642, 4, none⟩ (.int .i64 t634)).setCell ⟨gb642, 5, none⟩ (.int .i64 t635)).setCell ⟨gb642, 6, none⟩ (.int .i64 t636)).setCell ⟨gb642, 7, none⟩ (.int .i64 t637)).setCell ⟨gb642, 8, none⟩ (.slice Ao30 t638.length co30)) w.heap.size (fun k_ => (w.heap.size ≤ k_)) u7 x7_1) := ⟨by (with_reducible repeat (first | apply Ra_ | apply RN_ | apply R1_)); exact Kd.R_mono (Kd.R_far (p := ⟨gb642, 8, none⟩) (Kd.R_far (p := ⟨gb642, 7, none⟩) (Kd.R_far (p := ⟨gb642, 6, none⟩) (Kd.R_far (p := ⟨gb642, 5, none⟩) (Kd.R_far (p := ⟨gb642, 4, none⟩) (Kd.R_far (p := ⟨gb642, 3, none⟩) (Kd.R_far (p := ⟨gb642, 2, none⟩) (Kd.R_far (p := ⟨gb642, 1, none⟩) (Kd.R_far (p := ⟨gb642, 0, none⟩) (Kd.R_types HO_7.out BK642.out (by decide)) (fun _ hk => hk.2) (.string t630)) (fun _ hk => hk.2) (.string t631)) (fun _ hk => hk.2) (.string t632)) (fun _ hk => hk.2) (.int .u8 t633)) (fun _ hk => hk.2) (.int .i64 t634)) (fun _ hk => hk.2) (.int .i64 t635)) (fun _ hk => hk.2) (.int .i64 t636)) (fun _ hk => hk.2) (.int .i64 t637)) (fun _ hk => hk.2) (.slice Ao30 t638.length co30)) (fun _ hk => hk.1)⟩
    have n3_ : Aside0 (Kd.V (Kd.int .u8) 5 (((((((((w28.setCell ⟨gb642, 0, none⟩ (.string t630)).setCell ⟨gb642, 1, none⟩ (.string t631)).setCell ⟨gb642, 2, none⟩ (.string t632)).setCell ⟨gb642, 3, none⟩ (.int .u8 t633)).setCell ⟨gb642, 4, none⟩ (.int .i64 t634)).setCell ⟨gb642, 5, none⟩ (.int .i64 t635)).setCell ⟨gb642, 6, none⟩ (.int .i64 t636)).setCell ⟨gb642, 7, none⟩ (.int .i64 t637)).setCell ⟨gb642, 8, none⟩ (.slice Ao30 t638.length co30)) w.heap.size (fun k_ => ((P0_ k_ ∨ P1_ k_) ∨ w.heap.size ≤ k_) ∧ some k_ ≠ (u7 : Value).ownBlock ∧ k_ ≠ gb642) (.slice A629_8 ((rd_T38 l0 x8_1).f5).length c629_8) ((rd_T38 l0 x8_1).f5)) := ⟨by (with_reducible repeat (first | apply Va_ | apply VN_ | apply V1_)); exact Kd.V_mono (Kd.V_far (p := ⟨gb642, 8, none⟩) (Kd.V_far (p := ⟨gb642, 7, none⟩) (Kd.V_far (p := ⟨gb642, 6, none⟩) (Kd.V_far (p := ⟨gb642, 5, none⟩) (Kd.V_far (p := ⟨gb642, 4, none⟩) (Kd.V_far (p := ⟨gb642, 3, none⟩) (Kd.V_far (p := ⟨gb642, 2, none⟩) (Kd.V_far (p := ⟨gb642, 1, none⟩) (Kd.V_far (p := ⟨gb642, 0, none⟩) (Kd.V_mono HL629_8.out (fun k_ hk => (⟨hk, hk.2⟩ : _ ∧ k_ ≠ gb642))) (fun _ hk => hk.2) (.string t630)) (fun _ hk => hk.2) (.string t631)) (fun _ hk => hk.2) (.string t632)) (fun _ hk => hk.2) (.int .u8 t633)) (fun _ hk => hk.2) (.int .i64 t634)) (fun _ hk => hk.2) (.int .i64 t635)) (fun _ hk => hk.2) (.int .i64 t636)) (fun _ hk => hk.2) (.int .i64 t637)) (fun _ hk => hk.2) (.slice Ao30 t638.length co30)) (fun _ hk => ⟨hk.1.1.1, ⟨hk.1.1.2, hk.1.2⟩⟩)⟩
    have n4_ : Aside0 (Kd.V (Kd.int .u8) 5 (((((((((w28.setCell ⟨gb642, 0, none⟩ (.string t630)).setCell ⟨gb642, 1, none⟩ (.string t631)).setCell ⟨gb642, 2, none⟩ (.string t632)).setCell ⟨gb642, 3, none⟩ (.int .u8 t633)).setCell ⟨gb642, 4, none⟩ (.int .i64 t634)).setCell ⟨gb642, 5, none⟩ (.int .i64 t635)).setCell ⟨gb642, 6, none⟩ (.int .i64 t636)).setCell ⟨gb642, 7, none⟩ (.int .i64 t637)).setCell ⟨gb642, 8, none⟩ (.slice Ao30 t638.length co30)) w.heap.size (fun k_ => ((P0_ k_ ∨ P1_ k_) ∨ w.heap.size ≤ k_) ∧ some k_ ≠ (u7 : Value).ownBlock ∧ k_ ≠ gb642) (.slice Ao30 t638.length co30) t638) := ⟨by (with_reducible repeat (first | apply Va_ | apply VN_ | apply V1_)); exact Kd.V_mono (Kd.V_far (p := ⟨gb642, 8, none⟩) (Kd.V_far (p := ⟨gb642, 7, none⟩) (Kd.V_far (p := ⟨gb642, 6, none⟩) (Kd.V_far (p := ⟨gb642, 5, none⟩) (Kd.V_far (p := ⟨gb642, 4, none⟩) (Kd.V_far (p := ⟨gb642, 3, none⟩) (Kd.V_far (p := ⟨gb642, 2, none⟩) (Kd.V_far (p := ⟨gb642, 1, none⟩) (Kd.V_far (p := ⟨gb642, 0, none⟩) (Kd.V_mono HO640.out (fun k_ hk => (⟨hk, hk.2⟩ : _ ∧ k_ ≠ gb642))) (fun _ hk => hk.2) (.string t630)) (fun _ hk => hk.2) (.string t631)) (fun _ hk => hk.2) (.string t632)) (fun _ hk => hk.2) (.int .u8 t633)) (fun _ hk => hk.2) (.int .i64 t634)) (fun _ hk => hk.2) (.int .i64 t635)) (fun _ hk => hk.2) (.int .i64 t636)) (fun _ hk => hk.2) (.int .i64 t637)) (fun _ hk => hk.2) (.slice Ao30 t638.length co30)) (fun _ hk => ⟨hk.1.1.1, ⟨hk.1.1.2, hk.1.2⟩⟩)⟩
    have n5_ : Aside0 ((((((((((w28.setCell ⟨gb642, 0, none⟩ (.string t630)).setCell ⟨gb642, 1, none⟩ (.string t631)).setCell ⟨gb642, 2, none⟩ (.string t632)).setCell ⟨gb642, 3, none⟩ (.int .u8 t633)).setCell ⟨gb642, 4, none⟩ (.int .i64 t634)).setCell ⟨gb642, 5, none⟩ (.int .i64 t635)).setCell ⟨gb642, 6, none⟩ (.int .i64 t636)).setCell ⟨gb642, 7, none⟩ (.int .i64 t637)).setCell ⟨gb642, 8, none⟩ (.slice Ao30 t638.length co30)).heap[gb642]? = some (.cells #[.string t630, .string t631, .string t632, .int .u8 t633, .int .i64 t634, .int .i64 t635, .int .i64 t636, .int .i64 t637, .slice Ao30 t638.length co30] 38 (0, 0))) := ⟨by (with_reducible repeat (first | refine blk_drewN ?_ _ | refine blk_drew ?_ | refine blk_alloc ?_ _)); refine blk_put (cs := #[.string t630, .string t631, .string t632, .int .u8 t633, .int .i64 t634, .int .i64 t635, .int .i64 t636, .int .i64 t637, .slice none 0 0]) ?_ 8 _ rfl; (with_reducible repeat (first | refine blk_drewN ?_ _ | refine blk_drew ?_ | refine blk_alloc ?_ _)); refine blk_put (cs := #[.string t630, .string t631, .string t632, .int .u8 t633, .int .i64 t634, .int .i64 t635, .int .i64 t636, .int .i64 0, .slice none 0 0]) ?_ 7 _ rfl; (with_reducible repeat (first | refine blk_drewN ?_ _ | refine blk_drew ?_ | refine blk_alloc ?_ _)); refine blk_put (cs := #[.string t630, .string t631, .string t632, .int .u8 t633, .int .i64 t634, .int .i64 t635, .int .i64 0, .int .i64 0, .slice none 0 0]) ?_ 6 _ rfl; (with_reducible repeat (first | refine blk_drewN ?_ _ | refine blk_drew ?_ | refine blk_alloc ?_ _)); refine blk_put (cs := #[.string t630, .string t631, .string t632, .int .u8 t633, .int .i64 t634, .int .i64 0, .int .i64 0, .int .i64 0, .slice none 0 0]) ?_ 5 _ rfl; (with_reducible repeat (first | refine blk_drewN ?_ _ | refine blk_drew ?_ | refine blk_alloc ?_ _)); refine blk_put (cs := #[.string t630, .string t631, .string t632, .int .u8 t633, .int .i64 0, .int .i64 0, .int .i64 0, .int .i64 0, .slice none 0 0]) ?_ 4 _ rfl; (with_reducible repeat (first | refine blk_drewN ?_ _ | refine blk_drew ?_ | refine blk_alloc ?_ _)); refine blk_put (cs := #[.string t630, .string t631, .string t632, .int .u8 0, .int .i64 0, .int .i64 0, .int .i64 0, .int .i64 0, .slice none 0 0]) ?_ 3 _ rfl; (with_reducible repeat (first | refine blk_drewN ?_ _ | refine blk_drew ?_ | refine blk_alloc ?_ _)); refine blk_put (cs := #[.string t630, .string t631, .string (⟨#[]⟩ : ByteArray), .int .u8 0, .int .i64 0, .int .i64 0, .int .i64 0, .int .i64 0, .slice none 0 0]) ?_ 2 _ rfl; (with_reducible repeat (first | refine blk_drewN ?_ _ | refine blk_drew ?_ | refine blk_alloc ?_ _)); refine blk_put (cs := #[.string t630, .string (⟨#[]⟩ : ByteArray), .string (⟨#[]⟩ : ByteArray), .int .u8 0, .int .i64 0, .int .i64 0, .int .i64 0, .int .i64 0, .slice none 0 0]) ?_ 1 _ rfl; (with_reducible repeat (first | refine blk_drewN ?_ _ | refine blk_drew ?_ | refine blk_alloc ?_ _)); refine blk_put (cs := #[.string (⟨#[]⟩ : ByteArray), .string (⟨#[]⟩ : ByteArray), .string (⟨#[]⟩ : ByteArray), .int .u8 0, .int .i64 0, .int .i64 0, .int .i64 0, .int .i64 0, .slice none 0 0]) ?_ 0 _ rfl; (with_reducible repeat (first | refine blk_drewN ?_ _ | refine blk_drew ?_ | refine blk_alloc ?_ _)); exact BK642.out⟩
    have n6_ : Aside0 (Below w.heap.size w (((((((((w28.setCell ⟨gb642, 0, none⟩ (.string t630)).setCell ⟨gb642, 1, none⟩ (.string t631)).setCell ⟨gb642, 2, none⟩ (.string t632)).setCell ⟨gb642, 3, none⟩ (.int .u8 t633)).setCell ⟨gb642, 4, none⟩ (.int .i64 t634)).setCell ⟨gb642, 5, none⟩ (.int .i64 t635)).setCell ⟨gb642, 6, none⟩ (.int .i64 t636)).setCell ⟨gb642, 7, none⟩ (.int .i64 t637)).setCell ⟨gb642, 8, none⟩ (.slice Ao30 t638.length co30))) := ⟨wb1_ HB.out GE642.out⟩
    (try clear HO_0)
    (try clear HO_1)
    (try clear HO_7)
    (try clear HL629_8)
    (try clear HO640)
    (try clear BK642)
    (try clear HB)
    generalize (((((((((w28.setCell ⟨gb642, 0, none⟩ (.string t630)).setCell ⟨gb642, 1, none⟩ (.string t631)).setCell ⟨gb642, 2, none⟩ (.string t632)).setCell ⟨gb642, 3, none⟩ (.int .u8 t633)).setCell ⟨gb642, 4, none⟩ (.int .i64 t634)).setCell ⟨gb642, 5, none⟩ (.int .i64 t635)).setCell ⟨gb642, 6, none⟩ (.int .i64 t636)).setCell ⟨gb642, 7, none⟩ (.int .i64 t637)).setCell ⟨gb642, 8, none⟩ (.slice Ao30 t638.length co30)) = w31 at n0_ n1_ n2_ n3_ n4_ n5_ n6_ ⊢
    have HO_0 := n0_
    have HO_1 := n1_
    have HO_7 := n2_
    have HL629_8 := n3_
    have HO640 := n4_
    have BK642 := n5_
    have HB := n6_
    clear n0_ n1_ n2_ n3_ n4_ n5_ n6_
    have n0_ := A0_ (V1_ HO_0.out)
    have n1_ := A0_ (V1_ HO_1.out)
    have n2_ := A0_ (R1_ HO_7.out)
    have n3_ := A0_ (V1_ HL629_8.out)
    have n4_ := A0_ (V1_ HO640.out)
    have n5_ := A0_ (blk_drew BK642.out)
    have n6_ := A0_ (b1_ HB.out)
    clear HO_0
    clear HO_1
    clear HO_7
    clear HL629_8
    clear HO640
    clear BK642
    clear HB
    have HO_0 := n0_
    have HO_1 := n1_
    have HO_7 := n2_
    have HL629_8 := n3_
    have HO640 := n4_
    have BK642 := n5_
    have HB := n6_
    clear n0_ n1_ n2_ n3_ n4_ n5_ n6_
    refine start_ (n := 14) (S := fun w' => True) (ds := []) q33_0 (by kernel_rfl) rfl rfl trivial (fun hHeld => ?_); refine with_tabW bindleref18_Subtract.tab6 bindleref18_Subtract.bits6 (fun HT_ HW_ => ?_)
    generalize w31.drew = w32 at HO_0 HO_1 HO_7 HL629_8 HO640 BK642 HB hHeld ⊢
    refine pur_ (i := 0) (N := some 27) q33_1 (any_of HT_.out (by kernel_rfl)) ?_
    refine pur_ (i := 1) (N := some 28) q33_2 (any_of HT_.out (by kernel_rfl)) ?_
    refine pur_ (i := 2) (N := some 29) q33_3 (any_of HT_.out (by kernel_rfl)) ?_
    refine pur_ (i := 3) (N := some 30) q33_4 (any_of HT_.out (by kernel_rfl)) ?_
    refine pur_ (i := 4) (N := some 31) q33_5 (any_of HT_.out (by kernel_rfl)) ?_
    refine puu_ (i := 5) (N := some 32) q33_6 (any_of HT_.out (by kernel_rfl)) ?_
    refine puu_ (i := 6) (N := some 33) q33_7 (any_of HT_.out (by kernel_rfl)) ?_
    refine puu_ (i := 7) (N := some 34) q33_8 (any_of HT_.out (by kernel_rfl)) ?_
    refine puu_ (i := 8) (N := some 35) q33_9 (any_of HT_.out (by kernel_rfl)) ?_
    refine puu_ (i := 9) (N := some 36) q33_10 (any_of HT_.out (by kernel_rfl)) ?_
    refine puu_ (i := 10) (N := some 37) q33_11 (any_of HT_.out (by kernel_rfl)) ?_
    refine puu_ (i := 11) (N := some 38) q33_12 (any_of HT_.out (by kernel_rfl)) ?_
    refine pur_ (i := 12) (N := some 39) q33_13 (any_of HT_.out (by kernel_rfl)) ?_
    refine pur_ (i := 13) (N := some 40) q33_14 (any_of HT_.out (by kernel_rfl)) ?_
    refine done_ (done_of HT_.out (by kernel_rfl)) ?_
    try go_wp2
    go_roundg k1
    case measure => have := HK1.out; omega
    case rel => exact ⟨(x7_1), (wrap64 (x8_1 + 1)), wr_, H', ⟨by have := HK1.out; omega⟩, ⟨by (with_reducible repeat (first | apply Va_ | apply VN_ | apply V1_)); exact Kd.V_mono HO_0.out (fun _ hk => ⟨hk.1, hk.2.1⟩)⟩, ⟨by (with_reducible repeat (first | apply Va_ | apply VN_ | apply V1_)); exact Kd.V_mono HO_1.out (fun _ hk => ⟨hk.1, hk.2.1⟩)⟩, ⟨wR_ HO_7.out⟩, ⟨wb1_ HB.out GE642.out⟩⟩
   subst c8
   have H1 : ((bindleref08_Equal.f t630 t631 t632 t633 t634 t635 t636 t637 t638 ((rd_T38 l0 x8_1).f0) ((rd_T38 l0 x8_1).f1) ((rd_T38 l0 x8_1).f2) ((rd_T38 l0 x8_1).f3) ((rd_T38 l0 x8_1).f4.f0) ((rd_T38 l0 x8_1).f4.f1) ((rd_T38 l0 x8_1).f4.f2) ((rd_T38 l0 x8_1).f4.f3) ((rd_T38 l0 x8_1).f5)).bind fun t644 => (if t644 = true then (bindleref18_Subtract.l0 k1 l0 l1 true x7_1 (wrap64 (x8_1 + 1))) else (if x7_1.length < 8796093022208 then (bindleref18_Subtract.l0 k1 l0 l1 true (x7_1 ++ [(rd_T38 l0 x8_1).f0]) (wrap64 (x8_1 + 1))) else (none)))) = some r := by rw [if_pos rfl] at H; exact H
   clear H
   have H := H1
   clear H1
   replace H := Option.bind_eq_some_iff.mp H
   obtain ⟨t644, A90, H⟩ := H
   replace H : (if t644 = true then (bindleref18_Subtract.l0 k1 l0 l1 true x7_1 (wrap64 (x8_1 + 1))) else (if x7_1.length < 8796093022208 then (bindleref18_Subtract.l0 k1 l0 l1 true (x7_1 ++ [(rd_T38 l0 x8_1).f0]) (wrap64 (x8_1 + 1))) else (none))) = some r := H
   have A9 := A0_ A90
   clear A90
   by_cases c10 : t644 = true
   ·subst c10
    have H1 : (bindleref18_Subtract.l0 k1 l0 l1 true x7_1 (wrap64 (x8_1 + 1))) = some r := by rw [if_pos rfl] at H; exact H
    clear H
    have H := H1
    clear H1
    have H' := A0_ H
    clear H
    have p629 : 0 ≤ (x8_1 : Int) := wd_
    have q629 : x8_1 < (l0.length : Int) := wd_
    obtain ⟨ad629, A629_8, c629_8, e629, hx629_0, hx629_1, hx629_2, hx629_3, hx629_4, hx629_5, hx629_6, hx629_7, hx629_8, hl629_8, hi629_8⟩ := at_T38 (Kd.V_reads' HO_0.out).2.2 x8_1 p629 q629
    cases e629
    obtain ⟨ce629, hce629, hMe629, hcc629⟩ := Kd.V_get HO_0.out z38 x8_1 p629 (by first | exact q629 | exact wd_ | (have e_ := (Kd.V_reads' HO_0.out).1; omega))
    obtain ⟨ua629_8, uc629_8, rfl, ul629_8, ge629_8⟩ := k38_openF hMe629
    have hv629_8 := hcc629 8 _ rfl
    rw [add_field _ _ 8 (by omega)] at hv629_8
    replace hv629_8 := Option.some.inj (hv629_8.symm.trans hx629_8)
    injection hv629_8 with hva_ hvn_ hvc_
    rw [hva_] at ge629_8
    rw [hvc_] at ul629_8
    have HL629_8 := A0_ (show Kd.V (Kd.int .u8) 5 _ w.heap.size _ _ ((rd_T38 l0 x8_1).f5) from Kd.V_mk ul629_8 ge629_8)
    clear hva_ hvn_ hvc_ ge629_8 ul629_8
    clear hcc629 hce629
    have HR629_8 := A0_ hi629_8
    have HC629_8 := A0_ hl629_8
    clear hi629_8 hl629_8
    replace p629 := eq_true p629
    replace q629 := eq_true q629
    try go_wp2_with (first | ((with_reducible refine gate_callee (f := 19) rfl ?_); refine goesL_ (some 24) rfl rfl Tryd.func19 (by kernel_rfl) rfl #[.slice A1 l1.length c1, .string ((rd_T38 l0 x8_1).f0)] rfl wm_ ?_; (with_reducible refine (bindleref08_Find.calls k1 (fun k_ => (((P0_ k_ ∨ P1_ k_) ∨ w.heap.size ≤ k_) ∧ some k_ ≠ (u7 : Value).ownBlock)) _ _ l1 ((rd_T38 l0 x8_1).f0) t630 t631 t632 t633 t634 t635 t636 t637 t638 true _ ?side1 A6.out).mono ?_); (case side1 => exact HO_1.out); rintro e w11 ⟨v639, rfl, ho0, hb⟩; refine ⟨_, rfl, ?_⟩; have n0_ := A0_ (Vb_ (wV_ HO_0.out) hb); have n1_ := A0_ (Vb_ (wV_ HO_1.out) hb); have n2_ := A0_ (Rb_ (wR_ HO_7.out) hb); have n3_ := A0_ (Vb_ (wV_ HL629_8.out) hb); have n4_ := A0_ (Kd.V_lower (Kd.V_mono (ok' := fun k_ => ((P0_ k_ ∨ P1_ k_) ∨ w.heap.size ≤ k_) ∧ some k_ ≠ (u7 : Value).ownBlock) ho0 (fun k_ hk_ => ⟨Or.elim hk_ (fun hs_ => hs_.1) (fun hn_ => (.inr (Nat.le_trans (below_size (wb_ HB.out)) hn_))), Or.elim hk_ (fun hs_ => hs_.2) (fun hn_ => (Kd.fresh' (Kd.R_lt (wR_ HO_7.out)) k_ hn_))⟩)) (below_size (wb_ HB.out))); have n5_ := A0_ (Kd.C_below (by repeat (first | (with_reducible exact HR629_8.out) | (with_reducible refine Ca_ ?_ _) | (with_reducible refine CN_ ?_ _) | (with_reducible refine C1_ ?_) | exact HR629_8.out)) hb); have n6_ := A0_ (below_step (wb_ HB.out) hb); clear HO_0; clear HO_1; clear HO_7; clear HL629_8; clear HR629_8; clear HB; have HO_0 := n0_; have HO_1 := n1_; have HO_7 := n2_; have HL629_8 := n3_; have HO640 := n4_; have HR629_8 := n5_; have HB := n6_; clear n0_ n1_ n2_ n3_ n4_ n5_ n6_; (try clear hb); (try clear hb2); (try clear hk); (try clear hi); (try clear ho0)) | ((with_reducible refine gate_dst (N := 9) rfl ?_); refine box_event ?hg (N := 9) ?hd (cs := #[.string (⟨#[]⟩ : ByteArray), .string (⟨#[]⟩ : ByteArray), .string (⟨#[]⟩ : ByteArray), .int .u8 0, .int .i64 0, .int .i64 0, .int .i64 0, .int .i64 0, .slice none 0 0]) (t := 38) ?hr ?_; (case hd => rfl); (case hg => rfl); (case hr => first | (go_simp; done) | (go_simp; rfl)); intro gb642 hg w12 hbox hb; have n0_ := A0_ (Vb_ (Kd.V_elderB (wV_ HO_0.out) gb642 (Nat.le_of_eq hg.symm)) hb); have n1_ := A0_ (Vb_ (Kd.V_elderB (wV_ HO_1.out) gb642 (Nat.le_of_eq hg.symm)) hb); have n2_ := A0_ (Rb_ (wR_ HO_7.out) hb); have n3_ := A0_ (Vb_ (Kd.V_elderB (wV_ HL629_8.out) gb642 (Nat.le_of_eq hg.symm)) hb); have n4_ := A0_ (Vb_ (Kd.V_elderB (wV_ HO640.out) gb642 (Nat.le_of_eq hg.symm)) hb); have n5_ := A0_ (Kd.C_below (by repeat (first | (with_reducible exact HR629_8.out) | (with_reducible refine Ca_ ?_ _) | (with_reducible refine CN_ ?_ _) | (with_reducible refine C1_ ?_) | exact HR629_8.out)) hb); have n6_ := A0_ (below_step (wb_ HB.out) hb); have n7_ := A0_ (hbox); have n8_ := A0_ ((by rw [hg]; exact (below_size (wb_ HB.out)) : w.heap.size ≤ gb642)); have n9_ := A0_ ((by rw [hg]; exact (below_size (wb_ HB.out)) : w.heap.size ≤ gb642)); clear HO_0; clear HO_1; clear HO_7; clear HL629_8; clear HO640; clear HR629_8; clear HB; have HO_0 := n0_; have HO_1 := n1_; have HO_7 := n2_; have HL629_8 := n3_; have HO640 := n4_; have HR629_8 := n5_; have HB := n6_; have BK642 := n7_; have GW642 := n8_; have GE642 := n9_; clear n0_ n1_ n2_ n3_ n4_ n5_ n6_ n7_ n8_ n9_; clear hb hbox hg; have hcz13_0 : w12.cell? ⟨gb642, 0, none⟩ = some (.string (⟨#[]⟩ : ByteArray)) := (bc_ BK642.out 0).trans rfl; have hcz13_1 : w12.cell? ⟨gb642, 1, none⟩ = some (.string (⟨#[]⟩ : ByteArray)) := (bc_ BK642.out 1).trans rfl; have hcz13_2 : w12.cell? ⟨gb642, 2, none⟩ = some (.string (⟨#[]⟩ : ByteArray)) := (bc_ BK642.out 2).trans rfl; have hcz13_3 : w12.cell? ⟨gb642, 3, none⟩ = some (.int .u8 0) := (bc_ BK642.out 3).trans rfl; have hcz13_4 : w12.cell? ⟨gb642, 4, none⟩ = some (.int .i64 0) := (bc_ BK642.out 4).trans rfl; have hcz13_5 : w12.cell? ⟨gb642, 5, none⟩ = some (.int .i64 0) := (bc_ BK642.out 5).trans rfl; have hcz13_6 : w12.cell? ⟨gb642, 6, none⟩ = some (.int .i64 0) := (bc_ BK642.out 6).trans rfl; have hcz13_7 : w12.cell? ⟨gb642, 7, none⟩ = some (.int .i64 0) := (bc_ BK642.out 7).trans rfl; have hcz13_8 : w12.cell? ⟨gb642, 8, none⟩ = some (.slice none 0 0) := (bc_ BK642.out 8).trans rfl; have hfz13_0 := bf_ BK642.out 0; have hfz13_1 := bf_ BK642.out 1; have hfz13_2 := bf_ BK642.out 2; have hfz13_3 := bf_ BK642.out 3; have hfz13_4 := bf_ BK642.out 4; have hfz13_5 := bf_ BK642.out 5; have hfz13_6 := bf_ BK642.out 6; have hfz13_7 := bf_ BK642.out 7; have hfz13_8 := bf_ BK642.out 8; obtain ⟨Ao14, co14, eo14⟩ := Kd.V_slice HO640.out; subst eo14))
    have n0_ : Aside0 (Kd.V k38 38 (((((((((w12.setCell ⟨gb642, 0, none⟩ (.string t630)).setCell ⟨gb642, 1, none⟩ (.string t631)).setCell ⟨gb642, 2, none⟩ (.string t632)).setCell ⟨gb642, 3, none⟩ (.int .u8 t633)).setCell ⟨gb642, 4, none⟩ (.int .i64 t634)).setCell ⟨gb642, 5, none⟩ (.int .i64 t635)).setCell ⟨gb642, 6, none⟩ (.int .i64 t636)).setCell ⟨gb642, 7, none⟩ (.int .i64 t637)).setCell ⟨gb642, 8, none⟩ (.slice Ao14 t638.length co14)) w.heap.size (fun k_ => ((P0_ k_ ∨ P1_ k_) ∨ w.heap.size ≤ k_) ∧ some k_ ≠ (u7 : Value).ownBlock ∧ k_ ≠ gb642) (.slice (some ad629) l0.length c0) l0) := ⟨by (with_reducible repeat (first | apply Va_ | apply VN_ | apply V1_)); exact Kd.V_mono (Kd.V_far (p := ⟨gb642, 8, none⟩) (Kd.V_far (p := ⟨gb642, 7, none⟩) (Kd.V_far (p := ⟨gb642, 6, none⟩) (Kd.V_far (p := ⟨gb642, 5, none⟩) (Kd.V_far (p := ⟨gb642, 4, none⟩) (Kd.V_far (p := ⟨gb642, 3, none⟩) (Kd.V_far (p := ⟨gb642, 2, none⟩) (Kd.V_far (p := ⟨gb642, 1, none⟩) (Kd.V_far (p := ⟨gb642, 0, none⟩) (Kd.V_mono HO_0.out (fun k_ hk => (⟨hk, hk.2⟩ : _ ∧ k_ ≠ gb642))) (fun _ hk => hk.2) (.string t630)) (fun _ hk => hk.2) (.string t631)) (fun _ hk => hk.2) (.string t632)) (fun _ hk => hk.2) (.int .u8 t633)) (fun _ hk => hk.2) (.int .i64 t634)) (fun _ hk => hk.2) (.int .i64 t635)) (fun _ hk => hk.2) (.int .i64 t636)) (fun _ hk => hk.2) (.int .i64 t637)) (fun _ hk => hk.2) (.slice Ao14 t638.length co14)) (fun _ hk => ⟨hk.1.1.1, ⟨hk.1.1.2, hk.1.2⟩⟩)⟩
    have n1_ : Aside0 (Kd.V k38 38 (((((((((w12.setCell ⟨gb642, 0, none⟩ (.string t630)).setCell ⟨gb642, 1, none⟩ (.string t631)).setCell ⟨gb642, 2, none⟩ (.string t632)).setCell ⟨gb642, 3, none⟩ (.int .u8 t633)).setCell ⟨gb642, 4, none⟩ (.int .i64 t634)).setCell ⟨gb642, 5, none⟩ (.int .i64 t635)).setCell ⟨gb642, 6, none⟩ (.int .i64 t636)).setCell ⟨gb642, 7, none⟩ (.int .i64 t637)).setCell ⟨gb642, 8, none⟩ (.slice Ao14 t638.length co14)) w.heap.size (fun k_ => ((P0_ k_ ∨ P1_ k_) ∨ w.heap.size ≤ k_) ∧ some k_ ≠ (u7 : Value).ownBlock ∧ k_ ≠ gb642) (.slice A1 l1.length c1) l1) := ⟨by (with_reducible repeat (first | apply Va_ | apply VN_ | apply V1_)); exact Kd.V_mono (Kd.V_far (p := ⟨gb642, 8, none⟩) (Kd.V_far (p := ⟨gb642, 7, none⟩) (Kd.V_far (p := ⟨gb642, 6, none⟩) (Kd.V_far (p := ⟨gb642, 5, none⟩) (Kd.V_far (p := ⟨gb642, 4, none⟩) (Kd.V_far (p := ⟨gb642, 3, none⟩) (Kd.V_far (p := ⟨gb642, 2, none⟩) (Kd.V_far (p := ⟨gb642, 1, none⟩) (Kd.V_far (p := ⟨gb642, 0, none⟩) (Kd.V_mono HO_1.out (fun k_ hk => (⟨hk, hk.2⟩ : _ ∧ k_ ≠ gb642))) (fun _ hk => hk.2) (.string t630)) (fun _ hk => hk.2) (.string t631)) (fun _ hk => hk.2) (.string t632)) (fun _ hk => hk.2) (.int .u8 t633)) (fun _ hk => hk.2) (.int .i64 t634)) (fun _ hk => hk.2) (.int .i64 t635)) (fun _ hk => hk.2) (.int .i64 t636)) (fun _ hk => hk.2) (.int .i64 t637)) (fun _ hk => hk.2) (.slice Ao14 t638.length co14)) (fun _ hk => ⟨hk.1.1.1, ⟨hk.1.1.2, hk.1.2⟩⟩)⟩
    have n2_ : Aside0 (Kd.R Kd.string 9 (((((((((w12.setCell ⟨gb642, 0, none⟩ (.string t630)).setCell ⟨gb642, 1, none⟩ (.string t631)).setCell ⟨gb642, 2, none⟩ (.string t632)).setCell ⟨gb642, 3, none⟩ (.int .u8 t633)).setCell ⟨gb642, 4, none⟩ (.int .i64 t634)).setCell ⟨gb642, 5, none⟩ (.int .i64 t635)).setCell ⟨gb642, 6, none⟩ (.int .i64 t636)).setCell ⟨gb642, 7, none⟩ (.int .i64 t637)).setCell ⟨gb642, 8, none⟩ (.slice Ao14 t638.length co14)) w.heap.size (fun k_ => (w.heap.size ≤ k_)) u7 x7_1) := ⟨by (with_reducible repeat (first | apply Ra_ | apply RN_ | apply R1_)); exact Kd.R_mono (Kd.R_far (p := ⟨gb642, 8, none⟩) (Kd.R_far (p := ⟨gb642, 7, none⟩) (Kd.R_far (p := ⟨gb642, 6, none⟩) (Kd.R_far (p := ⟨gb642, 5, none⟩) (Kd.R_far (p := ⟨gb642, 4, none⟩) (Kd.R_far (p := ⟨gb642, 3, none⟩) (Kd.R_far (p := ⟨gb642, 2, none⟩) (Kd.R_far (p := ⟨gb642, 1, none⟩) (Kd.R_far (p := ⟨gb642, 0, none⟩) (Kd.R_types HO_7.out BK642.out (by decide)) (fun _ hk => hk.2) (.string t630)) (fun _ hk => hk.2) (.string t631)) (fun _ hk => hk.2) (.string t632)) (fun _ hk => hk.2) (.int .u8 t633)) (fun _ hk => hk.2) (.int .i64 t634)) (fun _ hk => hk.2) (.int .i64 t635)) (fun _ hk => hk.2) (.int .i64 t636)) (fun _ hk => hk.2) (.int .i64 t637)) (fun _ hk => hk.2) (.slice Ao14 t638.length co14)) (fun _ hk => hk.1)⟩
    have n3_ : Aside0 (Kd.V (Kd.int .u8) 5 (((((((((w12.setCell ⟨gb642, 0, none⟩ (.string t630)).setCell ⟨gb642, 1, none⟩ (.string t631)).setCell ⟨gb642, 2, none⟩ (.string t632)).setCell ⟨gb642, 3, none⟩ (.int .u8 t633)).setCell ⟨gb642, 4, none⟩ (.int .i64 t634)).setCell ⟨gb642, 5, none⟩ (.int .i64 t635)).setCell ⟨gb642, 6, none⟩ (.int .i64 t636)).setCell ⟨gb642, 7, none⟩ (.int .i64 t637)).setCell ⟨gb642, 8, none⟩ (.slice Ao14 t638.length co14)) w.heap.size (fun k_ => ((P0_ k_ ∨ P1_ k_) ∨ w.heap.size ≤ k_) ∧ some k_ ≠ (u7 : Value).ownBlock ∧ k_ ≠ gb642) (.slice A629_8 ((rd_T38 l0 x8_1).f5).length c629_8) ((rd_T38 l0 x8_1).f5)) := ⟨by (with_reducible repeat (first | apply Va_ | apply VN_ | apply V1_)); exact Kd.V_mono (Kd.V_far (p := ⟨gb642, 8, none⟩) (Kd.V_far (p := ⟨gb642, 7, none⟩) (Kd.V_far (p := ⟨gb642, 6, none⟩) (Kd.V_far (p := ⟨gb642, 5, none⟩) (Kd.V_far (p := ⟨gb642, 4, none⟩) (Kd.V_far (p := ⟨gb642, 3, none⟩) (Kd.V_far (p := ⟨gb642, 2, none⟩) (Kd.V_far (p := ⟨gb642, 1, none⟩) (Kd.V_far (p := ⟨gb642, 0, none⟩) (Kd.V_mono HL629_8.out (fun k_ hk => (⟨hk, hk.2⟩ : _ ∧ k_ ≠ gb642))) (fun _ hk => hk.2) (.string t630)) (fun _ hk => hk.2) (.string t631)) (fun _ hk => hk.2) (.string t632)) (fun _ hk => hk.2) (.int .u8 t633)) (fun _ hk => hk.2) (.int .i64 t634)) (fun _ hk => hk.2) (.int .i64 t635)) (fun _ hk => hk.2) (.int .i64 t636)) (fun _ hk => hk.2) (.int .i64 t637)) (fun _ hk => hk.2) (.slice Ao14 t638.length co14)) (fun _ hk => ⟨hk.1.1.1, ⟨hk.1.1.2, hk.1.2⟩⟩)⟩
    have n4_ : Aside0 (Kd.V (Kd.int .u8) 5 (((((((((w12.setCell ⟨gb642, 0, none⟩ (.string t630)).setCell ⟨gb642, 1, none⟩ (.string t631)).setCell ⟨gb642, 2, none⟩ (.string t632)).setCell ⟨gb642, 3, none⟩ (.int .u8 t633)).setCell ⟨gb642, 4, none⟩ (.int .i64 t634)).setCell ⟨gb642, 5, none⟩ (.int .i64 t635)).setCell ⟨gb642, 6, none⟩ (.int .i64 t636)).setCell ⟨gb642, 7, none⟩ (.int .i64 t637)).setCell ⟨gb642, 8, none⟩ (.slice Ao14 t638.length co14)) w.heap.size (fun k_ => ((P0_ k_ ∨ P1_ k_) ∨ w.heap.size ≤ k_) ∧ some k_ ≠ (u7 : Value).ownBlock ∧ k_ ≠ gb642) (.slice Ao14 t638.length co14) t638) := ⟨by (with_reducible repeat (first | apply Va_ | apply VN_ | apply V1_)); exact Kd.V_mono (Kd.V_far (p := ⟨gb642, 8, none⟩) (Kd.V_far (p := ⟨gb642, 7, none⟩) (Kd.V_far (p := ⟨gb642, 6, none⟩) (Kd.V_far (p := ⟨gb642, 5, none⟩) (Kd.V_far (p := ⟨gb642, 4, none⟩) (Kd.V_far (p := ⟨gb642, 3, none⟩) (Kd.V_far (p := ⟨gb642, 2, none⟩) (Kd.V_far (p := ⟨gb642, 1, none⟩) (Kd.V_far (p := ⟨gb642, 0, none⟩) (Kd.V_mono HO640.out (fun k_ hk => (⟨hk, hk.2⟩ : _ ∧ k_ ≠ gb642))) (fun _ hk => hk.2) (.string t630)) (fun _ hk => hk.2) (.string t631)) (fun _ hk => hk.2) (.string t632)) (fun _ hk => hk.2) (.int .u8 t633)) (fun _ hk => hk.2) (.int .i64 t634)) (fun _ hk => hk.2) (.int .i64 t635)) (fun _ hk => hk.2) (.int .i64 t636)) (fun _ hk => hk.2) (.int .i64 t637)) (fun _ hk => hk.2) (.slice Ao14 t638.length co14)) (fun _ hk => ⟨hk.1.1.1, ⟨hk.1.1.2, hk.1.2⟩⟩)⟩
    have n5_ : Aside0 ((((((((((w12.setCell ⟨gb642, 0, none⟩ (.string t630)).setCell ⟨gb642, 1, none⟩ (.string t631)).setCell ⟨gb642, 2, none⟩ (.string t632)).setCell ⟨gb642, 3, none⟩ (.int .u8 t633)).setCell ⟨gb642, 4, none⟩ (.int .i64 t634)).setCell ⟨gb642, 5, none⟩ (.int .i64 t635)).setCell ⟨gb642, 6, none⟩ (.int .i64 t636)).setCell ⟨gb642, 7, none⟩ (.int .i64 t637)).setCell ⟨gb642, 8, none⟩ (.slice Ao14 t638.length co14)).heap[gb642]? = some (.cells #[.string t630, .string t631, .string t632, .int .u8 t633, .int .i64 t634, .int .i64 t635, .int .i64 t636, .int .i64 t637, .slice Ao14 t638.length co14] 38 (0, 0))) := ⟨by (with_reducible repeat (first | refine blk_drewN ?_ _ | refine blk_drew ?_ | refine blk_alloc ?_ _)); refine blk_put (cs := #[.string t630, .string t631, .string t632, .int .u8 t633, .int .i64 t634, .int .i64 t635, .int .i64 t636, .int .i64 t637, .slice none 0 0]) ?_ 8 _ rfl; (with_reducible repeat (first | refine blk_drewN ?_ _ | refine blk_drew ?_ | refine blk_alloc ?_ _)); refine blk_put (cs := #[.string t630, .string t631, .string t632, .int .u8 t633, .int .i64 t634, .int .i64 t635, .int .i64 t636, .int .i64 0, .slice none 0 0]) ?_ 7 _ rfl; (with_reducible repeat (first | refine blk_drewN ?_ _ | refine blk_drew ?_ | refine blk_alloc ?_ _)); refine blk_put (cs := #[.string t630, .string t631, .string t632, .int .u8 t633, .int .i64 t634, .int .i64 t635, .int .i64 0, .int .i64 0, .slice none 0 0]) ?_ 6 _ rfl; (with_reducible repeat (first | refine blk_drewN ?_ _ | refine blk_drew ?_ | refine blk_alloc ?_ _)); refine blk_put (cs := #[.string t630, .string t631, .string t632, .int .u8 t633, .int .i64 t634, .int .i64 0, .int .i64 0, .int .i64 0, .slice none 0 0]) ?_ 5 _ rfl; (with_reducible repeat (first | refine blk_drewN ?_ _ | refine blk_drew ?_ | refine blk_alloc ?_ _)); refine blk_put (cs := #[.string t630, .string t631, .string t632, .int .u8 t633, .int .i64 0, .int .i64 0, .int .i64 0, .int .i64 0, .slice none 0 0]) ?_ 4 _ rfl; (with_reducible repeat (first | refine blk_drewN ?_ _ | refine blk_drew ?_ | refine blk_alloc ?_ _)); refine blk_put (cs := #[.string t630, .string t631, .string t632, .int .u8 0, .int .i64 0, .int .i64 0, .int .i64 0, .int .i64 0, .slice none 0 0]) ?_ 3 _ rfl; (with_reducible repeat (first | refine blk_drewN ?_ _ | refine blk_drew ?_ | refine blk_alloc ?_ _)); refine blk_put (cs := #[.string t630, .string t631, .string (⟨#[]⟩ : ByteArray), .int .u8 0, .int .i64 0, .int .i64 0, .int .i64 0, .int .i64 0, .slice none 0 0]) ?_ 2 _ rfl; (with_reducible repeat (first | refine blk_drewN ?_ _ | refine blk_drew ?_ | refine blk_alloc ?_ _)); refine blk_put (cs := #[.string t630, .string (⟨#[]⟩ : ByteArray), .string (⟨#[]⟩ : ByteArray), .int .u8 0, .int .i64 0, .int .i64 0, .int .i64 0, .int .i64 0, .slice none 0 0]) ?_ 1 _ rfl; (with_reducible repeat (first | refine blk_drewN ?_ _ | refine blk_drew ?_ | refine blk_alloc ?_ _)); refine blk_put (cs := #[.string (⟨#[]⟩ : ByteArray), .string (⟨#[]⟩ : ByteArray), .string (⟨#[]⟩ : ByteArray), .int .u8 0, .int .i64 0, .int .i64 0, .int .i64 0, .int .i64 0, .slice none 0 0]) ?_ 0 _ rfl; (with_reducible repeat (first | refine blk_drewN ?_ _ | refine blk_drew ?_ | refine blk_alloc ?_ _)); exact BK642.out⟩
    have n6_ : Aside0 (Below w.heap.size w (((((((((w12.setCell ⟨gb642, 0, none⟩ (.string t630)).setCell ⟨gb642, 1, none⟩ (.string t631)).setCell ⟨gb642, 2, none⟩ (.string t632)).setCell ⟨gb642, 3, none⟩ (.int .u8 t633)).setCell ⟨gb642, 4, none⟩ (.int .i64 t634)).setCell ⟨gb642, 5, none⟩ (.int .i64 t635)).setCell ⟨gb642, 6, none⟩ (.int .i64 t636)).setCell ⟨gb642, 7, none⟩ (.int .i64 t637)).setCell ⟨gb642, 8, none⟩ (.slice Ao14 t638.length co14))) := ⟨wb1_ HB.out GE642.out⟩
    (try clear HO_0)
    (try clear HO_1)
    (try clear HO_7)
    (try clear HL629_8)
    (try clear HO640)
    (try clear BK642)
    (try clear HB)
    generalize (((((((((w12.setCell ⟨gb642, 0, none⟩ (.string t630)).setCell ⟨gb642, 1, none⟩ (.string t631)).setCell ⟨gb642, 2, none⟩ (.string t632)).setCell ⟨gb642, 3, none⟩ (.int .u8 t633)).setCell ⟨gb642, 4, none⟩ (.int .i64 t634)).setCell ⟨gb642, 5, none⟩ (.int .i64 t635)).setCell ⟨gb642, 6, none⟩ (.int .i64 t636)).setCell ⟨gb642, 7, none⟩ (.int .i64 t637)).setCell ⟨gb642, 8, none⟩ (.slice Ao14 t638.length co14)) = w15 at n0_ n1_ n2_ n3_ n4_ n5_ n6_ ⊢
    have HO_0 := n0_
    have HO_1 := n1_
    have HO_7 := n2_
    have HL629_8 := n3_
    have HO640 := n4_
    have BK642 := n5_
    have HB := n6_
    clear n0_ n1_ n2_ n3_ n4_ n5_ n6_
    have n0_ := A0_ (V1_ HO_0.out)
    have n1_ := A0_ (V1_ HO_1.out)
    have n2_ := A0_ (R1_ HO_7.out)
    have n3_ := A0_ (V1_ HL629_8.out)
    have n4_ := A0_ (V1_ HO640.out)
    have n5_ := A0_ (blk_drew BK642.out)
    have n6_ := A0_ (b1_ HB.out)
    clear HO_0
    clear HO_1
    clear HO_7
    clear HL629_8
    clear HO640
    clear BK642
    clear HB
    have HO_0 := n0_
    have HO_1 := n1_
    have HO_7 := n2_
    have HL629_8 := n3_
    have HO640 := n4_
    have BK642 := n5_
    have HB := n6_
    clear n0_ n1_ n2_ n3_ n4_ n5_ n6_
    have p643 : 0 ≤ (x8_1 : Int) := wd_
    have q643 : x8_1 < (l0.length : Int) := wd_
    obtain ⟨ad643, A643_8, c643_8, e643, hx643_0, hx643_1, hx643_2, hx643_3, hx643_4, hx643_5, hx643_6, hx643_7, hx643_8, hl643_8, hi643_8⟩ := at_T38 (Kd.V_reads' HO_0.out).2.2 x8_1 p643 q643
    obtain rfl : ad629 = ad643 := (by injection e643)
    obtain ⟨ce643, hce643, hMe643, hcc643⟩ := Kd.V_get HO_0.out z38 x8_1 p643 (by first | exact q643 | exact wd_ | (have e_ := (Kd.V_reads' HO_0.out).1; omega))
    obtain ⟨ua643_8, uc643_8, rfl, ul643_8, ge643_8⟩ := k38_openF hMe643
    have hv643_8 := hcc643 8 _ rfl
    rw [add_field _ _ 8 (by omega)] at hv643_8
    replace hv643_8 := Option.some.inj (hv643_8.symm.trans hx643_8)
    injection hv643_8 with hva_ hvn_ hvc_
    rw [hva_] at ge643_8
    rw [hvc_] at ul643_8
    have HL643_8 := A0_ (show Kd.V (Kd.int .u8) 5 _ w.heap.size _ _ ((rd_T38 l0 x8_1).f5) from Kd.V_mk ul643_8 ge643_8)
    clear hva_ hvn_ hvc_ ge643_8 ul643_8
    clear hcc643 hce643
    have HR643_8 := A0_ hi643_8
    have HC643_8 := A0_ hl643_8
    clear hi643_8 hl643_8
    replace p643 := eq_true p643
    replace q643 := eq_true q643
    refine start_ (n := 14) (S := fun w' => w'.cell? ⟨gb642, 0, none⟩ = some (.string t630) ∧ w'.cell? ⟨gb642, 1, none⟩ = some (.string t631) ∧ w'.cell? ⟨gb642, 2, none⟩ = some (.string t632) ∧ w'.cell? ⟨gb642, 3, none⟩ = some (.int .u8 t633) ∧ w'.cell? ⟨gb642, 4, none⟩ = some (.int .i64 t634) ∧ w'.cell? ⟨gb642, 5, none⟩ = some (.int .i64 t635) ∧ w'.cell? ⟨gb642, 6, none⟩ = some (.int .i64 t636) ∧ w'.cell? ⟨gb642, 7, none⟩ = some (.int .i64 t637) ∧ w'.cell? ⟨gb642, 8, none⟩ = some (.slice Ao14 t638.length co14) ∧ w'.cell? (ad629.add ((x8_1).toNat * 9)) = some (.string ((rd_T38 l0 x8_1).f0)) ∧ w'.cell? ⟨(ad629.add ((x8_1).toNat * 9)).block, (ad629.add ((x8_1).toNat * 9)).off + 1, none⟩ = some (.string ((rd_T38 l0 x8_1).f1)) ∧ w'.cell? ⟨(ad629.add ((x8_1).toNat * 9)).block, (ad629.add ((x8_1).toNat * 9)).off + 2, none⟩ = some (.string ((rd_T38 l0 x8_1).f2)) ∧ w'.cell? ⟨(ad629.add ((x8_1).toNat * 9)).block, (ad629.add ((x8_1).toNat * 9)).off + 3, none⟩ = some (.int .u8 ((rd_T38 l0 x8_1).f3)) ∧ w'.cell? ⟨(ad629.add ((x8_1).toNat * 9)).block, (ad629.add ((x8_1).toNat * 9)).off + 4, none⟩ = some (.int .i64 ((rd_T38 l0 x8_1).f4.f0)) ∧ w'.cell? ⟨(ad629.add ((x8_1).toNat * 9)).block, (ad629.add ((x8_1).toNat * 9)).off + 5, none⟩ = some (.int .i64 ((rd_T38 l0 x8_1).f4.f1)) ∧ w'.cell? ⟨(ad629.add ((x8_1).toNat * 9)).block, (ad629.add ((x8_1).toNat * 9)).off + 6, none⟩ = some (.int .i64 ((rd_T38 l0 x8_1).f4.f2)) ∧ w'.cell? ⟨(ad629.add ((x8_1).toNat * 9)).block, (ad629.add ((x8_1).toNat * 9)).off + 7, none⟩ = some (.int .i64 ((rd_T38 l0 x8_1).f4.f3)) ∧ w'.cell? ⟨(ad629.add ((x8_1).toNat * 9)).block, (ad629.add ((x8_1).toNat * 9)).off + 8, none⟩ = some (.slice A643_8 ((rd_T38 l0 x8_1).f5).length c643_8)) (ds := []) q33_0 (by kernel_rfl) rfl rfl ⟨(bc_ BK642.out 0).trans rfl, (bc_ BK642.out 1).trans rfl, (bc_ BK642.out 2).trans rfl, (bc_ BK642.out 3).trans rfl, (bc_ BK642.out 4).trans rfl, (bc_ BK642.out 5).trans rfl, (bc_ BK642.out 6).trans rfl, (bc_ BK642.out 7).trans rfl, (bc_ BK642.out 8).trans rfl, hx643_0, hx643_1, hx643_2, hx643_3, hx643_4, hx643_5, hx643_6, hx643_7, hx643_8⟩ (fun hHeld => ?_); refine with_tabW bindleref18_Subtract.tab6 bindleref18_Subtract.bits6 (fun HT_ HW_ => ?_)
    generalize w15.drew = w16 at HO_0 HO_1 HO_7 HL629_8 HO640 BK642 HB HL643_8 HR643_8 hx643_0 hx643_1 hx643_2 hx643_3 hx643_4 hx643_5 hx643_6 hx643_7 hx643_8 hHeld ⊢
    refine pur_ (i := 0) (N := some 27) q33_1 (any_of HT_.out (by kernel_rfl)) ?_
    refine pur_ (i := 1) (N := some 28) q33_2 (any_of HT_.out (by kernel_rfl)) ?_
    refine pur_ (i := 2) (N := some 29) q33_3 (any_of HT_.out (by kernel_rfl)) ?_
    refine pur_ (i := 3) (N := some 30) q33_4 (any_of HT_.out (by kernel_rfl)) ?_
    refine pur_ (i := 4) (N := some 31) q33_5 (any_of HT_.out (by kernel_rfl)) ?_
    refine pur_ (i := 6) (N := some 33) q33_15 (any_of HT_.out (by kernel_rfl)) ?_
    refine pur_ (i := 7) (N := some 34) q33_16 (any_of HT_.out (by kernel_rfl)) ?_
    refine pur_ (i := 8) (N := some 35) q33_17 (any_of HT_.out (by kernel_rfl)) ?_
    refine take_ (i := 5) (N := some 32) (v := ?_) (a' := ?_) q33_9 rfl rfl (take_ofW HT_.out HW_.out (by kernel_rfl)) (fun _ _ _ h => h) (Or.inl ⟨by rfl, ?_⟩) hHeld ?_ ?_
    rotate_left
    ·rintro w' ⟨s0, s1, s2, s3, s4, s5, s6, s7, s8, s9, s10, s11, s12, s13, s14, s15, s16, s17⟩
     go_simp
     with_reducible rfl
    rotate_left
    ·simp only [Act.put, List.setIfInBounds_toArray, List.set_cons_zero, List.set_cons_succ, i64_w, i32_w]
     rfl
    refine take_ (i := 9) (N := some 36) (v := ?_) (a' := ?_) q33_10 rfl rfl (take_ofW HT_.out HW_.out (by kernel_rfl)) (fun _ _ _ h => h) (Or.inl ⟨by rfl, ?_⟩) hHeld ?_ ?_
    rotate_left
    ·rintro w' ⟨s0, s1, s2, s3, s4, s5, s6, s7, s8, s9, s10, s11, s12, s13, s14, s15, s16, s17⟩
     go_simp
     with_reducible rfl
    rotate_left
    ·simp only [Act.put, List.setIfInBounds_toArray, List.set_cons_zero, List.set_cons_succ, i64_w, i32_w]
     rfl
    refine one_ (i := 10) (N := some 37) q33_11 rfl rfl (one_of HT_.out (by kernel_rfl)) (by decide) (fun K hK => ?_)
    refine goes_ Tryd.func20 (by kernel_rfl) rfl #[.agg #[.string t630, .string t631, .string t632, .int .u8 t633, .int .i64 t634, .int .i64 t635, .int .i64 t636, .int .i64 t637, .slice Ao14 t638.length co14], .agg #[.string ((rd_T38 l0 x8_1).f0), .string ((rd_T38 l0 x8_1).f1), .string ((rd_T38 l0 x8_1).f2), .int .u8 ((rd_T38 l0 x8_1).f3), .int .i64 ((rd_T38 l0 x8_1).f4.f0), .int .i64 ((rd_T38 l0 x8_1).f4.f1), .int .i64 ((rd_T38 l0 x8_1).f4.f2), .int .i64 ((rd_T38 l0 x8_1).f4.f3), .slice A643_8 ((rd_T38 l0 x8_1).f5).length c643_8]] (by rfl) rfl rfl wm_ ?_
    with_reducible refine (bindleref08_Equal.calls t630 t631 t632 t633 t634 t635 t636 t637 _ _ t638 ((rd_T38 l0 x8_1).f0) ((rd_T38 l0 x8_1).f1) ((rd_T38 l0 x8_1).f2) ((rd_T38 l0 x8_1).f3) ((rd_T38 l0 x8_1).f4.f0) ((rd_T38 l0 x8_1).f4.f1) ((rd_T38 l0 x8_1).f4.f2) ((rd_T38 l0 x8_1).f4.f3) _ _ ((rd_T38 l0 x8_1).f5) true _ ?side1 ?side2 ?side3 ?side4 A9.out).mono ?_
    (case side1 => exact wc_ (Kd.V_reads' HO640.out).2.2)
    (case side2 => exact (Kd.V_reads' HO640.out).2.1)
    (case side3 => repeat (first | exact (by repeat (first | (with_reducible exact HR643_8.out) | (with_reducible refine Ca_ ?_ _) | (with_reducible refine CN_ ?_ _) | (with_reducible refine C1_ ?_) | exact HR643_8.out)) | (with_reducible refine Ca_ ?_ _) | (with_reducible refine CN_ ?_ _) | (with_reducible refine C1_ ?_)))
    (case side4 => exact HC643_8.out)
    rintro e w17 ⟨rfl, hb⟩
    have HS9_ := (hb.cell (World.block_lt_of_cell? _ _ (hHeld.2.2.2.2.2.2.2.2.2.1))).trans (hHeld.2.2.2.2.2.2.2.2.2.1)
    have HS10_ := (hb.cell (World.block_lt_of_cell? _ _ (hHeld.2.2.2.2.2.2.2.2.2.2.1))).trans (hHeld.2.2.2.2.2.2.2.2.2.2.1)
    have HS11_ := (hb.cell (World.block_lt_of_cell? _ _ (hHeld.2.2.2.2.2.2.2.2.2.2.2.1))).trans (hHeld.2.2.2.2.2.2.2.2.2.2.2.1)
    have HS12_ := (hb.cell (World.block_lt_of_cell? _ _ (hHeld.2.2.2.2.2.2.2.2.2.2.2.2.1))).trans (hHeld.2.2.2.2.2.2.2.2.2.2.2.2.1)
    have HS13_ := (hb.cell (World.block_lt_of_cell? _ _ (hHeld.2.2.2.2.2.2.2.2.2.2.2.2.2.1))).trans (hHeld.2.2.2.2.2.2.2.2.2.2.2.2.2.1)
    have HS14_ := (hb.cell (World.block_lt_of_cell? _ _ (hHeld.2.2.2.2.2.2.2.2.2.2.2.2.2.2.1))).trans (hHeld.2.2.2.2.2.2.2.2.2.2.2.2.2.2.1)
    have HS15_ := (hb.cell (World.block_lt_of_cell? _ _ (hHeld.2.2.2.2.2.2.2.2.2.2.2.2.2.2.2.1))).trans (hHeld.2.2.2.2.2.2.2.2.2.2.2.2.2.2.2.1)
    have HS16_ := (hb.cell (World.block_lt_of_cell? _ _ (hHeld.2.2.2.2.2.2.2.2.2.2.2.2.2.2.2.2.1))).trans (hHeld.2.2.2.2.2.2.2.2.2.2.2.2.2.2.2.2.1)
    have HS17_ := (hb.cell (World.block_lt_of_cell? _ _ (hHeld.2.2.2.2.2.2.2.2.2.2.2.2.2.2.2.2.2))).trans (hHeld.2.2.2.2.2.2.2.2.2.2.2.2.2.2.2.2.2)
    refine ⟨_, rfl, ?_⟩
    have n0_ := A0_ (Vb_ (wV_ HO_0.out) hb)
    have n1_ := A0_ (Vb_ (wV_ HO_1.out) hb)
    have n2_ := A0_ (Rb_ (wR_ HO_7.out) hb)
    have n3_ := A0_ (Vb_ (wV_ HL629_8.out) hb)
    have n4_ := A0_ (Vb_ (wV_ HO640.out) hb)
    have n5_ := A0_ (Vb_ (wV_ HL643_8.out) hb)
    have n6_ := A0_ (blk_below (g := gb642) (o := .cells #[.string t630, .string t631, .string t632, .int .u8 t633, .int .i64 t634, .int .i64 t635, .int .i64 t636, .int .i64 t637, .slice Ao14 t638.length co14] 38 (0, 0)) (wB_ BK642.out) hb)
    have n7_ := A0_ (Kd.C_below (by repeat (first | (with_reducible exact HR643_8.out) | (with_reducible refine Ca_ ?_ _) | (with_reducible refine CN_ ?_ _) | (with_reducible refine C1_ ?_) | exact HR643_8.out)) hb)
    have n8_ := A0_ (below_step (wb1_ HB.out GE642.out) hb)
    clear HO_0
    clear HO_1
    clear HO_7
    clear HL629_8
    clear HO640
    clear HL643_8
    clear BK642
    clear HR643_8
    clear HB
    have HO_0 := n0_
    have HO_1 := n1_
    have HO_7 := n2_
    have HL629_8 := n3_
    have HO640 := n4_
    have HL643_8 := n5_
    have BK642 := n6_
    have HR643_8 := n7_
    have HB := n8_
    clear n0_ n1_ n2_ n3_ n4_ n5_ n6_ n7_ n8_
    (try clear hb)
    (try clear hb2)
    (try clear hk)
    (try clear hi)
    refine hK.out _ _ ⟨(bc_ BK642.out 0).trans rfl, (bc_ BK642.out 1).trans rfl, (bc_ BK642.out 2).trans rfl, (bc_ BK642.out 3).trans rfl, (bc_ BK642.out 4).trans rfl, (bc_ BK642.out 5).trans rfl, (bc_ BK642.out 6).trans rfl, (bc_ BK642.out 7).trans rfl, (bc_ BK642.out 8).trans rfl, HS9_, HS10_, HS11_, HS12_, HS13_, HS14_, HS15_, HS16_, HS17_⟩ (fun hHeld => ?_)
    clear hK K
    refine norm_ (a' := ?_) ?_ ?_
    rotate_left
    ·show Act.put _ (some 37) _ = _
     simp only [Act.put, List.setIfInBounds_toArray, List.set_cons_zero, List.set_cons_succ, i64_w, i32_w]
     rfl
    refine pur_ (i := 11) (N := some 38) q33_12 (any_of HT_.out (by kernel_rfl)) ?_
    refine pur_ (i := 12) (N := some 39) q33_13 (any_of HT_.out (by kernel_rfl)) ?_
    refine pur_ (i := 13) (N := some 40) q33_14 (any_of HT_.out (by kernel_rfl)) ?_
    refine done_ (done_of HT_.out (by kernel_rfl)) ?_
    try go_wp2
    go_roundg k1
    case measure => have := HK1.out; omega
    case rel => exact ⟨(x7_1), (wrap64 (x8_1 + 1)), wr_, H', ⟨by have := HK1.out; omega⟩, ⟨by (with_reducible repeat (first | apply Va_ | apply VN_ | apply V1_)); exact Kd.V_mono HO_0.out (fun _ hk => ⟨hk.1, hk.2.1⟩)⟩, ⟨by (with_reducible repeat (first | apply Va_ | apply VN_ | apply V1_)); exact Kd.V_mono HO_1.out (fun _ hk => ⟨hk.1, hk.2.1⟩)⟩, ⟨wR_ HO_7.out⟩, ⟨wb1_ HB.out GE642.out⟩⟩
   replace c10 := Bool.eq_false_iff.mpr c10
   subst c10
   have H1 : (if x7_1.length < 8796093022208 then (bindleref18_Subtract.l0 k1 l0 l1 true (x7_1 ++ [(rd_T38 l0 x8_1).f0]) (wrap64 (x8_1 + 1))) else (none)) = some r := by rw [if_neg (show ¬ (false = true) by decide)] at H; exact H
   clear H
   have H := H1
   clear H1
   by_cases c18 : x7_1.length < 8796093022208
   rotate_left
   ·rw [if_neg c18] at H
    exact absurd H (by simp)
   rw [if_pos c18] at H
   have LMc18 := A0_ c18
   clear c18
   obtain ⟨y646, hy646⟩ : ∃ y_ : List ByteArray, y_ = (x7_1 ++ [(rd_T38 l0 x8_1).f0]) := ⟨_, rfl⟩
   replace H : (bindleref18_Subtract.l0 k1 l0 l1 true y646 (wrap64 (x8_1 + 1))) = some r := by first | (rw [hy646]; with_reducible exact H) | (have H2_ := (Option.bind_some _ _).symm.trans H; rw [hy646]; with_reducible exact H2_) | (have H2_ := (Option.bind_some _ _).symm.trans H; with_reducible exact H2_) | with_reducible exact H | (rw [hy646]; exact H) | exact H
   have Ny646 := A0_ hy646
   clear hy646
   have H' := A0_ H
   clear H
   have p629 : 0 ≤ (x8_1 : Int) := wd_
   have q629 : x8_1 < (l0.length : Int) := wd_
   obtain ⟨ad629, A629_8, c629_8, e629, hx629_0, hx629_1, hx629_2, hx629_3, hx629_4, hx629_5, hx629_6, hx629_7, hx629_8, hl629_8, hi629_8⟩ := at_T38 (Kd.V_reads' HO_0.out).2.2 x8_1 p629 q629
   cases e629
   obtain ⟨ce629, hce629, hMe629, hcc629⟩ := Kd.V_get HO_0.out z38 x8_1 p629 (by first | exact q629 | exact wd_ | (have e_ := (Kd.V_reads' HO_0.out).1; omega))
   obtain ⟨ua629_8, uc629_8, rfl, ul629_8, ge629_8⟩ := k38_openF hMe629
   have hv629_8 := hcc629 8 _ rfl
   rw [add_field _ _ 8 (by omega)] at hv629_8
   replace hv629_8 := Option.some.inj (hv629_8.symm.trans hx629_8)
   injection hv629_8 with hva_ hvn_ hvc_
   rw [hva_] at ge629_8
   rw [hvc_] at ul629_8
   have HL629_8 := A0_ (show Kd.V (Kd.int .u8) 5 _ w.heap.size _ _ ((rd_T38 l0 x8_1).f5) from Kd.V_mk ul629_8 ge629_8)
   clear hva_ hvn_ hvc_ ge629_8 ul629_8
   clear hcc629 hce629
   have HR629_8 := A0_ hi629_8
   have HC629_8 := A0_ hl629_8
   clear hi629_8 hl629_8
   replace p629 := eq_true p629
   replace q629 := eq_true q629
   try go_wp2_with (first | ((with_reducible refine gate_callee (f := 19) rfl ?_); refine goesL_ (some 24) rfl rfl Tryd.func19 (by kernel_rfl) rfl #[.slice A1 l1.length c1, .string ((rd_T38 l0 x8_1).f0)] rfl wm_ ?_; (with_reducible refine (bindleref08_Find.calls k1 (fun k_ => (((P0_ k_ ∨ P1_ k_) ∨ w.heap.size ≤ k_) ∧ some k_ ≠ (u7 : Value).ownBlock)) _ _ l1 ((rd_T38 l0 x8_1).f0) t630 t631 t632 t633 t634 t635 t636 t637 t638 true _ ?side1 A6.out).mono ?_); (case side1 => exact HO_1.out); rintro e w19 ⟨v639, rfl, ho0, hb⟩; refine ⟨_, rfl, ?_⟩; have n0_ := A0_ (Vb_ (wV_ HO_0.out) hb); have n1_ := A0_ (Vb_ (wV_ HO_1.out) hb); have n2_ := A0_ (Rb_ (wR_ HO_7.out) hb); have n3_ := A0_ (Vb_ (wV_ HL629_8.out) hb); have n4_ := A0_ (Kd.V_lower (Kd.V_mono (ok' := fun k_ => ((P0_ k_ ∨ P1_ k_) ∨ w.heap.size ≤ k_) ∧ some k_ ≠ (u7 : Value).ownBlock) ho0 (fun k_ hk_ => ⟨Or.elim hk_ (fun hs_ => hs_.1) (fun hn_ => (.inr (Nat.le_trans (below_size (wb_ HB.out)) hn_))), Or.elim hk_ (fun hs_ => hs_.2) (fun hn_ => (Kd.fresh' (Kd.R_lt (wR_ HO_7.out)) k_ hn_))⟩)) (below_size (wb_ HB.out))); have n5_ := A0_ (Kd.C_below (by repeat (first | (with_reducible exact HR629_8.out) | (with_reducible refine Ca_ ?_ _) | (with_reducible refine CN_ ?_ _) | (with_reducible refine C1_ ?_) | exact HR629_8.out)) hb); have n6_ := A0_ (below_step (wb_ HB.out) hb); clear HO_0; clear HO_1; clear HO_7; clear HL629_8; clear HR629_8; clear HB; have HO_0 := n0_; have HO_1 := n1_; have HO_7 := n2_; have HL629_8 := n3_; have HO640 := n4_; have HR629_8 := n5_; have HB := n6_; clear n0_ n1_ n2_ n3_ n4_ n5_ n6_; (try clear hb); (try clear hb2); (try clear hk); (try clear hi); (try clear ho0)) | ((with_reducible refine gate_dst (N := 9) rfl ?_); refine box_event ?hg (N := 9) ?hd (cs := #[.string (⟨#[]⟩ : ByteArray), .string (⟨#[]⟩ : ByteArray), .string (⟨#[]⟩ : ByteArray), .int .u8 0, .int .i64 0, .int .i64 0, .int .i64 0, .int .i64 0, .slice none 0 0]) (t := 38) ?hr ?_; (case hd => rfl); (case hg => rfl); (case hr => first | (go_simp; done) | (go_simp; rfl)); intro gb642 hg w20 hbox hb; have n0_ := A0_ (Vb_ (Kd.V_elderB (wV_ HO_0.out) gb642 (Nat.le_of_eq hg.symm)) hb); have n1_ := A0_ (Vb_ (Kd.V_elderB (wV_ HO_1.out) gb642 (Nat.le_of_eq hg.symm)) hb); have n2_ := A0_ (Rb_ (wR_ HO_7.out) hb); have n3_ := A0_ (Vb_ (Kd.V_elderB (wV_ HL629_8.out) gb642 (Nat.le_of_eq hg.symm)) hb); have n4_ := A0_ (Vb_ (Kd.V_elderB (wV_ HO640.out) gb642 (Nat.le_of_eq hg.symm)) hb); have n5_ := A0_ (Kd.C_below (by repeat (first | (with_reducible exact HR629_8.out) | (with_reducible refine Ca_ ?_ _) | (with_reducible refine CN_ ?_ _) | (with_reducible refine C1_ ?_) | exact HR629_8.out)) hb); have n6_ := A0_ (below_step (wb_ HB.out) hb); have n7_ := A0_ (hbox); have n8_ := A0_ ((by rw [hg]; exact (below_size (wb_ HB.out)) : w.heap.size ≤ gb642)); have n9_ := A0_ ((by rw [hg]; exact (below_size (wb_ HB.out)) : w.heap.size ≤ gb642)); clear HO_0; clear HO_1; clear HO_7; clear HL629_8; clear HO640; clear HR629_8; clear HB; have HO_0 := n0_; have HO_1 := n1_; have HO_7 := n2_; have HL629_8 := n3_; have HO640 := n4_; have HR629_8 := n5_; have HB := n6_; have BK642 := n7_; have GW642 := n8_; have GE642 := n9_; clear n0_ n1_ n2_ n3_ n4_ n5_ n6_ n7_ n8_ n9_; clear hb hbox hg; have hcz21_0 : w20.cell? ⟨gb642, 0, none⟩ = some (.string (⟨#[]⟩ : ByteArray)) := (bc_ BK642.out 0).trans rfl; have hcz21_1 : w20.cell? ⟨gb642, 1, none⟩ = some (.string (⟨#[]⟩ : ByteArray)) := (bc_ BK642.out 1).trans rfl; have hcz21_2 : w20.cell? ⟨gb642, 2, none⟩ = some (.string (⟨#[]⟩ : ByteArray)) := (bc_ BK642.out 2).trans rfl; have hcz21_3 : w20.cell? ⟨gb642, 3, none⟩ = some (.int .u8 0) := (bc_ BK642.out 3).trans rfl; have hcz21_4 : w20.cell? ⟨gb642, 4, none⟩ = some (.int .i64 0) := (bc_ BK642.out 4).trans rfl; have hcz21_5 : w20.cell? ⟨gb642, 5, none⟩ = some (.int .i64 0) := (bc_ BK642.out 5).trans rfl; have hcz21_6 : w20.cell? ⟨gb642, 6, none⟩ = some (.int .i64 0) := (bc_ BK642.out 6).trans rfl; have hcz21_7 : w20.cell? ⟨gb642, 7, none⟩ = some (.int .i64 0) := (bc_ BK642.out 7).trans rfl; have hcz21_8 : w20.cell? ⟨gb642, 8, none⟩ = some (.slice none 0 0) := (bc_ BK642.out 8).trans rfl; have hfz21_0 := bf_ BK642.out 0; have hfz21_1 := bf_ BK642.out 1; have hfz21_2 := bf_ BK642.out 2; have hfz21_3 := bf_ BK642.out 3; have hfz21_4 := bf_ BK642.out 4; have hfz21_5 := bf_ BK642.out 5; have hfz21_6 := bf_ BK642.out 6; have hfz21_7 := bf_ BK642.out 7; have hfz21_8 := bf_ BK642.out 8; obtain ⟨Ao22, co22, eo22⟩ := Kd.V_slice HO640.out; subst eo22))
   have n0_ : Aside0 (Kd.V k38 38 (((((((((w20.setCell ⟨gb642, 0, none⟩ (.string t630)).setCell ⟨gb642, 1, none⟩ (.string t631)).setCell ⟨gb642, 2, none⟩ (.string t632)).setCell ⟨gb642, 3, none⟩ (.int .u8 t633)).setCell ⟨gb642, 4, none⟩ (.int .i64 t634)).setCell ⟨gb642, 5, none⟩ (.int .i64 t635)).setCell ⟨gb642, 6, none⟩ (.int .i64 t636)).setCell ⟨gb642, 7, none⟩ (.int .i64 t637)).setCell ⟨gb642, 8, none⟩ (.slice Ao22 t638.length co22)) w.heap.size (fun k_ => ((P0_ k_ ∨ P1_ k_) ∨ w.heap.size ≤ k_) ∧ some k_ ≠ (u7 : Value).ownBlock ∧ k_ ≠ gb642) (.slice (some ad629) l0.length c0) l0) := ⟨by (with_reducible repeat (first | apply Va_ | apply VN_ | apply V1_)); exact Kd.V_mono (Kd.V_far (p := ⟨gb642, 8, none⟩) (Kd.V_far (p := ⟨gb642, 7, none⟩) (Kd.V_far (p := ⟨gb642, 6, none⟩) (Kd.V_far (p := ⟨gb642, 5, none⟩) (Kd.V_far (p := ⟨gb642, 4, none⟩) (Kd.V_far (p := ⟨gb642, 3, none⟩) (Kd.V_far (p := ⟨gb642, 2, none⟩) (Kd.V_far (p := ⟨gb642, 1, none⟩) (Kd.V_far (p := ⟨gb642, 0, none⟩) (Kd.V_mono HO_0.out (fun k_ hk => (⟨hk, hk.2⟩ : _ ∧ k_ ≠ gb642))) (fun _ hk => hk.2) (.string t630)) (fun _ hk => hk.2) (.string t631)) (fun _ hk => hk.2) (.string t632)) (fun _ hk => hk.2) (.int .u8 t633)) (fun _ hk => hk.2) (.int .i64 t634)) (fun _ hk => hk.2) (.int .i64 t635)) (fun _ hk => hk.2) (.int .i64 t636)) (fun _ hk => hk.2) (.int .i64 t637)) (fun _ hk => hk.2) (.slice Ao22 t638.length co22)) (fun _ hk => ⟨hk.1.1.1, ⟨hk.1.1.2, hk.1.2⟩⟩)⟩
   have n1_ : Aside0 (Kd.V k38 38 (((((((((w20.setCell ⟨gb642, 0, none⟩ (.string t630)).setCell ⟨gb642, 1, none⟩ (.string t631)).setCell ⟨gb642, 2, none⟩ (.string t632)).setCell ⟨gb642, 3, none⟩ (.int .u8 t633)).setCell ⟨gb642, 4, none⟩ (.int .i64 t634)).setCell ⟨gb642, 5, none⟩ (.int .i64 t635)).setCell ⟨gb642, 6, none⟩ (.int .i64 t636)).setCell ⟨gb642, 7, none⟩ (.int .i64 t637)).setCell ⟨gb642, 8, none⟩ (.slice Ao22 t638.length co22)) w.heap.size (fun k_ => ((P0_ k_ ∨ P1_ k_) ∨ w.heap.size ≤ k_) ∧ some k_ ≠ (u7 : Value).ownBlock ∧ k_ ≠ gb642) (.slice A1 l1.length c1) l1) := ⟨by (with_reducible repeat (first | apply Va_ | apply VN_ | apply V1_)); exact Kd.V_mono (Kd.V_far (p := ⟨gb642, 8, none⟩) (Kd.V_far (p := ⟨gb642, 7, none⟩) (Kd.V_far (p := ⟨gb642, 6, none⟩) (Kd.V_far (p := ⟨gb642, 5, none⟩) (Kd.V_far (p := ⟨gb642, 4, none⟩) (Kd.V_far (p := ⟨gb642, 3, none⟩) (Kd.V_far (p := ⟨gb642, 2, none⟩) (Kd.V_far (p := ⟨gb642, 1, none⟩) (Kd.V_far (p := ⟨gb642, 0, none⟩) (Kd.V_mono HO_1.out (fun k_ hk => (⟨hk, hk.2⟩ : _ ∧ k_ ≠ gb642))) (fun _ hk => hk.2) (.string t630)) (fun _ hk => hk.2) (.string t631)) (fun _ hk => hk.2) (.string t632)) (fun _ hk => hk.2) (.int .u8 t633)) (fun _ hk => hk.2) (.int .i64 t634)) (fun _ hk => hk.2) (.int .i64 t635)) (fun _ hk => hk.2) (.int .i64 t636)) (fun _ hk => hk.2) (.int .i64 t637)) (fun _ hk => hk.2) (.slice Ao22 t638.length co22)) (fun _ hk => ⟨hk.1.1.1, ⟨hk.1.1.2, hk.1.2⟩⟩)⟩
   have n2_ : Aside0 (Kd.R Kd.string 9 (((((((((w20.setCell ⟨gb642, 0, none⟩ (.string t630)).setCell ⟨gb642, 1, none⟩ (.string t631)).setCell ⟨gb642, 2, none⟩ (.string t632)).setCell ⟨gb642, 3, none⟩ (.int .u8 t633)).setCell ⟨gb642, 4, none⟩ (.int .i64 t634)).setCell ⟨gb642, 5, none⟩ (.int .i64 t635)).setCell ⟨gb642, 6, none⟩ (.int .i64 t636)).setCell ⟨gb642, 7, none⟩ (.int .i64 t637)).setCell ⟨gb642, 8, none⟩ (.slice Ao22 t638.length co22)) w.heap.size (fun k_ => (w.heap.size ≤ k_)) u7 x7_1) := ⟨by (with_reducible repeat (first | apply Ra_ | apply RN_ | apply R1_)); exact Kd.R_mono (Kd.R_far (p := ⟨gb642, 8, none⟩) (Kd.R_far (p := ⟨gb642, 7, none⟩) (Kd.R_far (p := ⟨gb642, 6, none⟩) (Kd.R_far (p := ⟨gb642, 5, none⟩) (Kd.R_far (p := ⟨gb642, 4, none⟩) (Kd.R_far (p := ⟨gb642, 3, none⟩) (Kd.R_far (p := ⟨gb642, 2, none⟩) (Kd.R_far (p := ⟨gb642, 1, none⟩) (Kd.R_far (p := ⟨gb642, 0, none⟩) (Kd.R_types HO_7.out BK642.out (by decide)) (fun _ hk => hk.2) (.string t630)) (fun _ hk => hk.2) (.string t631)) (fun _ hk => hk.2) (.string t632)) (fun _ hk => hk.2) (.int .u8 t633)) (fun _ hk => hk.2) (.int .i64 t634)) (fun _ hk => hk.2) (.int .i64 t635)) (fun _ hk => hk.2) (.int .i64 t636)) (fun _ hk => hk.2) (.int .i64 t637)) (fun _ hk => hk.2) (.slice Ao22 t638.length co22)) (fun _ hk => hk.1)⟩
   have n3_ : Aside0 (Kd.V (Kd.int .u8) 5 (((((((((w20.setCell ⟨gb642, 0, none⟩ (.string t630)).setCell ⟨gb642, 1, none⟩ (.string t631)).setCell ⟨gb642, 2, none⟩ (.string t632)).setCell ⟨gb642, 3, none⟩ (.int .u8 t633)).setCell ⟨gb642, 4, none⟩ (.int .i64 t634)).setCell ⟨gb642, 5, none⟩ (.int .i64 t635)).setCell ⟨gb642, 6, none⟩ (.int .i64 t636)).setCell ⟨gb642, 7, none⟩ (.int .i64 t637)).setCell ⟨gb642, 8, none⟩ (.slice Ao22 t638.length co22)) w.heap.size (fun k_ => ((P0_ k_ ∨ P1_ k_) ∨ w.heap.size ≤ k_) ∧ some k_ ≠ (u7 : Value).ownBlock ∧ k_ ≠ gb642) (.slice A629_8 ((rd_T38 l0 x8_1).f5).length c629_8) ((rd_T38 l0 x8_1).f5)) := ⟨by (with_reducible repeat (first | apply Va_ | apply VN_ | apply V1_)); exact Kd.V_mono (Kd.V_far (p := ⟨gb642, 8, none⟩) (Kd.V_far (p := ⟨gb642, 7, none⟩) (Kd.V_far (p := ⟨gb642, 6, none⟩) (Kd.V_far (p := ⟨gb642, 5, none⟩) (Kd.V_far (p := ⟨gb642, 4, none⟩) (Kd.V_far (p := ⟨gb642, 3, none⟩) (Kd.V_far (p := ⟨gb642, 2, none⟩) (Kd.V_far (p := ⟨gb642, 1, none⟩) (Kd.V_far (p := ⟨gb642, 0, none⟩) (Kd.V_mono HL629_8.out (fun k_ hk => (⟨hk, hk.2⟩ : _ ∧ k_ ≠ gb642))) (fun _ hk => hk.2) (.string t630)) (fun _ hk => hk.2) (.string t631)) (fun _ hk => hk.2) (.string t632)) (fun _ hk => hk.2) (.int .u8 t633)) (fun _ hk => hk.2) (.int .i64 t634)) (fun _ hk => hk.2) (.int .i64 t635)) (fun _ hk => hk.2) (.int .i64 t636)) (fun _ hk => hk.2) (.int .i64 t637)) (fun _ hk => hk.2) (.slice Ao22 t638.length co22)) (fun _ hk => ⟨hk.1.1.1, ⟨hk.1.1.2, hk.1.2⟩⟩)⟩
   have n4_ : Aside0 (Kd.V (Kd.int .u8) 5 (((((((((w20.setCell ⟨gb642, 0, none⟩ (.string t630)).setCell ⟨gb642, 1, none⟩ (.string t631)).setCell ⟨gb642, 2, none⟩ (.string t632)).setCell ⟨gb642, 3, none⟩ (.int .u8 t633)).setCell ⟨gb642, 4, none⟩ (.int .i64 t634)).setCell ⟨gb642, 5, none⟩ (.int .i64 t635)).setCell ⟨gb642, 6, none⟩ (.int .i64 t636)).setCell ⟨gb642, 7, none⟩ (.int .i64 t637)).setCell ⟨gb642, 8, none⟩ (.slice Ao22 t638.length co22)) w.heap.size (fun k_ => ((P0_ k_ ∨ P1_ k_) ∨ w.heap.size ≤ k_) ∧ some k_ ≠ (u7 : Value).ownBlock ∧ k_ ≠ gb642) (.slice Ao22 t638.length co22) t638) := ⟨by (with_reducible repeat (first | apply Va_ | apply VN_ | apply V1_)); exact Kd.V_mono (Kd.V_far (p := ⟨gb642, 8, none⟩) (Kd.V_far (p := ⟨gb642, 7, none⟩) (Kd.V_far (p := ⟨gb642, 6, none⟩) (Kd.V_far (p := ⟨gb642, 5, none⟩) (Kd.V_far (p := ⟨gb642, 4, none⟩) (Kd.V_far (p := ⟨gb642, 3, none⟩) (Kd.V_far (p := ⟨gb642, 2, none⟩) (Kd.V_far (p := ⟨gb642, 1, none⟩) (Kd.V_far (p := ⟨gb642, 0, none⟩) (Kd.V_mono HO640.out (fun k_ hk => (⟨hk, hk.2⟩ : _ ∧ k_ ≠ gb642))) (fun _ hk => hk.2) (.string t630)) (fun _ hk => hk.2) (.string t631)) (fun _ hk => hk.2) (.string t632)) (fun _ hk => hk.2) (.int .u8 t633)) (fun _ hk => hk.2) (.int .i64 t634)) (fun _ hk => hk.2) (.int .i64 t635)) (fun _ hk => hk.2) (.int .i64 t636)) (fun _ hk => hk.2) (.int .i64 t637)) (fun _ hk => hk.2) (.slice Ao22 t638.length co22)) (fun _ hk => ⟨hk.1.1.1, ⟨hk.1.1.2, hk.1.2⟩⟩)⟩
   have n5_ : Aside0 ((((((((((w20.setCell ⟨gb642, 0, none⟩ (.string t630)).setCell ⟨gb642, 1, none⟩ (.string t631)).setCell ⟨gb642, 2, none⟩ (.string t632)).setCell ⟨gb642, 3, none⟩ (.int .u8 t633)).setCell ⟨gb642, 4, none⟩ (.int .i64 t634)).setCell ⟨gb642, 5, none⟩ (.int .i64 t635)).setCell ⟨gb642, 6, none⟩ (.int .i64 t636)).setCell ⟨gb642, 7, none⟩ (.int .i64 t637)).setCell ⟨gb642, 8, none⟩ (.slice Ao22 t638.length co22)).heap[gb642]? = some (.cells #[.string t630, .string t631, .string t632, .int .u8 t633, .int .i64 t634, .int .i64 t635, .int .i64 t636, .int .i64 t637, .slice Ao22 t638.length co22] 38 (0, 0))) := ⟨by (with_reducible repeat (first | refine blk_drewN ?_ _ | refine blk_drew ?_ | refine blk_alloc ?_ _)); refine blk_put (cs := #[.string t630, .string t631, .string t632, .int .u8 t633, .int .i64 t634, .int .i64 t635, .int .i64 t636, .int .i64 t637, .slice none 0 0]) ?_ 8 _ rfl; (with_reducible repeat (first | refine blk_drewN ?_ _ | refine blk_drew ?_ | refine blk_alloc ?_ _)); refine blk_put (cs := #[.string t630, .string t631, .string t632, .int .u8 t633, .int .i64 t634, .int .i64 t635, .int .i64 t636, .int .i64 0, .slice none 0 0]) ?_ 7 _ rfl; (with_reducible repeat (first | refine blk_drewN ?_ _ | refine blk_drew ?_ | refine blk_alloc ?_ _)); refine blk_put (cs := #[.string t630, .string t631, .string t632, .int .u8 t633, .int .i64 t634, .int .i64 t635, .int .i64 0, .int .i64 0, .slice none 0 0]) ?_ 6 _ rfl; (with_reducible repeat (first | refine blk_drewN ?_ _ | refine blk_drew ?_ | refine blk_alloc ?_ _)); refine blk_put (cs := #[.string t630, .string t631, .string t632, .int .u8 t633, .int .i64 t634, .int .i64 0, .int .i64 0, .int .i64 0, .slice none 0 0]) ?_ 5 _ rfl; (with_reducible repeat (first | refine blk_drewN ?_ _ | refine blk_drew ?_ | refine blk_alloc ?_ _)); refine blk_put (cs := #[.string t630, .string t631, .string t632, .int .u8 t633, .int .i64 0, .int .i64 0, .int .i64 0, .int .i64 0, .slice none 0 0]) ?_ 4 _ rfl; (with_reducible repeat (first | refine blk_drewN ?_ _ | refine blk_drew ?_ | refine blk_alloc ?_ _)); refine blk_put (cs := #[.string t630, .string t631, .string t632, .int .u8 0, .int .i64 0, .int .i64 0, .int .i64 0, .int .i64 0, .slice none 0 0]) ?_ 3 _ rfl; (with_reducible repeat (first | refine blk_drewN ?_ _ | refine blk_drew ?_ | refine blk_alloc ?_ _)); refine blk_put (cs := #[.string t630, .string t631, .string (⟨#[]⟩ : ByteArray), .int .u8 0, .int .i64 0, .int .i64 0, .int .i64 0, .int .i64 0, .slice none 0 0]) ?_ 2 _ rfl; (with_reducible repeat (first | refine blk_drewN ?_ _ | refine blk_drew ?_ | refine blk_alloc ?_ _)); refine blk_put (cs := #[.string t630, .string (⟨#[]⟩ : ByteArray), .string (⟨#[]⟩ : ByteArray), .int .u8 0, .int .i64 0, .int .i64 0, .int .i64 0, .int .i64 0, .slice none 0 0]) ?_ 1 _ rfl; (with_reducible repeat (first | refine blk_drewN ?_ _ | refine blk_drew ?_ | refine blk_alloc ?_ _)); refine blk_put (cs := #[.string (⟨#[]⟩ : ByteArray), .string (⟨#[]⟩ : ByteArray), .string (⟨#[]⟩ : ByteArray), .int .u8 0, .int .i64 0, .int .i64 0, .int .i64 0, .int .i64 0, .slice none 0 0]) ?_ 0 _ rfl; (with_reducible repeat (first | refine blk_drewN ?_ _ | refine blk_drew ?_ | refine blk_alloc ?_ _)); exact BK642.out⟩
   have n6_ : Aside0 (Below w.heap.size w (((((((((w20.setCell ⟨gb642, 0, none⟩ (.string t630)).setCell ⟨gb642, 1, none⟩ (.string t631)).setCell ⟨gb642, 2, none⟩ (.string t632)).setCell ⟨gb642, 3, none⟩ (.int .u8 t633)).setCell ⟨gb642, 4, none⟩ (.int .i64 t634)).setCell ⟨gb642, 5, none⟩ (.int .i64 t635)).setCell ⟨gb642, 6, none⟩ (.int .i64 t636)).setCell ⟨gb642, 7, none⟩ (.int .i64 t637)).setCell ⟨gb642, 8, none⟩ (.slice Ao22 t638.length co22))) := ⟨wb1_ HB.out GE642.out⟩
   (try clear HO_0)
   (try clear HO_1)
   (try clear HO_7)
   (try clear HL629_8)
   (try clear HO640)
   (try clear BK642)
   (try clear HB)
   generalize (((((((((w20.setCell ⟨gb642, 0, none⟩ (.string t630)).setCell ⟨gb642, 1, none⟩ (.string t631)).setCell ⟨gb642, 2, none⟩ (.string t632)).setCell ⟨gb642, 3, none⟩ (.int .u8 t633)).setCell ⟨gb642, 4, none⟩ (.int .i64 t634)).setCell ⟨gb642, 5, none⟩ (.int .i64 t635)).setCell ⟨gb642, 6, none⟩ (.int .i64 t636)).setCell ⟨gb642, 7, none⟩ (.int .i64 t637)).setCell ⟨gb642, 8, none⟩ (.slice Ao22 t638.length co22)) = w23 at n0_ n1_ n2_ n3_ n4_ n5_ n6_ ⊢
   have HO_0 := n0_
   have HO_1 := n1_
   have HO_7 := n2_
   have HL629_8 := n3_
   have HO640 := n4_
   have BK642 := n5_
   have HB := n6_
   clear n0_ n1_ n2_ n3_ n4_ n5_ n6_
   have n0_ := A0_ (V1_ HO_0.out)
   have n1_ := A0_ (V1_ HO_1.out)
   have n2_ := A0_ (R1_ HO_7.out)
   have n3_ := A0_ (V1_ HL629_8.out)
   have n4_ := A0_ (V1_ HO640.out)
   have n5_ := A0_ (blk_drew BK642.out)
   have n6_ := A0_ (b1_ HB.out)
   clear HO_0
   clear HO_1
   clear HO_7
   clear HL629_8
   clear HO640
   clear BK642
   clear HB
   have HO_0 := n0_
   have HO_1 := n1_
   have HO_7 := n2_
   have HL629_8 := n3_
   have HO640 := n4_
   have BK642 := n5_
   have HB := n6_
   clear n0_ n1_ n2_ n3_ n4_ n5_ n6_
   have p643 : 0 ≤ (x8_1 : Int) := wd_
   have q643 : x8_1 < (l0.length : Int) := wd_
   obtain ⟨ad643, A643_8, c643_8, e643, hx643_0, hx643_1, hx643_2, hx643_3, hx643_4, hx643_5, hx643_6, hx643_7, hx643_8, hl643_8, hi643_8⟩ := at_T38 (Kd.V_reads' HO_0.out).2.2 x8_1 p643 q643
   obtain rfl : ad629 = ad643 := (by injection e643)
   obtain ⟨ce643, hce643, hMe643, hcc643⟩ := Kd.V_get HO_0.out z38 x8_1 p643 (by first | exact q643 | exact wd_ | (have e_ := (Kd.V_reads' HO_0.out).1; omega))
   obtain ⟨ua643_8, uc643_8, rfl, ul643_8, ge643_8⟩ := k38_openF hMe643
   have hv643_8 := hcc643 8 _ rfl
   rw [add_field _ _ 8 (by omega)] at hv643_8
   replace hv643_8 := Option.some.inj (hv643_8.symm.trans hx643_8)
   injection hv643_8 with hva_ hvn_ hvc_
   rw [hva_] at ge643_8
   rw [hvc_] at ul643_8
   have HL643_8 := A0_ (show Kd.V (Kd.int .u8) 5 _ w.heap.size _ _ ((rd_T38 l0 x8_1).f5) from Kd.V_mk ul643_8 ge643_8)
   clear hva_ hvn_ hvc_ ge643_8 ul643_8
   clear hcc643 hce643
   have HR643_8 := A0_ hi643_8
   have HC643_8 := A0_ hl643_8
   clear hi643_8 hl643_8
   replace p643 := eq_true p643
   replace q643 := eq_true q643
   refine start_ (n := 14) (S := fun w' => w'.cell? ⟨gb642, 0, none⟩ = some (.string t630) ∧ w'.cell? ⟨gb642, 1, none⟩ = some (.string t631) ∧ w'.cell? ⟨gb642, 2, none⟩ = some (.string t632) ∧ w'.cell? ⟨gb642, 3, none⟩ = some (.int .u8 t633) ∧ w'.cell? ⟨gb642, 4, none⟩ = some (.int .i64 t634) ∧ w'.cell? ⟨gb642, 5, none⟩ = some (.int .i64 t635) ∧ w'.cell? ⟨gb642, 6, none⟩ = some (.int .i64 t636) ∧ w'.cell? ⟨gb642, 7, none⟩ = some (.int .i64 t637) ∧ w'.cell? ⟨gb642, 8, none⟩ = some (.slice Ao22 t638.length co22) ∧ w'.cell? (ad629.add ((x8_1).toNat * 9)) = some (.string ((rd_T38 l0 x8_1).f0)) ∧ w'.cell? ⟨(ad629.add ((x8_1).toNat * 9)).block, (ad629.add ((x8_1).toNat * 9)).off + 1, none⟩ = some (.string ((rd_T38 l0 x8_1).f1)) ∧ w'.cell? ⟨(ad629.add ((x8_1).toNat * 9)).block, (ad629.add ((x8_1).toNat * 9)).off + 2, none⟩ = some (.string ((rd_T38 l0 x8_1).f2)) ∧ w'.cell? ⟨(ad629.add ((x8_1).toNat * 9)).block, (ad629.add ((x8_1).toNat * 9)).off + 3, none⟩ = some (.int .u8 ((rd_T38 l0 x8_1).f3)) ∧ w'.cell? ⟨(ad629.add ((x8_1).toNat * 9)).block, (ad629.add ((x8_1).toNat * 9)).off + 4, none⟩ = some (.int .i64 ((rd_T38 l0 x8_1).f4.f0)) ∧ w'.cell? ⟨(ad629.add ((x8_1).toNat * 9)).block, (ad629.add ((x8_1).toNat * 9)).off + 5, none⟩ = some (.int .i64 ((rd_T38 l0 x8_1).f4.f1)) ∧ w'.cell? ⟨(ad629.add ((x8_1).toNat * 9)).block, (ad629.add ((x8_1).toNat * 9)).off + 6, none⟩ = some (.int .i64 ((rd_T38 l0 x8_1).f4.f2)) ∧ w'.cell? ⟨(ad629.add ((x8_1).toNat * 9)).block, (ad629.add ((x8_1).toNat * 9)).off + 7, none⟩ = some (.int .i64 ((rd_T38 l0 x8_1).f4.f3)) ∧ w'.cell? ⟨(ad629.add ((x8_1).toNat * 9)).block, (ad629.add ((x8_1).toNat * 9)).off + 8, none⟩ = some (.slice A643_8 ((rd_T38 l0 x8_1).f5).length c643_8)) (ds := []) q33_0 (by kernel_rfl) rfl rfl ⟨(bc_ BK642.out 0).trans rfl, (bc_ BK642.out 1).trans rfl, (bc_ BK642.out 2).trans rfl, (bc_ BK642.out 3).trans rfl, (bc_ BK642.out 4).trans rfl, (bc_ BK642.out 5).trans rfl, (bc_ BK642.out 6).trans rfl, (bc_ BK642.out 7).trans rfl, (bc_ BK642.out 8).trans rfl, hx643_0, hx643_1, hx643_2, hx643_3, hx643_4, hx643_5, hx643_6, hx643_7, hx643_8⟩ (fun hHeld => ?_); refine with_tabW bindleref18_Subtract.tab6 bindleref18_Subtract.bits6 (fun HT_ HW_ => ?_)
   generalize w23.drew = w24 at HO_0 HO_1 HO_7 HL629_8 HO640 BK642 HB HL643_8 HR643_8 hx643_0 hx643_1 hx643_2 hx643_3 hx643_4 hx643_5 hx643_6 hx643_7 hx643_8 hHeld ⊢
   refine pur_ (i := 0) (N := some 27) q33_1 (any_of HT_.out (by kernel_rfl)) ?_
   refine pur_ (i := 1) (N := some 28) q33_2 (any_of HT_.out (by kernel_rfl)) ?_
   refine pur_ (i := 2) (N := some 29) q33_3 (any_of HT_.out (by kernel_rfl)) ?_
   refine pur_ (i := 3) (N := some 30) q33_4 (any_of HT_.out (by kernel_rfl)) ?_
   refine pur_ (i := 4) (N := some 31) q33_5 (any_of HT_.out (by kernel_rfl)) ?_
   refine pur_ (i := 6) (N := some 33) q33_15 (any_of HT_.out (by kernel_rfl)) ?_
   refine pur_ (i := 7) (N := some 34) q33_16 (any_of HT_.out (by kernel_rfl)) ?_
   refine pur_ (i := 8) (N := some 35) q33_17 (any_of HT_.out (by kernel_rfl)) ?_
   refine take_ (i := 5) (N := some 32) (v := ?_) (a' := ?_) q33_9 rfl rfl (take_ofW HT_.out HW_.out (by kernel_rfl)) (fun _ _ _ h => h) (Or.inl ⟨by rfl, ?_⟩) hHeld ?_ ?_
   rotate_left
   ·rintro w' ⟨s0, s1, s2, s3, s4, s5, s6, s7, s8, s9, s10, s11, s12, s13, s14, s15, s16, s17⟩
    go_simp
    with_reducible rfl
   rotate_left
   ·simp only [Act.put, List.setIfInBounds_toArray, List.set_cons_zero, List.set_cons_succ, i64_w, i32_w]
    rfl
   refine take_ (i := 9) (N := some 36) (v := ?_) (a' := ?_) q33_10 rfl rfl (take_ofW HT_.out HW_.out (by kernel_rfl)) (fun _ _ _ h => h) (Or.inl ⟨by rfl, ?_⟩) hHeld ?_ ?_
   rotate_left
   ·rintro w' ⟨s0, s1, s2, s3, s4, s5, s6, s7, s8, s9, s10, s11, s12, s13, s14, s15, s16, s17⟩
    go_simp
    with_reducible rfl
   rotate_left
   ·simp only [Act.put, List.setIfInBounds_toArray, List.set_cons_zero, List.set_cons_succ, i64_w, i32_w]
    rfl
   refine one_ (i := 10) (N := some 37) q33_11 rfl rfl (one_of HT_.out (by kernel_rfl)) (by decide) (fun K hK => ?_)
   refine goes_ Tryd.func20 (by kernel_rfl) rfl #[.agg #[.string t630, .string t631, .string t632, .int .u8 t633, .int .i64 t634, .int .i64 t635, .int .i64 t636, .int .i64 t637, .slice Ao22 t638.length co22], .agg #[.string ((rd_T38 l0 x8_1).f0), .string ((rd_T38 l0 x8_1).f1), .string ((rd_T38 l0 x8_1).f2), .int .u8 ((rd_T38 l0 x8_1).f3), .int .i64 ((rd_T38 l0 x8_1).f4.f0), .int .i64 ((rd_T38 l0 x8_1).f4.f1), .int .i64 ((rd_T38 l0 x8_1).f4.f2), .int .i64 ((rd_T38 l0 x8_1).f4.f3), .slice A643_8 ((rd_T38 l0 x8_1).f5).length c643_8]] (by rfl) rfl rfl wm_ ?_
   with_reducible refine (bindleref08_Equal.calls t630 t631 t632 t633 t634 t635 t636 t637 _ _ t638 ((rd_T38 l0 x8_1).f0) ((rd_T38 l0 x8_1).f1) ((rd_T38 l0 x8_1).f2) ((rd_T38 l0 x8_1).f3) ((rd_T38 l0 x8_1).f4.f0) ((rd_T38 l0 x8_1).f4.f1) ((rd_T38 l0 x8_1).f4.f2) ((rd_T38 l0 x8_1).f4.f3) _ _ ((rd_T38 l0 x8_1).f5) false _ ?side1 ?side2 ?side3 ?side4 A9.out).mono ?_
   (case side1 => exact wc_ (Kd.V_reads' HO640.out).2.2)
   (case side2 => exact (Kd.V_reads' HO640.out).2.1)
   (case side3 => repeat (first | exact (by repeat (first | (with_reducible exact HR643_8.out) | (with_reducible refine Ca_ ?_ _) | (with_reducible refine CN_ ?_ _) | (with_reducible refine C1_ ?_) | exact HR643_8.out)) | (with_reducible refine Ca_ ?_ _) | (with_reducible refine CN_ ?_ _) | (with_reducible refine C1_ ?_)))
   (case side4 => exact HC643_8.out)
   rintro e w25 ⟨rfl, hb⟩
   have HS9_ := (hb.cell (World.block_lt_of_cell? _ _ (hHeld.2.2.2.2.2.2.2.2.2.1))).trans (hHeld.2.2.2.2.2.2.2.2.2.1)
   have HS10_ := (hb.cell (World.block_lt_of_cell? _ _ (hHeld.2.2.2.2.2.2.2.2.2.2.1))).trans (hHeld.2.2.2.2.2.2.2.2.2.2.1)
   have HS11_ := (hb.cell (World.block_lt_of_cell? _ _ (hHeld.2.2.2.2.2.2.2.2.2.2.2.1))).trans (hHeld.2.2.2.2.2.2.2.2.2.2.2.1)
   have HS12_ := (hb.cell (World.block_lt_of_cell? _ _ (hHeld.2.2.2.2.2.2.2.2.2.2.2.2.1))).trans (hHeld.2.2.2.2.2.2.2.2.2.2.2.2.1)
   have HS13_ := (hb.cell (World.block_lt_of_cell? _ _ (hHeld.2.2.2.2.2.2.2.2.2.2.2.2.2.1))).trans (hHeld.2.2.2.2.2.2.2.2.2.2.2.2.2.1)
   have HS14_ := (hb.cell (World.block_lt_of_cell? _ _ (hHeld.2.2.2.2.2.2.2.2.2.2.2.2.2.2.1))).trans (hHeld.2.2.2.2.2.2.2.2.2.2.2.2.2.2.1)
   have HS15_ := (hb.cell (World.block_lt_of_cell? _ _ (hHeld.2.2.2.2.2.2.2.2.2.2.2.2.2.2.2.1))).trans (hHeld.2.2.2.2.2.2.2.2.2.2.2.2.2.2.2.1)
   have HS16_ := (hb.cell (World.block_lt_of_cell? _ _ (hHeld.2.2.2.2.2.2.2.2.2.2.2.2.2.2.2.2.1))).trans (hHeld.2.2.2.2.2.2.2.2.2.2.2.2.2.2.2.2.1)
   have HS17_ := (hb.cell (World.block_lt_of_cell? _ _ (hHeld.2.2.2.2.2.2.2.2.2.2.2.2.2.2.2.2.2))).trans (hHeld.2.2.2.2.2.2.2.2.2.2.2.2.2.2.2.2.2)
   refine ⟨_, rfl, ?_⟩
   have n0_ := A0_ (Vb_ (wV_ HO_0.out) hb)
   have n1_ := A0_ (Vb_ (wV_ HO_1.out) hb)
   have n2_ := A0_ (Rb_ (wR_ HO_7.out) hb)
   have n3_ := A0_ (Vb_ (wV_ HL629_8.out) hb)
   have n4_ := A0_ (Vb_ (wV_ HO640.out) hb)
   have n5_ := A0_ (Vb_ (wV_ HL643_8.out) hb)
   have n6_ := A0_ (blk_below (g := gb642) (o := .cells #[.string t630, .string t631, .string t632, .int .u8 t633, .int .i64 t634, .int .i64 t635, .int .i64 t636, .int .i64 t637, .slice Ao22 t638.length co22] 38 (0, 0)) (wB_ BK642.out) hb)
   have n7_ := A0_ (Kd.C_below (by repeat (first | (with_reducible exact HR643_8.out) | (with_reducible refine Ca_ ?_ _) | (with_reducible refine CN_ ?_ _) | (with_reducible refine C1_ ?_) | exact HR643_8.out)) hb)
   have n8_ := A0_ (below_step (wb1_ HB.out GE642.out) hb)
   clear HO_0
   clear HO_1
   clear HO_7
   clear HL629_8
   clear HO640
   clear HL643_8
   clear BK642
   clear HR643_8
   clear HB
   have HO_0 := n0_
   have HO_1 := n1_
   have HO_7 := n2_
   have HL629_8 := n3_
   have HO640 := n4_
   have HL643_8 := n5_
   have BK642 := n6_
   have HR643_8 := n7_
   have HB := n8_
   clear n0_ n1_ n2_ n3_ n4_ n5_ n6_ n7_ n8_
   (try clear hb)
   (try clear hb2)
   (try clear hk)
   (try clear hi)
   refine hK.out _ _ ⟨(bc_ BK642.out 0).trans rfl, (bc_ BK642.out 1).trans rfl, (bc_ BK642.out 2).trans rfl, (bc_ BK642.out 3).trans rfl, (bc_ BK642.out 4).trans rfl, (bc_ BK642.out 5).trans rfl, (bc_ BK642.out 6).trans rfl, (bc_ BK642.out 7).trans rfl, (bc_ BK642.out 8).trans rfl, HS9_, HS10_, HS11_, HS12_, HS13_, HS14_, HS15_, HS16_, HS17_⟩ (fun hHeld => ?_)
   clear hK K
   refine norm_ (a' := ?_) ?_ ?_
   rotate_left
   ·show Act.put _ (some 37) _ = _
    simp only [Act.put, List.setIfInBounds_toArray, List.set_cons_zero, List.set_cons_succ, i64_w, i32_w]
    rfl
   refine pur_ (i := 11) (N := some 38) q33_12 (any_of HT_.out (by kernel_rfl)) ?_
   refine pur_ (i := 12) (N := some 39) q33_13 (any_of HT_.out (by kernel_rfl)) ?_
   refine pur_ (i := 13) (N := some 40) q33_14 (any_of HT_.out (by kernel_rfl)) ?_
   refine done_ (done_of HT_.out (by kernel_rfl)) ?_
   have p645 : 0 ≤ (x8_1 : Int) := wd_
   have q645 : x8_1 < (l0.length : Int) := wd_
   obtain ⟨ad645, A645_8, c645_8, e645, hx645_0, hx645_1, hx645_2, hx645_3, hx645_4, hx645_5, hx645_6, hx645_7, hx645_8, hl645_8, hi645_8⟩ := at_T38 (Kd.V_reads' HO_0.out).2.2 x8_1 p645 q645
   obtain rfl : ad629 = ad645 := (by injection e645)
   obtain ⟨ce645, hce645, hMe645, hcc645⟩ := Kd.V_get HO_0.out z38 x8_1 p645 (by first | exact q645 | exact wd_ | (have e_ := (Kd.V_reads' HO_0.out).1; omega))
   obtain ⟨ua645_8, uc645_8, rfl, ul645_8, ge645_8⟩ := k38_openF hMe645
   have hv645_8 := hcc645 8 _ rfl
   rw [add_field _ _ 8 (by omega)] at hv645_8
   replace hv645_8 := Option.some.inj (hv645_8.symm.trans hx645_8)
   injection hv645_8 with hva_ hvn_ hvc_
   rw [hva_] at ge645_8
   rw [hvc_] at ul645_8
   have HL645_8 := A0_ (show Kd.V (Kd.int .u8) 5 _ w.heap.size _ _ ((rd_T38 l0 x8_1).f5) from Kd.V_mk ul645_8 ge645_8)
   clear hva_ hvn_ hvc_ ge645_8 ul645_8
   clear hcc645 hce645
   have HR645_8 := A0_ hi645_8
   have HC645_8 := A0_ hl645_8
   clear hi645_8 hl645_8
   replace p645 := eq_true p645
   replace q645 := eq_true q645
   try go_wp2_with (first | ((with_reducible refine gate_builtin (b := .append) (xs := #[.tmp 41, .tmp 47]) rfl ?_); at_builtin; refine Kd.R_append Kd.string (w0 := w) w.heap.size rfl (.tmp 41) (.tmp 47) 67 9 (.string ⟨#[]⟩) 16 rfl Tryd.underlying67 info9 rfl (by decide) (by omega) u7 x7_1 ((rd_T38 l0 x8_1).f0) [.string ((rd_T38 l0 x8_1).f0)] (fun k_ => (w.heap.size ≤ k_)) (fun _ => False) rfl rfl ?aP (fun _ hk => hk.elim) ?aF ?aO ?aB ?aS ?aL ?_; (case aP => exact rfl); (case aB => exact (wb1_ HB.out GE642.out)); (case aF => exact (fun k_ hk => (Nat.le_trans (below_size (wb1_ HB.out GE642.out)) hk))); (case aO => exact (wR_ HO_7.out)); (case aS => exact (below_size (wb1_ HB.out GE642.out))); (case aL => have := LMc18.out; omega); intro v647 w26 ho hb hg hat; rw [← Ny646.out] at ho; have n0_ := A0_ (Kd.V_afterv (ok := (fun k_ => ((P0_ k_ ∨ P1_ k_) ∨ w.heap.size ≤ k_) ∧ k_ ≠ gb642)) (by (with_reducible repeat (first | apply Va_ | apply VN_ | apply V1_)); exact Kd.V_mono HO_0.out (fun _ hk => ⟨⟨hk.1, hk.2.2⟩, hk.2.1⟩)) hg hat); have n1_ := A0_ (Kd.V_afterv (ok := (fun k_ => ((P0_ k_ ∨ P1_ k_) ∨ w.heap.size ≤ k_) ∧ k_ ≠ gb642)) (by (with_reducible repeat (first | apply Va_ | apply VN_ | apply V1_)); exact Kd.V_mono HO_1.out (fun _ hk => ⟨⟨hk.1, hk.2.2⟩, hk.2.1⟩)) hg hat); have n2_ := A0_ (Kd.V_afterv (ok := (fun k_ => ((P0_ k_ ∨ P1_ k_) ∨ w.heap.size ≤ k_) ∧ k_ ≠ gb642)) (by (with_reducible repeat (first | apply Va_ | apply VN_ | apply V1_)); exact Kd.V_mono HL629_8.out (fun _ hk => ⟨⟨hk.1, hk.2.2⟩, hk.2.1⟩)) hg hat); have n3_ := A0_ (Kd.V_afterv (ok := (fun k_ => ((P0_ k_ ∨ P1_ k_) ∨ w.heap.size ≤ k_) ∧ k_ ≠ gb642)) (by (with_reducible repeat (first | apply Va_ | apply VN_ | apply V1_)); exact Kd.V_mono HO640.out (fun _ hk => ⟨⟨hk.1, hk.2.2⟩, hk.2.1⟩)) hg hat); have n4_ := A0_ (blk_grown (g := gb642) (o := .cells #[.string t630, .string t631, .string t632, .int .u8 t633, .int .i64 t634, .int .i64 t635, .int .i64 t636, .int .i64 t637, .slice Ao22 t638.length co22] 38 (0, 0)) (wB_ BK642.out) hg (Kd.R_ne HO_7.out BK642.out (by decide))); have n5_ := A0_ (Kd.V_afterv (ok := (fun k_ => ((P0_ k_ ∨ P1_ k_) ∨ w.heap.size ≤ k_) ∧ k_ ≠ gb642)) (by (with_reducible repeat (first | apply Va_ | apply VN_ | apply V1_)); exact Kd.V_mono HL643_8.out (fun _ hk => ⟨⟨hk.1, hk.2.2⟩, hk.2.1⟩)) hg hat); have n6_ := A0_ (Kd.V_afterv (ok := (fun k_ => ((P0_ k_ ∨ P1_ k_) ∨ w.heap.size ≤ k_) ∧ k_ ≠ gb642)) (by (with_reducible repeat (first | apply Va_ | apply VN_ | apply V1_)); exact Kd.V_mono HL645_8.out (fun _ hk => ⟨⟨hk.1, hk.2.2⟩, hk.2.1⟩)) hg hat); have n7_ := A0_ (hb); have n8_ := A0_ (ho); clear HO_0; clear HO_1; clear HL629_8; clear HO640; clear BK642; clear HL643_8; clear HL645_8; clear HB; clear HO_7; have HO_0 := n0_; have HO_1 := n1_; have HL629_8 := n2_; have HO640 := n3_; have BK642 := n4_; have HL643_8 := n5_; have HL645_8 := n6_; have HB := n7_; have HO648 := n8_; clear n0_ n1_ n2_ n3_ n4_ n5_ n6_ n7_ n8_; clear ho hb hg hat))
   go_roundg k1
   case measure => have := HK1.out; omega
   case rel => exact ⟨(y646), (wrap64 (x8_1 + 1)), wr_, H', ⟨by have := HK1.out; omega⟩, ⟨by (with_reducible repeat (first | apply Va_ | apply VN_ | apply V1_)); exact Kd.V_mono HO_0.out (fun _ hk => ⟨hk.1.1, hk.2⟩)⟩, ⟨by (with_reducible repeat (first | apply Va_ | apply VN_ | apply V1_)); exact Kd.V_mono HO_1.out (fun _ hk => ⟨hk.1.1, hk.2⟩)⟩, ⟨wR_ HO648.out⟩, ⟨wb1_ HB.out GE642.out⟩⟩
end Go.Proofs.YtfmphccoeinhcaaDoor.Print

namespace Go.Proofs.YtfmphccoeinhcaaDoor
open Go.RowKit Go.Proofs.YtfmphccoeinhcaaDoor.Print Go.Proofs.YtfmphccoeinhcaaDoorW.PrintWords
set_option linter.unusedVariables false
theorem rdC_n (l : List Cls) (i : Nat) (h : i < l.length) : rd_T60 l (i : Int) = l[i] := by
 unfold rd_T60
 rw [List.getD_eq_getElem?_getD, Int.toNat_natCast, List.getElem?_eq_getElem h]
 rfl
theorem rdS_n (l : List ByteArray) (i : Nat) (h : i < l.length) : rdOf ByteArray.empty l (i : Int) = l[i] := by
 unfold rdOf
 rw [List.getD_eq_getElem?_getD, Int.toNat_natCast, List.getElem?_eq_getElem h]
 rfl
theorem w_sum {a b : Int} (h0 : 0 ≤ a) (h1 : 0 ≤ b) (h2 : a + b ≤ 4000000000000000000) : wrap64 (a + b) = a + b := by unfold wrap64; omega
theorem classI_hit {t : List Node} {l : ByteArray} {i : Nat} (hi : i < t.length) (h : t[i].f0.toList = l.toList) (hno : ∀ (j : Nat) (hj : j < t.length), j < i → t[j].f0.toList ≠ l.toList) : classI t l = i := by
 have h1 : t.findIdx (fun x => decide (x.f0.toList = l.toList)) = i := (List.findIdx_eq hi).2 ⟨decide_eq_true h, fun j hj => decide_eq_false (hno j (by omega) hj)⟩
 unfold classI
 rw [h1, if_pos hi]
theorem classI_miss {t : List Node} {l : ByteArray} (hno : ∀ (j : Nat) (hj : j < t.length), t[j].f0.toList ≠ l.toList) : classI t l = 0 := by
 have h1 : t.findIdx (fun x => decide (x.f0.toList = l.toList)) = t.length := List.findIdx_eq_length.2 (fun x hx => by
  obtain ⟨j, hj, rfl⟩ := List.getElem_of_mem hx
  exact decide_eq_false (hno j hj))
 unfold classI
 rw [h1, if_neg (Nat.lt_irrefl _)]
theorem rclass_l (t : List Node) (l : ByteArray) (base : Int) (h0 : 0 ≤ base) (h1 : base ≤ 1000000000) (hl : t.length ≤ 10000) : ∀ (d i : Nat), i + d = t.length → (∀ (j : Nat) (hj : j < t.length), j < i → t[j].f0.toList ≠ l.toList) →
  Ev (fun k => bindleref18_class.l0 k t l base (i : Int)) (base + (classI t l : Int)) := by
 intro d
 induction d with
 | zero =>
  intro i hi hno
  rw [classI_miss (fun j hj => hno j hj (by omega))]
  refine Ev.step (f := fun _ => some base) (fun k => ?_) ?_
  ·rw [bindleref18_class.l0, if_neg (by omega)]
  ·rw [Int.natCast_zero, Int.add_zero]; exact Ev.now _
 | succ d ih =>
  intro i hi hno
  have hil : i < t.length := by omega
  by_cases he : t[i].f0.toList = l.toList
  ·rw [classI_hit hil he hno]
   refine Ev.step (f := fun _ => some (base + (i : Int))) (fun k => ?_) (Ev.now _)
   rw [bindleref18_class.l0, if_pos (by omega), if_pos (by omega), rdN_n t i hil, if_pos he, w_sum h0 (by omega) (by omega)]
  ·refine Ev.step (fun k => ?_) (ih (i + 1) (by omega) (fun j hj hji => ?_))
   ·rw [bindleref18_class.l0, if_pos (by omega), if_pos (by omega), rdN_n t i hil, if_neg he, w_one i (by omega)]
   ·rcases Nat.lt_or_ge j i with h | h
    ·exact hno j hj h
    ·obtain rfl : j = i := by omega
     exact he
theorem rclass_eq (t : List Node) (l : ByteArray) (base : Int) (h0 : 0 ≤ base) (h1 : base ≤ 1000000000) (hl : t.length ≤ 10000) : Ev (fun k => bindleref18_class.f k t l base) (base + (classI t l : Int)) :=
 rclass_l t l base h0 h1 hl t.length 0 (by omega) (fun _ _ h => absurd h (Nat.not_lt_zero _))
theorem classesR_at (t : List Node) (base : Int) (i : Nat) (hi : i < t.length) : (classesR t base).take (i + 1) = (classesR t base).take i ++ [⟨t[i], base + (classI t t[i].f2 : Int)⟩] := by
 have hl : i < (classesR t base).length := by unfold classesR; rw [List.length_map]; exact hi
 rw [List.take_succ_eq_append_getElem hl]
 congr 2
 exact List.getElem_map _
theorem classesR_len (t : List Node) (base : Int) : (classesR t base).length = t.length := by unfold classesR; rw [List.length_map]
theorem rclasses_l (t : List Node) (base : Int) (h0 : 0 ≤ base) (h1 : base ≤ 1000000000) (hl : t.length ≤ 10000) : ∀ (d i : Nat), i + d = t.length → Ev (fun k => bindleref18_classes.l0 k t base ((classesR t base).take i) (i : Int)) (classesR t base) := by
 intro d
 induction d with
 | zero =>
  intro i hi
  refine Ev.step (f := fun _ => some (classesR t base)) (fun k => ?_) (Ev.now _)
  rw [bindleref18_classes.l0, if_neg (by omega), List.take_of_length_le (by rw [classesR_len]; omega)]
 | succ d ih =>
  intro i hi
  have hil : i < t.length := by omega
  have hlen : ((classesR t base).take i).length ≤ 10000 := by rw [List.length_take, classesR_len]; omega
  have h := ih (i + 1) (by omega)
  rw [classesR_at t base i hil] at h
  refine Ev.step (f := fun k => (bindleref18_class.f k t t[i].f2 base).bind fun c => _) (fun k => by rw [bindleref18_classes.l0, if_pos (by omega), if_pos (by omega), rdN_n t i hil]) ?_
  refine Ev.bind (rclass_eq t t[i].f2 base h0 h1 hl) ?_
  refine Ev.congr (fun k => ?_) h
  rw [if_pos (by omega), w_one i (by omega)]
theorem rclasses_eq (t : List Node) (base : Int) (h0 : 0 ≤ base) (h1 : base ≤ 1000000000) (hl : t.length ≤ 10000) : Ev (fun k => bindleref18_classes.f k t base) (classesR t base) := rclasses_l t base h0 h1 hl t.length 0 (by omega)
theorem rkeep_in (cs : List Cls) (ps : List ByteArray) (acc : List Cls) (i : Nat) (hi : i < cs.length) (ha : acc.length ≤ 10000) (hp : ps.length ≤ 100000) {v : List Node}
  (H : Ev (fun k => bindleref18_Keep.l0 k ps (if inL ps cs[i].f0.f0 = true then acc ++ [cs[i]] else acc) cs (wrap64 ((i : Int) + 1))) v) :
  ∀ (d j : Nat), j + d = ps.length → (∀ (q : Nat) (hq : q < ps.length), q < j → ps[q].toList ≠ cs[i].f0.f0.toList) → Ev (fun k => bindleref18_Keep.l1 k ps acc cs (i : Int) (j : Int)) v := by
 intro d
 induction d with
 | zero =>
  intro j hj hno
  have hin : ¬ inL ps cs[i].f0.f0 = true := fun h => by
   obtain ⟨q, hq, he⟩ := List.getElem_of_mem (inL_iff.1 h)
   exact hno q hq (by omega) (by rw [he])
  rw [if_neg hin] at H
  refine Ev.step (fun k => ?_) H
  rw [bindleref18_Keep.l1, if_neg (by omega)]
 | succ d ih =>
  intro j hj hno
  have hjl : j < ps.length := by omega
  by_cases he : ps[j].toList = cs[i].f0.f0.toList
  ·have hin : inL ps cs[i].f0.f0 = true := inL_iff.2 (by rw [← ba_ext he]; exact List.getElem_mem hjl)
   rw [if_pos hin] at H
   refine Ev.step (fun k => ?_) H
   rw [bindleref18_Keep.l1, if_pos (by omega), if_pos (by omega), if_pos (by omega), if_pos (by omega), rdS_n ps j hjl, rdC_n cs i hi, if_pos he, if_pos (by omega)]
  ·refine Ev.step (fun k => ?_) (ih (j + 1) (by omega) (fun q hq hqj => ?_))
   ·rw [bindleref18_Keep.l1, if_pos (by omega), if_pos (by omega), if_pos (by omega), if_pos (by omega), rdS_n ps j hjl, rdC_n cs i hi, if_neg he, w_one j (by omega)]
   ·rcases Nat.lt_or_ge q j with h | h
    ·exact hno q hq h
    ·obtain rfl : q = j := by omega
     exact he
theorem rkeep_out (cs : List Cls) (ps : List ByteArray) (hc : cs.length ≤ 10000) (hp : ps.length ≤ 100000) (hz : ∀ x ∈ cs, x.f0.f5.length ≤ 140737488351232) : ∀ (d i : Nat), i + d = cs.length → Ev (fun k => bindleref18_Keep.l0 k ps ((cs.take i).filter (fun c => inL ps c.f0.f0)) cs (i : Int)) (sortedF (cs.filter (fun c => inL ps c.f0.f0))) := by
 intro d
 induction d with
 | zero =>
  intro i hi
  have hcz : clsZ (cs.filter (fun c => inL ps c.f0.f0)) = true := (clsZ_iff _).2 ⟨by have := List.length_filter_le (fun c : Cls => inL ps c.f0.f0) cs; omega, fun x hx => hz x (List.mem_filter.1 hx).1⟩
  refine Ev.step (f := fun _ => some (sortedF (cs.filter (fun c => inL ps c.f0.f0)))) (fun k => ?_) (Ev.now _)
  rw [bindleref18_Keep.l0, if_neg (by omega), List.take_of_length_le (by omega)]
  unfold bindleref08_Sorted.f
  rw [if_pos hcz]
  rfl
 | succ d ih =>
  intro i hi
  have hil : i < cs.length := by omega
  have h := ih (i + 1) (by omega)
  rw [List.take_succ_eq_append_getElem hil, List.filter_append] at h
  have hlen := Nat.le_trans (List.length_filter_le (fun c : Cls => inL ps c.f0.f0) (cs.take i)) (by rw [List.length_take]; exact Nat.min_le_left _ _)
  refine Ev.step (f := fun k => bindleref18_Keep.l1 k ps ((cs.take i).filter (fun c => inL ps c.f0.f0)) cs (i : Int) ((0 : Nat) : Int)) (fun k => by rw [bindleref18_Keep.l0, if_pos (by omega)]; rfl) (rkeep_in cs ps _ i hil (Nat.le_trans hlen (by omega)) hp ?_ ps.length 0 (by omega) (fun _ _ h => absurd h (Nat.not_lt_zero _)))
  rw [w_one i (by omega)]
  by_cases hin : inL ps cs[i].f0.f0 = true
  ·rw [List.filter_cons_of_pos (p := fun c : Cls => inL ps c.f0.f0) hin, List.filter_nil] at h
   rw [if_pos hin]
   exact h
  ·rw [List.filter_cons_of_neg (p := fun c : Cls => inL ps c.f0.f0) hin, List.filter_nil, List.append_nil] at h
   rw [if_neg hin]
   exact h
theorem rkeep_eq {t : List Node} (hg : goodTree t = true) (hz : TreeZ t) (ps : List ByteArray) (hp : ps.length ≤ 100000) : Ev (fun k => bindleref18_Keep.f k t ps) (keepF t ps).1 := by
 rw [← keep_sorted hg ps]
 unfold bindleref18_Keep.f
 refine Ev.bind (rclasses_eq t 0 (by omega) (by omega) hz.1) ?_
 have h := rkeep_out (classesR t 0) ps (by rw [classesR_len]; exact hz.1) hp (fun c hc => by
  unfold classesR at hc
  obtain ⟨x, hx, rfl⟩ := List.mem_map.1 hc
  have := (hz.2.1.2 x hx).2.2.2
  dsimp only
  omega) (classesR t 0).length 0 (by omega)
 exact h
theorem rsub_l {a b : List Node} (ga : goodTree a = true) (gb : goodTree b = true) (za : TreeZ a) (zb : TreeZ b) (w : Bool) : ∀ (d i : Nat), i + d = a.length → Ev (fun k => bindleref18_Subtract.l0 k a b w (((a.take i).filter (leftB b w)).map (fun x => x.f0)) (i : Int)) (subF a b w).1 := by
 have hs : subF a b w = keepF a (subPaths a b w) := by unfold subF; rw [if_pos ⟨ga, gb⟩]
 intro d
 induction d with
 | zero =>
  intro i hi
  have hl : (subPaths a b w).length ≤ 10000 := by unfold subPaths; rw [List.length_map]; exact Nat.le_trans (List.length_filter_le _ _) za.1
  rw [hs]
  refine Ev.step (f := fun k => bindleref18_Keep.f k a (subPaths a b w)) (fun k => ?_) (rkeep_eq ga za _ (by omega))
  rw [bindleref18_Subtract.l0, if_neg (by omega), List.take_of_length_le (by omega)]
  show (bindleref18_Keep.f k a (subPaths a b w)).bind (fun t => some t) = _
  cases bindleref18_Keep.f k a (subPaths a b w) <;> rfl
 | succ d ih =>
  intro i hi
  have hza := za.1
  have hil : i < a.length := by omega
  have h := ih (i + 1) (by omega)
  rw [List.take_succ_eq_append_getElem hil, List.filter_append, List.map_append] at h
  have hlen : (((a.take i).filter (leftB b w)).map (fun x => x.f0)).length ≤ 10000 := by rw [List.length_map]; exact Nat.le_trans (List.length_filter_le _ _) (by rw [List.length_take]; have := za.1; omega)
  refine Ev.step (f := fun k => (bindleref08_Find.f k b a[i].f0).bind fun bt => _) (fun k => by rw [bindleref18_Subtract.l0, if_pos (by omega), if_pos (by omega), rdN_n a i hil]) ?_
  refine Ev.bind (rfind_eq b a[i].f0 (by have := zb.1; omega)) ?_
  have hyes : leftB b w a[i] = true → Ev (fun k => bindleref18_Subtract.l0 k a b w (((a.take i).filter (leftB b w)).map (fun x => x.f0) ++ [a[i].f0]) (wrap64 ((i : Int) + 1))) (subF a b w).1 := fun hL => by
   rw [List.filter_cons_of_pos hL] at h
   rw [w_one i (by omega)]
   exact h
  have hno : leftB b w a[i] = false → Ev (fun k => bindleref18_Subtract.l0 k a b w (((a.take i).filter (leftB b w)).map (fun x => x.f0)) (wrap64 ((i : Int) + 1))) (subF a b w).1 := fun hL => by
   rw [List.filter_cons_of_neg (by rw [hL]; decide), List.filter_nil, List.map_nil, List.append_nil] at h
   rw [w_one i (by omega)]
   exact h
  cases hf : findF b a[i].f0 with
  | none =>
   refine Ev.congr (fun k => ?_) (hyes (by unfold leftB; rw [hf]))
   rw [if_neg (by simp [tupN]), if_pos (by omega)]
  | some y =>
   have hsym : equalB a[i] y = equalB y a[i] := by
    rw [Bool.eq_iff_iff]
    exact ⟨equalB_symm, equalB_symm⟩
   have hLv : leftB b w a[i] = (w && !equalB y a[i]) := by unfold leftB; rw [hf, ← hsym]
   cases w with
   | false =>
    refine Ev.congr (fun k => ?_) (hno (by rw [hLv]; rfl))
    rw [if_pos (by rfl), if_neg (by decide)]
   | true =>
    cases he : equalB y a[i] with
    | true =>
     refine Ev.congr (fun k => ?_) (hno (by rw [hLv, he]; rfl))
     rw [if_pos (by rfl), if_pos rfl]
     show (bindleref08_Equal.f y.f0 y.f1 y.f2 y.f3 y.f4.f0 y.f4.f1 y.f4.f2 y.f4.f3 y.f5 _ _ _ _ _ _ _ _ _).bind _ = _
     rw [requal_f, he, Option.bind_some, if_pos rfl]
    | false =>
     refine Ev.congr (fun k => ?_) (hyes (by rw [hLv, he]; rfl))
     rw [if_pos (by rfl), if_pos rfl]
     show (bindleref08_Equal.f y.f0 y.f1 y.f2 y.f3 y.f4.f0 y.f4.f1 y.f4.f2 y.f4.f3 y.f5 _ _ _ _ _ _ _ _ _).bind _ = _
     rw [requal_f, he, Option.bind_some, if_neg (by decide), if_pos (by omega)]
theorem rsub_eq {a b : List Node} (ga : goodTree a = true) (gb : goodTree b = true) (za : TreeZ a) (zb : TreeZ b) (w : Bool) : Ev (fun k => bindleref18_Subtract.f k a b w) (subF a b w).1 := rsub_l ga gb za zb w a.length 0 (by omega)
end Go.Proofs.YtfmphccoeinhcaaDoor

namespace Go.Proofs.YtfmphccoeinhcaaDoor.Print
open Go.RowKit Go.Proofs.YtfmphccoeinhcaaDoorW.PrintWords Go.Proofs.YtfmphccoeinhcaaDoorW.PrintLast Go.Proofs.YtfmphccoeinhcaaDoorW.PrintMore
attribute [local go_sem] max2_int min2_int max_two min_two max_three min_three max_four min_four   -- for this text's walks alone
set_option linter.unusedVariables false
set_option linter.unusedSimpArgs false
end Go.Proofs.YtfmphccoeinhcaaDoor.Print
