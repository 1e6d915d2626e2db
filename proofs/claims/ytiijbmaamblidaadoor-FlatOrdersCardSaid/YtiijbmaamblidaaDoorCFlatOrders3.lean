/-
  Part of the proof that FlatOrders answers true: texts put together (wip/bundle.py).
-/
import Derived.Test.YtiijbmaamblidaaDoorCFlatOrders2
import Derived.SizedLaws
import Derived.ChangeSlices
import Derived.OpenShut
namespace Go.Proofs.YtiijbmaamblidaaDoor.Print
open Go.RowKit Go.Proofs.YtiijbmaamblidaaDoorW.PrintWords Go.Proofs.YtiijbmaamblidaaDoorW.PrintLast Go.Proofs.YtiijbmaamblidaaDoorW.PrintMore
attribute [local go_sem] max2_int min2_int max_two min_two max_three min_three max_four min_four   -- for this text's walks alone
set_option linter.unusedVariables false
set_option linter.unusedSimpArgs false
def bindlelaw18_answers.f  : Option (Bool) := (some (([(⟨(⟨#[97]⟩ : ByteArray), (⟨#[]⟩ : ByteArray), 48, (⟨0, 0, 0, 0⟩ : S24), ([] : List Int)⟩ : S27), (⟨(⟨#[98]⟩ : ByteArray), (⟨#[]⟩ : ByteArray), 48, (⟨0, 0, 0, 0⟩ : S24), ([] : List Int)⟩ : S27), (⟨(⟨#[97]⟩ : ByteArray), (⟨#[]⟩ : ByteArray), 48, (⟨0, 0, 0, 0⟩ : S24), ([] : List Int)⟩ : S27)] : List (S27)) : List (S27))).bind fun y241 => ((flat_Flatten.f y241).bind fun bt244 => ((flat_Flatten.f (([(⟨(⟨#[]⟩ : ByteArray), (⟨#[]⟩ : ByteArray), 0, (⟨0, 0, 0, 0⟩ : S24), ([] : List Int)⟩ : S27)] : List (S27)))).bind fun bt253 => ((flat_Order.f y241).bind fun t259 => (if bt244.2.1 = 0 then (if (bt244.1.length : Int) = 2 then (if 0 < (bt244.1.length : Int) then (if ((rd_T27 bt244.1 0).f0).toList = ([98] : List UInt8) then (if 1 < (bt244.1.length : Int) then (if ((rd_T27 bt244.1 1).f0).toList = ([97] : List UInt8) then (if bt253.2.1 = 1 then (if (t259.length : Int) = 2 then (if 1 < (t259.length : Int) then (some ((rdOf ByteArray.empty t259 1).toList == ([97] : List UInt8))) else (none)) else (some false)) else (some false)) else (some false)) else (none)) else (some false)) else (none)) else (some false)) else (some false)))))
theorem bindlelaw18_answers.val : bindlelaw18_answers.f = some true := by kernel_rfl
set_option maxHeartbeats 8000000 in
set_option maxRecDepth 100000 in
theorem bindlelaw18_answers.calls  (r : Bool) (w : World) (hT : Aside0 (Tabs w)) (h : bindlelaw18_answers.f  = some r) :
  Calls Tryd.prog 15 #[] w fun e w' => e = .returned (.bool r) ∧ Below w.heap.size w w' := by
 have hr_ : r = true := Option.some.inj (h.symm.trans bindlelaw18_answers.val)
 have hu27 := Tryd.underlying27
 have hu34 := Tryd.underlying34
 have HB := A0_ (Below.refl w.heap.size w)
 have H : ((some (([(⟨(⟨#[97]⟩ : ByteArray), (⟨#[]⟩ : ByteArray), 48, (⟨0, 0, 0, 0⟩ : S24), ([] : List Int)⟩ : S27), (⟨(⟨#[98]⟩ : ByteArray), (⟨#[]⟩ : ByteArray), 48, (⟨0, 0, 0, 0⟩ : S24), ([] : List Int)⟩ : S27), (⟨(⟨#[97]⟩ : ByteArray), (⟨#[]⟩ : ByteArray), 48, (⟨0, 0, 0, 0⟩ : S24), ([] : List Int)⟩ : S27)] : List (S27)) : List (S27))).bind fun y241 => ((flat_Flatten.f y241).bind fun bt244 => ((flat_Flatten.f (([(⟨(⟨#[]⟩ : ByteArray), (⟨#[]⟩ : ByteArray), 0, (⟨0, 0, 0, 0⟩ : S24), ([] : List Int)⟩ : S27)] : List (S27)))).bind fun bt253 => ((flat_Order.f y241).bind fun t259 => (if bt244.2.1 = 0 then (if (bt244.1.length : Int) = 2 then (if 0 < (bt244.1.length : Int) then (if ((rd_T27 bt244.1 0).f0).toList = ([98] : List UInt8) then (if 1 < (bt244.1.length : Int) then (if ((rd_T27 bt244.1 1).f0).toList = ([97] : List UInt8) then (if bt253.2.1 = 1 then (if (t259.length : Int) = 2 then (if 1 < (t259.length : Int) then (some ((rdOf ByteArray.empty t259 1).toList == ([97] : List UInt8))) else (none)) else (some false)) else (some false)) else (some false)) else (none)) else (some false)) else (none)) else (some false)) else (some false)))))) = some r := h
 clear h
 obtain ⟨y241, hy241⟩ : ∃ y_ : List (S27), y_ = (([(⟨(⟨#[97]⟩ : ByteArray), (⟨#[]⟩ : ByteArray), 48, (⟨0, 0, 0, 0⟩ : S24), ([] : List Int)⟩ : S27), (⟨(⟨#[98]⟩ : ByteArray), (⟨#[]⟩ : ByteArray), 48, (⟨0, 0, 0, 0⟩ : S24), ([] : List Int)⟩ : S27), (⟨(⟨#[97]⟩ : ByteArray), (⟨#[]⟩ : ByteArray), 48, (⟨0, 0, 0, 0⟩ : S24), ([] : List Int)⟩ : S27)] : List (S27))) := ⟨_, rfl⟩
 replace H : ((flat_Flatten.f y241).bind fun bt244 => ((flat_Flatten.f (([(⟨(⟨#[]⟩ : ByteArray), (⟨#[]⟩ : ByteArray), 0, (⟨0, 0, 0, 0⟩ : S24), ([] : List Int)⟩ : S27)] : List (S27)))).bind fun bt253 => ((flat_Order.f y241).bind fun t259 => (if bt244.2.1 = 0 then (if (bt244.1.length : Int) = 2 then (if 0 < (bt244.1.length : Int) then (if ((rd_T27 bt244.1 0).f0).toList = ([98] : List UInt8) then (if 1 < (bt244.1.length : Int) then (if ((rd_T27 bt244.1 1).f0).toList = ([97] : List UInt8) then (if bt253.2.1 = 1 then (if (t259.length : Int) = 2 then (if 1 < (t259.length : Int) then (some ((rdOf ByteArray.empty t259 1).toList == ([97] : List UInt8))) else (none)) else (some false)) else (some false)) else (some false)) else (none)) else (some false)) else (none)) else (some false)) else (some false))))) = some r := by first | (rw [hy241]; with_reducible exact H) | (have H2_ := (Option.bind_some _ _).symm.trans H; rw [hy241]; with_reducible exact H2_) | (have H2_ := (Option.bind_some _ _).symm.trans H; with_reducible exact H2_) | with_reducible exact H | (rw [hy241]; exact H) | exact H
 have Ny241 := A0_ hy241
 clear hy241
 replace H := Option.bind_eq_some_iff.mp H
 obtain ⟨⟨t244, t247, t248⟩, A10, H⟩ := H
 replace H : ((flat_Flatten.f (([(⟨(⟨#[]⟩ : ByteArray), (⟨#[]⟩ : ByteArray), 0, (⟨0, 0, 0, 0⟩ : S24), ([] : List Int)⟩ : S27)] : List (S27)))).bind fun bt253 => ((flat_Order.f y241).bind fun t259 => (if t247 = 0 then (if (t244.length : Int) = 2 then (if 0 < (t244.length : Int) then (if ((rd_T27 t244 0).f0).toList = ([98] : List UInt8) then (if 1 < (t244.length : Int) then (if ((rd_T27 t244 1).f0).toList = ([97] : List UInt8) then (if bt253.2.1 = 1 then (if (t259.length : Int) = 2 then (if 1 < (t259.length : Int) then (some ((rdOf ByteArray.empty t259 1).toList == ([97] : List UInt8))) else (none)) else (some false)) else (some false)) else (some false)) else (none)) else (some false)) else (none)) else (some false)) else (some false)))) = some r := H
 have A1 := A0_ A10
 clear A10
 obtain ⟨y250, hy250⟩ : ∃ y_ : List (S27), y_ = (([(⟨(⟨#[]⟩ : ByteArray), (⟨#[]⟩ : ByteArray), 0, (⟨0, 0, 0, 0⟩ : S24), ([] : List Int)⟩ : S27)] : List (S27))) := ⟨_, rfl⟩
 replace H : ((flat_Flatten.f y250).bind fun bt253 => ((flat_Order.f y241).bind fun t259 => (if t247 = 0 then (if (t244.length : Int) = 2 then (if 0 < (t244.length : Int) then (if ((rd_T27 t244 0).f0).toList = ([98] : List UInt8) then (if 1 < (t244.length : Int) then (if ((rd_T27 t244 1).f0).toList = ([97] : List UInt8) then (if bt253.2.1 = 1 then (if (t259.length : Int) = 2 then (if 1 < (t259.length : Int) then (some ((rdOf ByteArray.empty t259 1).toList == ([97] : List UInt8))) else (none)) else (some false)) else (some false)) else (some false)) else (none)) else (some false)) else (none)) else (some false)) else (some false)))) = some r := by first | (rw [hy250]; with_reducible exact H) | (have H2_ := (Option.bind_some _ _).symm.trans H; rw [hy250]; with_reducible exact H2_) | (have H2_ := (Option.bind_some _ _).symm.trans H; with_reducible exact H2_) | with_reducible exact H | (rw [hy250]; exact H) | exact H
 have Ny250 := A0_ hy250
 clear hy250
 replace H := Option.bind_eq_some_iff.mp H
 obtain ⟨⟨t253, t256, t257⟩, A20, H⟩ := H
 replace H : ((flat_Order.f y241).bind fun t259 => (if t247 = 0 then (if (t244.length : Int) = 2 then (if 0 < (t244.length : Int) then (if ((rd_T27 t244 0).f0).toList = ([98] : List UInt8) then (if 1 < (t244.length : Int) then (if ((rd_T27 t244 1).f0).toList = ([97] : List UInt8) then (if t256 = 1 then (if (t259.length : Int) = 2 then (if 1 < (t259.length : Int) then (some ((rdOf ByteArray.empty t259 1).toList == ([97] : List UInt8))) else (none)) else (some false)) else (some false)) else (some false)) else (none)) else (some false)) else (none)) else (some false)) else (some false))) = some r := H
 have A2 := A0_ A20
 clear A20
 replace H := Option.bind_eq_some_iff.mp H
 obtain ⟨t259, A30, H⟩ := H
 replace H : (if t247 = 0 then (if (t244.length : Int) = 2 then (if 0 < (t244.length : Int) then (if ((rd_T27 t244 0).f0).toList = ([98] : List UInt8) then (if 1 < (t244.length : Int) then (if ((rd_T27 t244 1).f0).toList = ([97] : List UInt8) then (if t256 = 1 then (if (t259.length : Int) = 2 then (if 1 < (t259.length : Int) then (some ((rdOf ByteArray.empty t259 1).toList == ([97] : List UInt8))) else (none)) else (some false)) else (some false)) else (some false)) else (none)) else (some false)) else (none)) else (some false)) else (some false)) = some r := H
 have A3 := A0_ A30
 clear A30
 by_cases c4 : t247 = 0
 rotate_left
 ·rw [if_neg c4] at H
  have c4b0 : (t247 == 0) = false := beq_eq_false_iff_ne.mpr c4
  have c4b1 : (t247 != 0) = true := bne_iff_ne.mpr c4
  exact absurd ((Option.some.inj H).trans hr_) (by decide)
 rw [if_pos c4] at H
 have c4b0 : (t247 == 0) = true := beq_iff_eq.mpr c4
 have c4b1 : (t247 != 0) = false := bne_eq_false_iff_eq.mpr c4
 clear c4
 by_cases c5 : (t244.length : Int) = 2
 rotate_left
 ·rw [if_neg c5] at H
  have c5b0 : ((t244.length : Int) == 2) = false := beq_eq_false_iff_ne.mpr c5
  have c5b1 : ((t244.length : Int) != 2) = true := bne_iff_ne.mpr c5
  exact absurd ((Option.some.inj H).trans hr_) (by decide)
 rw [if_pos c5] at H
 have c5b0 : ((t244.length : Int) == 2) = true := beq_iff_eq.mpr c5
 have c5b1 : ((t244.length : Int) != 2) = false := bne_eq_false_iff_eq.mpr c5
 clear c5
 by_cases c6 : 0 < (t244.length : Int)
 rotate_left
 ·rw [if_neg c6] at H
  exact absurd H (by simp)
 rw [if_pos c6] at H
 have c6b0 : decide (0 < (t244.length : Int)) = true := decide_eq_true c6
 have c6b1 : decide (0 < t244.length) = true := decide_eq_true (by omega)
 clear c6
 by_cases c7 : ((rd_T27 t244 0).f0).toList = ([98] : List UInt8)
 rotate_left
 ·rw [if_neg c7] at H
  have c7b0 : (((rd_T27 t244 0).f0).toList == ([98] : List UInt8)) = false := beq_eq_false_iff_ne.mpr c7
  have c7b1 : (((rd_T27 t244 0).f0).toList != ([98] : List UInt8)) = true := bne_iff_ne.mpr c7
  exact absurd ((Option.some.inj H).trans hr_) (by decide)
 rw [if_pos c7] at H
 have c7b0 : (((rd_T27 t244 0).f0).toList == ([98] : List UInt8)) = true := beq_iff_eq.mpr c7
 have c7b1 : (((rd_T27 t244 0).f0).toList != ([98] : List UInt8)) = false := bne_eq_false_iff_eq.mpr c7
 clear c7
 by_cases c8 : 1 < (t244.length : Int)
 rotate_left
 ·rw [if_neg c8] at H
  exact absurd H (by simp)
 rw [if_pos c8] at H
 have c8b0 : decide (1 < (t244.length : Int)) = true := decide_eq_true c8
 have c8b1 : decide (1 < t244.length) = true := decide_eq_true (by omega)
 clear c8
 by_cases c9 : ((rd_T27 t244 1).f0).toList = ([97] : List UInt8)
 rotate_left
 ·rw [if_neg c9] at H
  have c9b0 : (((rd_T27 t244 1).f0).toList == ([97] : List UInt8)) = false := beq_eq_false_iff_ne.mpr c9
  have c9b1 : (((rd_T27 t244 1).f0).toList != ([97] : List UInt8)) = true := bne_iff_ne.mpr c9
  exact absurd ((Option.some.inj H).trans hr_) (by decide)
 rw [if_pos c9] at H
 have c9b0 : (((rd_T27 t244 1).f0).toList == ([97] : List UInt8)) = true := beq_iff_eq.mpr c9
 have c9b1 : (((rd_T27 t244 1).f0).toList != ([97] : List UInt8)) = false := bne_eq_false_iff_eq.mpr c9
 clear c9
 by_cases c10 : t256 = 1
 rotate_left
 ·rw [if_neg c10] at H
  have c10b0 : (t256 == 1) = false := beq_eq_false_iff_ne.mpr c10
  have c10b1 : (t256 != 1) = true := bne_iff_ne.mpr c10
  exact absurd ((Option.some.inj H).trans hr_) (by decide)
 rw [if_pos c10] at H
 have c10b0 : (t256 == 1) = true := beq_iff_eq.mpr c10
 have c10b1 : (t256 != 1) = false := bne_eq_false_iff_eq.mpr c10
 clear c10
 by_cases c11 : (t259.length : Int) = 2
 rotate_left
 ·rw [if_neg c11] at H
  have c11b0 : ((t259.length : Int) == 2) = false := beq_eq_false_iff_ne.mpr c11
  have c11b1 : ((t259.length : Int) != 2) = true := bne_iff_ne.mpr c11
  exact absurd ((Option.some.inj H).trans hr_) (by decide)
 rw [if_pos c11] at H
 have c11b0 : ((t259.length : Int) == 2) = true := beq_iff_eq.mpr c11
 have c11b1 : ((t259.length : Int) != 2) = false := bne_eq_false_iff_eq.mpr c11
 clear c11
 by_cases c12 : 1 < (t259.length : Int)
 rotate_left
 ·rw [if_neg c12] at H
  exact absurd H (by simp)
 rw [if_pos c12] at H
 have c12b0 : decide (1 < (t259.length : Int)) = true := decide_eq_true c12
 have c12b1 : decide (1 < t259.length) = true := decide_eq_true (by omega)
 clear c12
 clear hr_
 obtain rfl := Option.some.inj H
 go_enter Tryd.func15, Tryd.ntmps15
 go_wp2_with (first | ((with_reducible refine gate_dst (N := 10) rfl ?_); (try (refine gate_guard (by rfl) ?_; dsimp only)); refine Kd.S_lit k27 _ 27 ?hg (N := 10) ?hd (xs := ([(⟨(⟨#[97]⟩ : ByteArray), (⟨#[]⟩ : ByteArray), 48, (⟨0, 0, 0, 0⟩ : S24), ([] : List Int)⟩ : S27), (⟨(⟨#[98]⟩ : ByteArray), (⟨#[]⟩ : ByteArray), 48, (⟨0, 0, 0, 0⟩ : S24), ([] : List Int)⟩ : S27), (⟨(⟨#[97]⟩ : ByteArray), (⟨#[]⟩ : ByteArray), 48, (⟨0, 0, 0, 0⟩ : S24), ([] : List Int)⟩ : S27)] : List (S27))) (inner := [.string (⟨#[97]⟩ : ByteArray), .string (⟨#[]⟩ : ByteArray), .int .u8 48, .int .i64 0, .int .i64 0, .int .i64 0, .int .i64 0, .slice none 0 0, .string (⟨#[98]⟩ : ByteArray), .string (⟨#[]⟩ : ByteArray), .int .u8 48, .int .i64 0, .int .i64 0, .int .i64 0, .int .i64 0, .slice none 0 0, .string (⟨#[97]⟩ : ByteArray), .string (⟨#[]⟩ : ByteArray), .int .u8 48, .int .i64 0, .int .i64 0, .int .i64 0, .int .i64 0, .slice none 0 0]) (ok := fun _ => True) (okp := fun _ => True) ?hr ?hp (fun _ hk => hk) trivial (Below.refl _ _) (Nat.le_refl _) (by simp) ?_; (case hd => rfl); (case hg => rfl); (case hr => first | (go_simp; done) | (go_simp; rfl)); (case hp => exact (Reps.c8 (show Kd.M k27 _ _ _ (⟨(⟨#[97]⟩ : ByteArray), (⟨#[]⟩ : ByteArray), 48, (⟨0, 0, 0, 0⟩ : S24), ([] : List Int)⟩ : S27) [.string (⟨#[97]⟩ : ByteArray), .string (⟨#[]⟩ : ByteArray), .int .u8 48, .int .i64 0, .int .i64 0, .int .i64 0, .int .i64 0, .slice none 0 0] from (k27_mkM _ _ _ (⟨(⟨#[97]⟩ : ByteArray), (⟨#[]⟩ : ByteArray), 48, (⟨0, 0, 0, 0⟩ : S24), ([] : List Int)⟩ : S27) (Kd.R_nil _ _ _ _ _))) (Reps.c8 (show Kd.M k27 _ _ _ (⟨(⟨#[98]⟩ : ByteArray), (⟨#[]⟩ : ByteArray), 48, (⟨0, 0, 0, 0⟩ : S24), ([] : List Int)⟩ : S27) [.string (⟨#[98]⟩ : ByteArray), .string (⟨#[]⟩ : ByteArray), .int .u8 48, .int .i64 0, .int .i64 0, .int .i64 0, .int .i64 0, .slice none 0 0] from (k27_mkM _ _ _ (⟨(⟨#[98]⟩ : ByteArray), (⟨#[]⟩ : ByteArray), 48, (⟨0, 0, 0, 0⟩ : S24), ([] : List Int)⟩ : S27) (Kd.R_nil _ _ _ _ _))) (Reps.c8 (show Kd.M k27 _ _ _ (⟨(⟨#[97]⟩ : ByteArray), (⟨#[]⟩ : ByteArray), 48, (⟨0, 0, 0, 0⟩ : S24), ([] : List Int)⟩ : S27) [.string (⟨#[97]⟩ : ByteArray), .string (⟨#[]⟩ : ByteArray), .int .u8 48, .int .i64 0, .int .i64 0, .int .i64 0, .int .i64 0, .slice none 0 0] from (k27_mkM _ _ _ (⟨(⟨#[97]⟩ : ByteArray), (⟨#[]⟩ : ByteArray), 48, (⟨0, 0, 0, 0⟩ : S24), ([] : List Int)⟩ : S27) (Kd.R_nil _ _ _ _ _))) (Reps.none _ _))))); intro v242 w13 ho14 hb hg_ hnew_; clear hg_ hnew_; (first | rw [← Ny241.out] at ho14 | (simp only [Int.reduceToNat] at ho14; rw [← Ny241.out] at ho14)); have n0_ := A0_ (Kd.S_lower ho14 (below_size (wb_ HB.out))); have n1_ := A0_ (below_step (wb_ HB.out) hb); clear HB; have HO243 := n0_; have HB := n1_; clear n0_ n1_; clear hb ho14; obtain ⟨Ao15, co15, eo15⟩ := Kd.S_slice HO243.out; subst eo15) | ((with_reducible refine gate_callee (f := 16) rfl ?_); refine goesL_ (some 13) rfl rfl Tryd.func16 (by kernel_rfl) rfl #[.slice Ao15 y241.length co15] rfl wm_ ?_; (with_reducible refine (flat_Flatten.calls _ _ y241 t244 t247 t248 _ ?side1 ?side2 ?side3 A1.out).mono ?_); (case side1 => exact A0_ (Tabs.below hT.out (wb_ HB.out))); (case side2 => exact wc_ (Kd.S_reads' HO243.out).2.2); (case side3 => exact (Kd.S_reads' HO243.out).2.1); rintro e w16 ⟨v245, rfl, ho0, hb⟩; refine ⟨_, rfl, ?_⟩; have n0_ := A0_ (Sb_ (wS_ HO243.out) hb); have n1_ := A0_ (Kd.V_lower (Kd.V_mono (ok' := fun k_ => some k_ ≠ (.slice Ao15 y241.length co15 : Value).ownBlock) ho0 (fun k_ hk_ => (Kd.fresh' (Kd.S_lt (wS_ HO243.out)) k_ hk_))) (below_size (wb_ HB.out))); have n2_ := A0_ (below_step (wb_ HB.out) hb); clear HO243; clear HB; have HO243 := n0_; have HO246 := n1_; have HB := n2_; clear n0_ n1_ n2_; (try clear hb); (try clear hb2); (try clear hk); (try clear hi); (try clear ho0)) | ((with_reducible refine gate_dst (N := 3) rfl ?_); (try (refine gate_guard (by rfl) ?_; dsimp only)); refine box_event ?hg (N := 3) ?hd (cs := #[.int .i64 0, .int .i64 0]) (t := 34) ?hr ?_; (case hd => rfl); (case hg => rfl); (case hr => first | (go_simp; done) | (go_simp; rfl)); intro gb249 hg w17 hbox hb; have n0_ := A0_ (Sb_ (wS_ HO243.out) hb); have n1_ := A0_ (Vb_ (Kd.V_elderB (wV_ HO246.out) gb249 (Nat.le_of_eq hg.symm)) hb); have n2_ := A0_ (below_step (wb_ HB.out) hb); have n3_ := A0_ (hbox); have n4_ := A0_ ((by rw [hg]; exact (below_size (wb_ HB.out)) : w.heap.size ≤ gb249)); have n5_ := A0_ ((by rw [hg]; exact (below_size (wb_ HB.out)) : w.heap.size ≤ gb249)); clear HO243; clear HO246; clear HB; have HO243 := n0_; have HO246 := n1_; have HB := n2_; have BK249 := n3_; have GW249 := n4_; have GE249 := n5_; clear n0_ n1_ n2_ n3_ n4_ n5_; clear hb hbox hg; have hcz18_0 : w17.cell? ⟨gb249, 0, none⟩ = some (.int .i64 0) := (bc_ BK249.out 0).trans rfl; have hcz18_1 : w17.cell? ⟨gb249, 1, none⟩ = some (.int .i64 0) := (bc_ BK249.out 1).trans rfl; have hfz18_0 := bf_ BK249.out 0; have hfz18_1 := bf_ BK249.out 1) | ((with_reducible refine gate_store (t := 34) (p := 3) rfl ?_); refine store_event (t := 34) (p := 3) (v := ?vo_w19) (w1 := ((w17.setCell ⟨gb249, 0, none⟩ (.int .i64 t247)).setCell ⟨gb249, 1, none⟩ (.int .i64 t248))) ?hg ?ho ?hn ?hr ?_; (case ho => rfl); (case hg => rfl); (case hn => rfl); (case hr => first | (go_simp; done) | (go_simp; rfl)); intro w19 hw; have n0_ : Aside0 (Kd.S k27 27 w19 w.heap.size (fun _ => True) (.slice Ao15 y241.length co15) y241) := ⟨(by rw [hw]; exact (by (with_reducible repeat (first | apply Sa_ | apply SN_ | apply S1_)); exact Kd.S_mono (Kd.S_far (p := ⟨gb249, 1, none⟩) (Kd.S_far (p := ⟨gb249, 0, none⟩) (Kd.S_types HO243.out BK249.out (by decide)) (fun _ hk => hk.2) (.int .i64 t247)) (fun _ hk => hk.2) (.int .i64 t248)) (fun _ hk => trivial)))⟩; have n1_ : Aside0 (Kd.V k27 27 w19 w.heap.size (fun k_ => some k_ ≠ (.slice Ao15 y241.length co15 : Value).ownBlock ∧ k_ ≠ gb249) v245 t244) := ⟨(by rw [hw]; exact (by (with_reducible repeat (first | apply Va_ | apply VN_ | apply V1_)); exact Kd.V_mono (Kd.V_far (p := ⟨gb249, 1, none⟩) (Kd.V_far (p := ⟨gb249, 0, none⟩) (Kd.V_mono HO246.out (fun k_ hk => (⟨hk, hk.2⟩ : _ ∧ k_ ≠ gb249))) (fun _ hk => hk.2) (.int .i64 t247)) (fun _ hk => hk.2) (.int .i64 t248)) (fun _ hk => ⟨hk.1.1, hk.1.2⟩)))⟩; have n2_ : Aside0 (w19.heap[gb249]? = some (.cells #[.int .i64 t247, .int .i64 t248] 34 (0, 0))) := ⟨(by rw [hw]; exact (by (with_reducible repeat (first | refine blk_drewN ?_ _ | refine blk_drew ?_ | refine blk_alloc ?_ _)); refine blk_put (cs := #[.int .i64 t247, .int .i64 0]) ?_ 1 _ rfl; (with_reducible repeat (first | refine blk_drewN ?_ _ | refine blk_drew ?_ | refine blk_alloc ?_ _)); refine blk_put (cs := #[.int .i64 0, .int .i64 0]) ?_ 0 _ rfl; (with_reducible repeat (first | refine blk_drewN ?_ _ | refine blk_drew ?_ | refine blk_alloc ?_ _)); exact BK249.out))⟩; have n3_ : Aside0 (Below w.heap.size w w19) := ⟨(by rw [hw]; exact (wb1_ HB.out GE249.out))⟩; clear hw; clear HO243; clear HO246; clear BK249; clear HB; have HO243 := n0_; have HO246 := n1_; have BK249 := n2_; have HB := n3_; clear n0_ n1_ n2_ n3_) | ((with_reducible refine gate_dst (N := 18) rfl ?_); (try (refine gate_guard (by rfl) ?_; dsimp only)); refine Kd.S_lit k27 _ 27 ?hg (N := 18) ?hd (xs := ([(⟨(⟨#[]⟩ : ByteArray), (⟨#[]⟩ : ByteArray), 0, (⟨0, 0, 0, 0⟩ : S24), ([] : List Int)⟩ : S27)] : List (S27))) (inner := [.string (⟨#[]⟩ : ByteArray), .string (⟨#[]⟩ : ByteArray), .int .u8 0, .int .i64 0, .int .i64 0, .int .i64 0, .int .i64 0, .slice none 0 0]) (ok := fun _ => True) (okp := fun _ => True) ?hr ?hp (fun _ hk => hk) trivial (Below.refl _ _) (Nat.le_refl _) (by simp) ?_; (case hd => rfl); (case hg => rfl); (case hr => first | (go_simp; done) | (go_simp; rfl)); (case hp => exact (Reps.c8 (show Kd.M k27 _ _ _ (⟨(⟨#[]⟩ : ByteArray), (⟨#[]⟩ : ByteArray), 0, (⟨0, 0, 0, 0⟩ : S24), ([] : List Int)⟩ : S27) [.string (⟨#[]⟩ : ByteArray), .string (⟨#[]⟩ : ByteArray), .int .u8 0, .int .i64 0, .int .i64 0, .int .i64 0, .int .i64 0, .slice none 0 0] from (k27_mkM _ _ _ (⟨(⟨#[]⟩ : ByteArray), (⟨#[]⟩ : ByteArray), 0, (⟨0, 0, 0, 0⟩ : S24), ([] : List Int)⟩ : S27) (Kd.R_nil _ _ _ _ _))) (Reps.none _ _))); intro v251 w20 ho21 hb hg_ hnew_; clear hg_ hnew_; (first | rw [← Ny250.out] at ho21 | (simp only [Int.reduceToNat] at ho21; rw [← Ny250.out] at ho21)); have n0_ := A0_ (Kd.S_elder' (wS_ HO243.out) (Kd.S_base ho21) hb); have n1_ := A0_ (Kd.V_elder' (wV_ HO246.out) (Kd.S_base ho21) hb); have n2_ := A0_ (Kd.S_lower (Kd.S_new' ho21 (Kd.S_lt (wS_ HO243.out))) (below_size (wb1_ HB.out GE249.out))); have n3_ := A0_ (blk_below (g := gb249) (o := .cells #[.int .i64 t247, .int .i64 t248] 34 (0, 0)) (wB_ BK249.out) hb); have n4_ := A0_ (below_step (wb1_ HB.out GE249.out) hb); clear HO243; clear HO246; clear BK249; clear HB; have HO243 := n0_; have HO246 := n1_; have HO252 := n2_; have BK249 := n3_; have HB := n4_; clear n0_ n1_ n2_ n3_ n4_; clear hb ho21; obtain ⟨Ao22, co22, eo22⟩ := Kd.S_slice HO252.out; subst eo22) | ((with_reducible refine gate_callee (f := 16) rfl ?_); refine goesL_ (some 19) rfl rfl Tryd.func16 (by kernel_rfl) rfl #[.slice Ao22 y250.length co22] rfl wm_ ?_; (with_reducible refine (flat_Flatten.calls _ _ y250 t253 t256 t257 _ ?side1 ?side2 ?side3 A2.out).mono ?_); (case side1 => exact A0_ (Tabs.below hT.out (wb1_ HB.out GE249.out))); (case side2 => exact wc_ (Kd.S_reads' HO252.out).2.2); (case side3 => exact (Kd.S_reads' HO252.out).2.1); rintro e w23 ⟨v254, rfl, ho0, hb⟩; refine ⟨_, rfl, ?_⟩; have n0_ := A0_ (Sb_ (wS_ HO243.out) hb); have n1_ := A0_ (Vb_ (wV_ HO246.out) hb); have n2_ := A0_ (Sb_ (wS_ HO252.out) hb); have n3_ := A0_ (Kd.V_lower (Kd.V_mono (ok' := fun k_ => some k_ ≠ (.slice Ao15 y241.length co15 : Value).ownBlock ∧ some k_ ≠ (.slice Ao22 y250.length co22 : Value).ownBlock ∧ k_ ≠ gb249) ho0 (fun k_ hk_ => ⟨(Kd.fresh' (Kd.S_lt (wS_ HO243.out)) k_ hk_), (Kd.fresh' (Kd.S_lt (wS_ HO252.out)) k_ hk_), (Kd.freshB (g := gb249) (o := .cells #[.int .i64 t247, .int .i64 t248] 34 (0, 0)) (wB_ BK249.out) k_ hk_)⟩)) (below_size (wb1_ HB.out GE249.out))); have n4_ := A0_ (blk_below (g := gb249) (o := .cells #[.int .i64 t247, .int .i64 t248] 34 (0, 0)) (wB_ BK249.out) hb); have n5_ := A0_ (below_step (wb1_ HB.out GE249.out) hb); clear HO243; clear HO246; clear HO252; clear BK249; clear HB; have HO243 := n0_; have HO246 := n1_; have HO252 := n2_; have HO255 := n3_; have BK249 := n4_; have HB := n5_; clear n0_ n1_ n2_ n3_ n4_ n5_; (try clear hb); (try clear hb2); (try clear hk); (try clear hi); (try clear ho0)) | ((with_reducible refine gate_dst (N := 5) rfl ?_); (try (refine gate_guard (by rfl) ?_; dsimp only)); refine box_event ?hg (N := 5) ?hd (cs := #[.int .i64 0, .int .i64 0]) (t := 34) ?hr ?_; (case hd => rfl); (case hg => rfl); (case hr => first | (go_simp; done) | (go_simp; rfl)); intro gb258 hg w24 hbox hb; have n0_ := A0_ (Sb_ (wS_ HO243.out) hb); have n1_ := A0_ (Vb_ (Kd.V_elderB (wV_ HO246.out) gb258 (Nat.le_of_eq hg.symm)) hb); have n2_ := A0_ (Sb_ (wS_ HO252.out) hb); have n3_ := A0_ (Vb_ (Kd.V_elderB (wV_ HO255.out) gb258 (Nat.le_of_eq hg.symm)) hb); have n4_ := A0_ (blk_below (g := gb249) (o := .cells #[.int .i64 t247, .int .i64 t248] 34 (0, 0)) (wB_ BK249.out) hb); have n5_ := A0_ (below_step (wb1_ HB.out GE249.out) hb); have n6_ := A0_ (hbox); have n7_ := A0_ ((by rw [hg]; exact (below_size (wb1_ HB.out GE249.out)) : w.heap.size ≤ gb258)); have n8_ := A0_ ((by rw [hg]; exact (below_size (wb1_ HB.out GE249.out)) : w.heap.size ≤ gb258)); have n9_ := A0_ ((by rw [hg]; exact Nat.ne_of_lt (blk_lt (g := gb249) (o := .cells #[.int .i64 t247, .int .i64 t248] 34 (0, 0)) (wB_ BK249.out)) : gb249 ≠ gb258)); have n10_ := A0_ ((by rw [hg]; exact Nat.ne_of_gt (blk_lt (g := gb249) (o := .cells #[.int .i64 t247, .int .i64 t248] 34 (0, 0)) (wB_ BK249.out)) : gb258 ≠ gb249)); clear HO243; clear HO246; clear HO252; clear HO255; clear BK249; clear HB; have HO243 := n0_; have HO246 := n1_; have HO252 := n2_; have HO255 := n3_; have BK249 := n4_; have HB := n5_; have BK258 := n6_; have GW258 := n7_; have GE258 := n8_; have NB249_258 := n9_; have NB258_249 := n10_; clear n0_ n1_ n2_ n3_ n4_ n5_ n6_ n7_ n8_ n9_ n10_; clear hb hbox hg; have hnb25 := NB258_249.out; have hnc25 := NB249_258.out; have hcz26_0 : w24.cell? ⟨gb258, 0, none⟩ = some (.int .i64 0) := (bc_ BK258.out 0).trans rfl; have hcz26_1 : w24.cell? ⟨gb258, 1, none⟩ = some (.int .i64 0) := (bc_ BK258.out 1).trans rfl; have hfz26_0 := bf_ BK258.out 0; have hfz26_1 := bf_ BK258.out 1) | ((with_reducible refine gate_callee (f := 17) rfl ?_); refine goesL_ (some 23) rfl rfl Tryd.func17 (by kernel_rfl) rfl #[.slice Ao15 y241.length co15] rfl wm_ ?_; (with_reducible refine (flat_Order.calls _ _ y241 t259 _ ?side1 ?side2 A3.out).mono ?_); (case side1 => refine (Kd.S_reads' (e := 27) (base := w.heap.size) (ok := fun k_ => (True ∧ some k_ ≠ (.slice Ao22 y250.length co22 : Value).ownBlock)) (n := y241.length) (c := co15) ?_).2.2; exact (by (with_reducible repeat (first | apply Sa_ | apply SN_ | apply S1_)); exact (Kd.S_mono (Kd.S_far (p := ⟨gb258, 1, none⟩) (Kd.S_far (p := ⟨gb258, 0, none⟩) (Kd.S_types HO243.out BK258.out (by decide)) (fun _ hk => hk.2) (.int .i64 t256)) (fun _ hk => hk.2) (.int .i64 t257)) (fun _ h_ => h_.1)))); (case side2 => exact (Kd.S_reads' HO243.out).2.1); rintro e w27 ⟨v260, rfl, ho0, hb⟩; refine ⟨_, rfl, ?_⟩; have n0_ := A0_ (Sb_ (by (with_reducible repeat (first | apply Sa_ | apply SN_ | apply S1_)); exact (Kd.S_mono (Kd.S_far (p := ⟨gb258, 1, none⟩) (Kd.S_far (p := ⟨gb258, 0, none⟩) (Kd.S_types HO243.out BK258.out (by decide)) (fun _ hk => hk.2) (.int .i64 t256)) (fun _ hk => hk.2) (.int .i64 t257)) (fun _ h_ => h_.1))) hb); have n1_ := A0_ (Kd.V_elder' (by (with_reducible repeat (first | apply Va_ | apply VN_ | apply V1_)); exact (Kd.V_mono (Kd.V_far (p := ⟨gb258, 1, none⟩) (Kd.V_far (p := ⟨gb258, 0, none⟩) (Kd.V_mono HO246.out (fun k_ hk => (⟨hk, hk.2⟩ : _ ∧ k_ ≠ gb258))) (fun _ hk => hk.2) (.int .i64 t256)) (fun _ hk => hk.2) (.int .i64 t257)) (fun _ h_ => h_.1))) (Kd.R_base ho0) hb); have n2_ := A0_ (Sb_ (by (with_reducible repeat (first | apply Sa_ | apply SN_ | apply S1_)); exact (Kd.S_mono (Kd.S_far (p := ⟨gb258, 1, none⟩) (Kd.S_far (p := ⟨gb258, 0, none⟩) (Kd.S_types HO252.out BK258.out (by decide)) (fun _ hk => hk.2) (.int .i64 t256)) (fun _ hk => hk.2) (.int .i64 t257)) (fun _ h_ => h_.1))) hb); have n3_ := A0_ (Kd.V_elder' (by (with_reducible repeat (first | apply Va_ | apply VN_ | apply V1_)); exact (Kd.V_mono (Kd.V_far (p := ⟨gb258, 1, none⟩) (Kd.V_far (p := ⟨gb258, 0, none⟩) (Kd.V_mono HO255.out (fun k_ hk => (⟨hk, hk.2⟩ : _ ∧ k_ ≠ gb258))) (fun _ hk => hk.2) (.int .i64 t256)) (fun _ hk => hk.2) (.int .i64 t257)) (fun _ h_ => h_.1))) (Kd.R_base ho0) hb); have n4_ := A0_ (Kd.R_lower ho0 (below_size (wb2_ HB.out GE249.out GE258.out))); have n5_ := A0_ (blk_below (g := gb249) (o := .cells #[.int .i64 t247, .int .i64 t248] 34 (0, 0)) (by (with_reducible repeat (first | refine blk_drewN ?_ _ | refine blk_drew ?_ | refine blk_alloc ?_ _)); refine blk_far ?_ NB249_258.out _; (with_reducible repeat (first | refine blk_drewN ?_ _ | refine blk_drew ?_ | refine blk_alloc ?_ _)); refine blk_far ?_ NB249_258.out _; (with_reducible repeat (first | refine blk_drewN ?_ _ | refine blk_drew ?_ | refine blk_alloc ?_ _)); exact BK249.out) hb); have n6_ := A0_ (blk_below (g := gb258) (o := .cells #[.int .i64 t256, .int .i64 t257] 34 (0, 0)) (by (with_reducible repeat (first | refine blk_drewN ?_ _ | refine blk_drew ?_ | refine blk_alloc ?_ _)); refine blk_put (cs := #[.int .i64 t256, .int .i64 0]) ?_ 1 _ rfl; (with_reducible repeat (first | refine blk_drewN ?_ _ | refine blk_drew ?_ | refine blk_alloc ?_ _)); refine blk_put (cs := #[.int .i64 0, .int .i64 0]) ?_ 0 _ rfl; (with_reducible repeat (first | refine blk_drewN ?_ _ | refine blk_drew ?_ | refine blk_alloc ?_ _)); exact BK258.out) hb); have n7_ := A0_ (below_step (wb2_ HB.out GE249.out GE258.out) hb); clear HO243; clear HO246; clear HO252; clear HO255; clear BK249; clear BK258; clear HB; have HO243 := n0_; have HO246 := n1_; have HO252 := n2_; have HO255 := n3_; have HO261 := n4_; have BK249 := n5_; have BK258 := n6_; have HB := n7_; clear n0_ n1_ n2_ n3_ n4_ n5_ n6_ n7_; (try clear hb); (try clear hb2); (try clear hk); (try clear hi); (try clear ho0); have hcz28_0 : w27.cell? ⟨gb249, 0, none⟩ = some (.int .i64 t247) := (bc_ BK249.out 0).trans rfl; have hcz28_1 : w27.cell? ⟨gb249, 1, none⟩ = some (.int .i64 t248) := (bc_ BK249.out 1).trans rfl; have hfz28_0 := bf_ BK249.out 0; have hfz28_1 := bf_ BK249.out 1; obtain ⟨Ao29, co29, eo29⟩ := Kd.V_slice HO246.out; subst eo29; have p262 : 0 ≤ (0 : Int) := (by omega); have q262 : 0 < (t244.length : Int) := wd_; obtain ⟨ad262, A262_7, c262_7, e262, hx262_0, hx262_1, hx262_2, hx262_3, hx262_4, hx262_5, hx262_6, hx262_7, hl262_7, hi262_7⟩ := at_T27 (Kd.V_reads' HO246.out).2.2 0 p262 q262; cases e262; obtain ⟨ce262, hce262, hMe262, hcc262⟩ := Kd.V_get HO246.out z27 0 p262 (by first | exact q262 | exact wd_ | (have e_ := (Kd.V_reads' HO246.out).1; omega)); obtain ⟨ua262_7, uc262_7, rfl, ul262_7, ge262_7⟩ := k27_openF hMe262; have hv262_7 := hcc262 7 _ rfl; rw [add_field _ _ 7 (by omega)] at hv262_7; replace hv262_7 := Option.some.inj (hv262_7.symm.trans hx262_7); injection hv262_7 with hva_ hvn_ hvc_; rw [hva_] at ge262_7; rw [hvc_] at ul262_7; have HL262_7 := A0_ (show Kd.V (Kd.int .u8) 5 _ w.heap.size _ _ ((rd_T27 t244 0).f4) from Kd.V_mk ul262_7 ge262_7); clear hva_ hvn_ hvc_ ge262_7 ul262_7; clear hcc262 hce262; have qi262 : (0 < t244.length) = True := eq_true (by omega); (try rw [show ((0 : Int)).toNat = 0 from rfl] at hx262_0); (try rw [show 0 * 8 = 0 from rfl] at hx262_0); (try rw [Addr.add_zero'] at hx262_0); (try rw [show ((0 : Int)).toNat = 0 from rfl] at hx262_1); (try rw [show 0 * 8 = 0 from rfl] at hx262_1); (try rw [Addr.add_zero'] at hx262_1); (try rw [show ((0 : Int)).toNat = 0 from rfl] at hx262_2); (try rw [show 0 * 8 = 0 from rfl] at hx262_2); (try rw [Addr.add_zero'] at hx262_2); (try rw [show ((0 : Int)).toNat = 0 from rfl] at hx262_3); (try rw [show 0 * 8 = 0 from rfl] at hx262_3); (try rw [Addr.add_zero'] at hx262_3); (try rw [show ((0 : Int)).toNat = 0 from rfl] at hx262_4); (try rw [show 0 * 8 = 0 from rfl] at hx262_4); (try rw [Addr.add_zero'] at hx262_4); (try rw [show ((0 : Int)).toNat = 0 from rfl] at hx262_5); (try rw [show 0 * 8 = 0 from rfl] at hx262_5); (try rw [Addr.add_zero'] at hx262_5); (try rw [show ((0 : Int)).toNat = 0 from rfl] at hx262_6); (try rw [show 0 * 8 = 0 from rfl] at hx262_6); (try rw [Addr.add_zero'] at hx262_6); (try rw [show ((0 : Int)).toNat = 0 from rfl] at hx262_7); (try rw [show 0 * 8 = 0 from rfl] at hx262_7); (try rw [Addr.add_zero'] at hx262_7); have HR262_7 := A0_ hi262_7; have HC262_7 := A0_ hl262_7; clear hi262_7 hl262_7; replace p262 := eq_true p262; replace q262 := eq_true q262; have p263 : 0 ≤ (1 : Int) := (by omega); have q263 : 1 < (t244.length : Int) := wd_; obtain ⟨ad263, A263_7, c263_7, e263, hx263_0, hx263_1, hx263_2, hx263_3, hx263_4, hx263_5, hx263_6, hx263_7, hl263_7, hi263_7⟩ := at_T27 (Kd.V_reads' HO246.out).2.2 1 p263 q263; obtain rfl : ad262 = ad263 := (by injection e263); obtain ⟨ce263, hce263, hMe263, hcc263⟩ := Kd.V_get HO246.out z27 1 p263 (by first | exact q263 | exact wd_ | (have e_ := (Kd.V_reads' HO246.out).1; omega)); obtain ⟨ua263_7, uc263_7, rfl, ul263_7, ge263_7⟩ := k27_openF hMe263; have hv263_7 := hcc263 7 _ rfl; rw [add_field _ _ 7 (by omega)] at hv263_7; replace hv263_7 := Option.some.inj (hv263_7.symm.trans hx263_7); injection hv263_7 with hva_ hvn_ hvc_; rw [hva_] at ge263_7; rw [hvc_] at ul263_7; have HL263_7 := A0_ (show Kd.V (Kd.int .u8) 5 _ w.heap.size _ _ ((rd_T27 t244 1).f4) from Kd.V_mk ul263_7 ge263_7); clear hva_ hvn_ hvc_ ge263_7 ul263_7; clear hcc263 hce263; (try simp only [one_n, Nat.reduceMul, Nat.reduceEqDiff, Go.Addr.add, ↓reduceIte] at hx263_0); (try simp only [one_n, Nat.reduceMul, Nat.reduceEqDiff, Go.Addr.add, ↓reduceIte] at hx263_1); (try simp only [one_n, Nat.reduceMul, Nat.reduceEqDiff, Go.Addr.add, ↓reduceIte] at hx263_2); (try simp only [one_n, Nat.reduceMul, Nat.reduceEqDiff, Go.Addr.add, ↓reduceIte] at hx263_3); (try simp only [one_n, Nat.reduceMul, Nat.reduceEqDiff, Go.Addr.add, ↓reduceIte] at hx263_4); (try simp only [one_n, Nat.reduceMul, Nat.reduceEqDiff, Go.Addr.add, ↓reduceIte] at hx263_5); (try simp only [one_n, Nat.reduceMul, Nat.reduceEqDiff, Go.Addr.add, ↓reduceIte] at hx263_6); (try simp only [one_n, Nat.reduceMul, Nat.reduceEqDiff, Go.Addr.add, ↓reduceIte] at hx263_7); have qi263 : (1 < t244.length) = True := eq_true (by omega); (try rw [show ((1 : Int)).toNat = 1 from rfl] at hx263_0); (try rw [show 1 * 8 = 8 from rfl] at hx263_0); (try rw [show ((1 : Int)).toNat = 1 from rfl] at hx263_1); (try rw [show 1 * 8 = 8 from rfl] at hx263_1); (try rw [show ((1 : Int)).toNat = 1 from rfl] at hx263_2); (try rw [show 1 * 8 = 8 from rfl] at hx263_2); (try rw [show ((1 : Int)).toNat = 1 from rfl] at hx263_3); (try rw [show 1 * 8 = 8 from rfl] at hx263_3); (try rw [show ((1 : Int)).toNat = 1 from rfl] at hx263_4); (try rw [show 1 * 8 = 8 from rfl] at hx263_4); (try rw [show ((1 : Int)).toNat = 1 from rfl] at hx263_5); (try rw [show 1 * 8 = 8 from rfl] at hx263_5); (try rw [show ((1 : Int)).toNat = 1 from rfl] at hx263_6); (try rw [show 1 * 8 = 8 from rfl] at hx263_6); (try rw [show ((1 : Int)).toNat = 1 from rfl] at hx263_7); (try rw [show 1 * 8 = 8 from rfl] at hx263_7); have HR263_7 := A0_ hi263_7; have HC263_7 := A0_ hl263_7; clear hi263_7 hl263_7; replace p263 := eq_true p263; replace q263 := eq_true q263; have hcz30_0 : w27.cell? ⟨gb258, 0, none⟩ = some (.int .i64 t256) := (bc_ BK258.out 0).trans rfl; have hcz30_1 : w27.cell? ⟨gb258, 1, none⟩ = some (.int .i64 t257) := (bc_ BK258.out 1).trans rfl; have hfz30_0 := bf_ BK258.out 0; have hfz30_1 := bf_ BK258.out 1; obtain ⟨Ao31, co31, eo31⟩ := Kd.R_slice HO261.out; subst eo31; have p264 : 0 ≤ (1 : Int) := (by omega); have q264 : 1 < (t259.length : Int) := wd_; obtain ⟨ad264, e264, hx264_0⟩ := Kd.at_string (Kd.R_reads' HO261.out).2.2 1 p264 q264; cases e264; (try simp only [one_n, Nat.reduceMul, Nat.reduceEqDiff, Go.Addr.add, ↓reduceIte] at hx264_0); have qi264 : (1 < t259.length) = True := eq_true (by omega); (try rw [show ((1 : Int)).toNat = 1 from rfl] at hx264_0); replace p264 := eq_true p264; replace q264 := eq_true q264))
 go_ret
 exact ⟨we_, wb2_ HB.out GE249.out GE258.out⟩
end Go.Proofs.YtiijbmaamblidaaDoor.Print

namespace Go.Proofs.YtiijbmaamblidaaDoor.Print
open Go.RowKit Go.Proofs.YtiijbmaamblidaaDoorW.PrintWords Go.Proofs.YtiijbmaamblidaaDoorW.PrintLast Go.Proofs.YtiijbmaamblidaaDoorW.PrintMore
attribute [local go_sem] max2_int min2_int max_two min_two max_three min_three max_four min_four   -- for this text's walks alone
set_option linter.unusedVariables false
set_option linter.unusedSimpArgs false
mutual
def bindleref18_Order.l0 : Nat → List (S27) → List ByteArray → Int → Option (List ByteArray)
 | 0, _, _, _ => none
 | k + 1, x0, x3, x4 => if x4 < (x0.length : Int) then (bindleref18_Order.l1 k x0 x3 x4 false (wrap64 (x4 + 1))) else (some x3)
def bindleref18_Order.l1 : Nat → List (S27) → List ByteArray → Int → Bool → Int → Option (List ByteArray)
 | 0, _, _, _, _, _ => none
 | k + 1, x0, x3, x4, x5, x6 => if x6 < (x0.length : Int) then (if x5 = true then (bindleref18_Order.l1 k x0 x3 x4 true (wrap64 (x6 + 1))) else (if 0 ≤ x6 then (if 0 ≤ x4 then (if x4 < (x0.length : Int) then (bindleref18_Order.l1 k x0 x3 x4 (((rd_T27 x0 x6).f0).toList == ((rd_T27 x0 x4).f0).toList) (wrap64 (x6 + 1))) else (none)) else (none)) else (none))) else (if x5 = true then (bindleref18_Order.l0 k x0 x3 (wrap64 (x4 + 1))) else (if 0 ≤ x4 then (if x4 < (x0.length : Int) then (if x3.length < 8796093022208 then (bindleref18_Order.l0 k x0 (x3 ++ [(rd_T27 x0 x4).f0]) (wrap64 (x4 + 1))) else (none)) else (none)) else (none)))
end
def bindleref18_Order.f (k : Nat) (l0 : List (S27)) : Option (List ByteArray) := bindleref18_Order.l0 k l0 ([] : List ByteArray) 0
set_option maxHeartbeats 8000000 in
set_option maxRecDepth 100000 in
theorem bindleref18_Order.calls (k : Nat) (A0 : Option Addr) (c0 : Nat) (l0 : List (S27)) (r : List ByteArray) (w : World) (hr0 : Kd.C k27 w A0 l0.length l0) (hc0 : l0.length ≤ c0) (h : bindleref18_Order.f k l0 = some r) :
  Calls Tryd.prog 18 #[.slice A0 l0.length c0] w fun e w' => ∃ v0_ : Value, e = .returned (v0_) ∧ Kd.R Kd.string 9 w' w.heap.size (fun _ => True) v0_ r ∧ Below w.heap.size w w' := by
 have HR0 := A0_ hr0
 have HC0 := A0_ hc0
 clear hr0 hc0
 have HB := A0_ (Below.refl w.heap.size w)
 have H : (bindleref18_Order.l0 k l0 ([] : List ByteArray) 0) = some r := h
 clear h
 have H' := A0_ H
 clear H
 go_enter Tryd.func18, Tryd.ntmps18
 go_wp2
 repeat (go_quiet (fail); try go_wp2)
 go_loopg [3, 4] k (fun kq v3 v4 w' => ∃ (x3_1 : List ByteArray) (x4_1 : Int), v4 = .int .i64 x4_1 ∧ Aside0 (bindleref18_Order.l0 kq l0 x3_1 x4_1 = some r) ∧ Aside0 (kq ≤ k) ∧ Aside0 (Kd.R Kd.string 9 w' w.heap.size (fun _ => True) v3 x3_1) ∧ Aside0 (Below w.heap.size w w'))
 case atStart => exact ⟨(([] : List ByteArray)), (0), wr_, H', ⟨Nat.le_refl _⟩, ⟨by first | exact Kd.R_nil _ _ _ _ _ | exact Kd.N_nil _ _ _ _ _ | exact Kd.V_nil _ _ _ _ _ | exact Kd.Q_nil _ _ _ _ _ | exact Kd.S_nil _ _ _ _ _⟩, ⟨wb_ HB.out⟩⟩
 case round =>
  clear H'
  try clear c1
  obtain ⟨x3_1, x4_1, rfl, HA, HK1, HO_3, HB⟩ := hrel
  cases gk with
  | zero => exact absurd HA.out (by simp [bindleref18_Order.l0])
  | succ k1 =>
   have H := HA.out
   clear HA
   simp only [bindleref18_Order.l0] at H
   by_cases c2 : x4_1 < (l0.length : Int)
   rotate_left
   ·rw [if_neg c2] at H
    have c2b0 : decide (x4_1 < (l0.length : Int)) = false := decide_eq_false c2
    clear c2
    obtain rfl := Option.some.inj H
    go_wp2
    repeat (go_quiet (fail); try go_wp2)
    go_ret
    exact ⟨_, we_, wR_ HO_3.out, wb_ HB.out⟩
   rw [if_pos c2] at H
   have c2b0 : decide (x4_1 < (l0.length : Int)) = true := decide_eq_true c2
   clear c2
   have H' := A0_ H
   clear H
   go_wp2
   repeat (go_quiet (fail); try go_wp2)
   go_loopg [5, 6] k1 (fun kq v5 v6 w' => ∃ (x5_2 : Bool) (x6_2 : Int), v5 = .bool x5_2 ∧ v6 = .int .i64 x6_2 ∧ Aside0 (bindleref18_Order.l1 kq l0 x3_1 x4_1 x5_2 x6_2 = some r) ∧ Aside0 (kq ≤ k1) ∧ Aside0 (Kd.R Kd.string 9 w' w.heap.size (fun _ => True) u3 x3_1) ∧ Aside0 (Below w.heap.size w w'))
   case atStart => exact ⟨(false), (wrap64 (x4_1 + 1)), wr_, wr_, H', ⟨Nat.le_refl _⟩, ⟨wR_ HO_3.out⟩, ⟨wb_ HB.out⟩⟩
   case round =>
    clear H'
    try clear c1
    try clear c2
    try clear c2b0
    try clear p2
    obtain ⟨x5_2, x6_2, rfl, rfl, HA, HK2, HO_3, HB⟩ := hrel
    cases gk with
    | zero => exact absurd HA.out (by simp [bindleref18_Order.l1])
    | succ k2 =>
     have H := HA.out
     clear HA
     simp only [bindleref18_Order.l1] at H
     by_cases c3 : x6_2 < (l0.length : Int)
     ·rw [if_pos c3] at H
      have c3b0 : decide (x6_2 < (l0.length : Int)) = true := decide_eq_true c3
      clear c3
      by_cases c4 : x5_2 = true
      ·subst c4
       have H1 : (bindleref18_Order.l1 k2 l0 x3_1 x4_1 true (wrap64 (x6_2 + 1))) = some r := by rw [if_pos rfl] at H; exact H
       clear H
       have H := H1
       clear H1
       have H' := A0_ H
       clear H
       go_wp2
       repeat (go_quiet (fail); try go_wp2)
       go_roundg k2
       case measure => have := HK1.out; have := HK2.out; omega
       case rel => exact ⟨(true), (wrap64 (x6_2 + 1)), wr_, wr_, H', ⟨by have := HK1.out; have := HK2.out; omega⟩, ⟨wR_ HO_3.out⟩, ⟨wb_ HB.out⟩⟩
      replace c4 := Bool.eq_false_iff.mpr c4
      subst c4
      have H1 : (if 0 ≤ x6_2 then (if 0 ≤ x4_1 then (if x4_1 < (l0.length : Int) then (bindleref18_Order.l1 k2 l0 x3_1 x4_1 (((rd_T27 l0 x6_2).f0).toList == ((rd_T27 l0 x4_1).f0).toList) (wrap64 (x6_2 + 1))) else (none)) else (none)) else (none)) = some r := by rw [if_neg (show ¬ (false = true) by decide)] at H; exact H
      clear H
      have H := H1
      clear H1
      by_cases c5 : 0 ≤ x6_2
      rotate_left
      ·rw [if_neg c5] at H
       exact absurd H (by simp)
      rw [if_pos c5] at H
      have c5b0 : decide (0 ≤ x6_2) = true := decide_eq_true c5
      clear c5
      by_cases c6 : 0 ≤ x4_1
      rotate_left
      ·rw [if_neg c6] at H
       exact absurd H (by simp)
      rw [if_pos c6] at H
      have c6b0 : decide (0 ≤ x4_1) = true := decide_eq_true c6
      clear c6
      by_cases c7 : x4_1 < (l0.length : Int)
      rotate_left
      ·rw [if_neg c7] at H
       exact absurd H (by simp)
      rw [if_pos c7] at H
      have c7b0 : decide (x4_1 < (l0.length : Int)) = true := decide_eq_true c7
      clear c7
      have H' := A0_ H
      clear H
      have p280 : 0 ≤ (x6_2 : Int) := wd_
      have q280 : x6_2 < (l0.length : Int) := wd_
      obtain ⟨ad280, A280_7, c280_7, e280, hx280_0, hx280_1, hx280_2, hx280_3, hx280_4, hx280_5, hx280_6, hx280_7, hl280_7, hi280_7⟩ := at_T27 HR0.out x6_2 p280 q280
      cases e280
      replace hx280_0 := (HB.out.cell (World.block_lt_of_cell? w _ hx280_0)).trans hx280_0
      replace hx280_1 := (HB.out.cell (World.block_lt_of_cell? w _ hx280_1)).trans hx280_1
      replace hx280_2 := (HB.out.cell (World.block_lt_of_cell? w _ hx280_2)).trans hx280_2
      replace hx280_3 := (HB.out.cell (World.block_lt_of_cell? w _ hx280_3)).trans hx280_3
      replace hx280_4 := (HB.out.cell (World.block_lt_of_cell? w _ hx280_4)).trans hx280_4
      replace hx280_5 := (HB.out.cell (World.block_lt_of_cell? w _ hx280_5)).trans hx280_5
      replace hx280_6 := (HB.out.cell (World.block_lt_of_cell? w _ hx280_6)).trans hx280_6
      replace hx280_7 := (HB.out.cell (World.block_lt_of_cell? w _ hx280_7)).trans hx280_7
      have HR280_7 := A0_ hi280_7
      have HC280_7 := A0_ hl280_7
      clear hi280_7 hl280_7
      replace p280 := eq_true p280
      replace q280 := eq_true q280
      have p281 : 0 ≤ (x4_1 : Int) := wd_
      have q281 : x4_1 < (l0.length : Int) := wd_
      obtain ⟨ad281, A281_7, c281_7, e281, hx281_0, hx281_1, hx281_2, hx281_3, hx281_4, hx281_5, hx281_6, hx281_7, hl281_7, hi281_7⟩ := at_T27 HR0.out x4_1 p281 q281
      obtain rfl : ad280 = ad281 := (by injection e281)
      replace hx281_0 := (HB.out.cell (World.block_lt_of_cell? w _ hx281_0)).trans hx281_0
      replace hx281_1 := (HB.out.cell (World.block_lt_of_cell? w _ hx281_1)).trans hx281_1
      replace hx281_2 := (HB.out.cell (World.block_lt_of_cell? w _ hx281_2)).trans hx281_2
      replace hx281_3 := (HB.out.cell (World.block_lt_of_cell? w _ hx281_3)).trans hx281_3
      replace hx281_4 := (HB.out.cell (World.block_lt_of_cell? w _ hx281_4)).trans hx281_4
      replace hx281_5 := (HB.out.cell (World.block_lt_of_cell? w _ hx281_5)).trans hx281_5
      replace hx281_6 := (HB.out.cell (World.block_lt_of_cell? w _ hx281_6)).trans hx281_6
      replace hx281_7 := (HB.out.cell (World.block_lt_of_cell? w _ hx281_7)).trans hx281_7
      have HR281_7 := A0_ hi281_7
      have HC281_7 := A0_ hl281_7
      clear hi281_7 hl281_7
      replace p281 := eq_true p281
      replace q281 := eq_true q281
      go_wp2
      repeat (go_quiet (fail); try go_wp2)
      go_roundg k2
      case measure => have := HK1.out; have := HK2.out; omega
      case rel => exact ⟨((((rd_T27 l0 x6_2).f0).toList == ((rd_T27 l0 x4_1).f0).toList)), (wrap64 (x6_2 + 1)), wr_, wr_, H', ⟨by have := HK1.out; have := HK2.out; omega⟩, ⟨wR_ HO_3.out⟩, ⟨wb_ HB.out⟩⟩
     rw [if_neg c3] at H
     have c3b0 : decide (x6_2 < (l0.length : Int)) = false := decide_eq_false c3
     clear c3
     by_cases c8 : x5_2 = true
     ·subst c8
      have H1 : (bindleref18_Order.l0 k2 l0 x3_1 (wrap64 (x4_1 + 1))) = some r := by rw [if_pos rfl] at H; exact H
      clear H
      have H := H1
      clear H1
      have H' := A0_ H
      clear H
      go_wp2
      repeat (go_quiet (fail); try go_wp2)
      go_roundg k2
      case measure => have := HK1.out; have := HK2.out; omega
      case rel => exact ⟨(x3_1), (wrap64 (x4_1 + 1)), wr_, H', ⟨by have := HK1.out; have := HK2.out; omega⟩, ⟨wR_ HO_3.out⟩, ⟨wb_ HB.out⟩⟩
     replace c8 := Bool.eq_false_iff.mpr c8
     subst c8
     have H1 : (if 0 ≤ x4_1 then (if x4_1 < (l0.length : Int) then (if x3_1.length < 8796093022208 then (bindleref18_Order.l0 k2 l0 (x3_1 ++ [(rd_T27 l0 x4_1).f0]) (wrap64 (x4_1 + 1))) else (none)) else (none)) else (none)) = some r := by rw [if_neg (show ¬ (false = true) by decide)] at H; exact H
     clear H
     have H := H1
     clear H1
     by_cases c9 : 0 ≤ x4_1
     rotate_left
     ·rw [if_neg c9] at H
      exact absurd H (by simp)
     rw [if_pos c9] at H
     have c9b0 : decide (0 ≤ x4_1) = true := decide_eq_true c9
     clear c9
     by_cases c10 : x4_1 < (l0.length : Int)
     rotate_left
     ·rw [if_neg c10] at H
      exact absurd H (by simp)
     rw [if_pos c10] at H
     have c10b0 : decide (x4_1 < (l0.length : Int)) = true := decide_eq_true c10
     clear c10
     by_cases c11 : x3_1.length < 8796093022208
     rotate_left
     ·rw [if_neg c11] at H
      exact absurd H (by simp)
     rw [if_pos c11] at H
     have LMc11 := A0_ c11
     clear c11
     obtain ⟨y283, hy283⟩ : ∃ y_ : List ByteArray, y_ = (x3_1 ++ [(rd_T27 l0 x4_1).f0]) := ⟨_, rfl⟩
     replace H : (bindleref18_Order.l0 k2 l0 y283 (wrap64 (x4_1 + 1))) = some r := by first | (rw [hy283]; with_reducible exact H) | (have H2_ := (Option.bind_some _ _).symm.trans H; rw [hy283]; with_reducible exact H2_) | (have H2_ := (Option.bind_some _ _).symm.trans H; with_reducible exact H2_) | with_reducible exact H | (rw [hy283]; exact H) | exact H
     have Ny283 := A0_ hy283
     clear hy283
     have H' := A0_ H
     clear H
     have p282 : 0 ≤ (x4_1 : Int) := wd_
     have q282 : x4_1 < (l0.length : Int) := wd_
     obtain ⟨ad282, A282_7, c282_7, e282, hx282_0, hx282_1, hx282_2, hx282_3, hx282_4, hx282_5, hx282_6, hx282_7, hl282_7, hi282_7⟩ := at_T27 HR0.out x4_1 p282 q282
     cases e282
     replace hx282_0 := (HB.out.cell (World.block_lt_of_cell? w _ hx282_0)).trans hx282_0
     replace hx282_1 := (HB.out.cell (World.block_lt_of_cell? w _ hx282_1)).trans hx282_1
     replace hx282_2 := (HB.out.cell (World.block_lt_of_cell? w _ hx282_2)).trans hx282_2
     replace hx282_3 := (HB.out.cell (World.block_lt_of_cell? w _ hx282_3)).trans hx282_3
     replace hx282_4 := (HB.out.cell (World.block_lt_of_cell? w _ hx282_4)).trans hx282_4
     replace hx282_5 := (HB.out.cell (World.block_lt_of_cell? w _ hx282_5)).trans hx282_5
     replace hx282_6 := (HB.out.cell (World.block_lt_of_cell? w _ hx282_6)).trans hx282_6
     replace hx282_7 := (HB.out.cell (World.block_lt_of_cell? w _ hx282_7)).trans hx282_7
     have HR282_7 := A0_ hi282_7
     have HC282_7 := A0_ hl282_7
     clear hi282_7 hl282_7
     replace p282 := eq_true p282
     replace q282 := eq_true q282
     go_wp2_with (first | ((with_reducible refine gate_builtin (b := .append) (xs := #[.tmp 37, .tmp 43]) rfl ?_); at_builtin; refine Kd.R_append Kd.string (w0 := w) w.heap.size rfl (.tmp 37) (.tmp 43) 47 9 (.string ⟨#[]⟩) 16 rfl Tryd.underlying47 info9 rfl (by decide) (by omega) u3 x3_1 ((rd_T27 l0 x4_1).f0) [.string ((rd_T27 l0 x4_1).f0)] (fun _ => True) (fun _ => False) rfl rfl ?aP (fun _ hk => hk.elim) ?aF ?aO ?aB ?aS ?aL ?_; (case aP => exact rfl); (case aB => exact (wb_ HB.out)); (case aF => exact (fun _ _ => trivial)); (case aO => exact (wR_ HO_3.out)); (case aS => exact (below_size (wb_ HB.out))); (case aL => have := LMc11.out; omega); intro v284 w12 ho hb hg hat; rw [← Ny283.out] at ho; have n0_ := A0_ (hb); have n1_ := A0_ (ho); clear HB; clear HO_3; have HB := n0_; have HO285 := n1_; clear n0_ n1_; clear ho hb hg hat))
     repeat (go_quiet (first | ((with_reducible refine gate_builtin (b := .append) (xs := #[.tmp 37, .tmp 43]) rfl ?_); at_builtin; refine Kd.R_append Kd.string (w0 := w) w.heap.size rfl (.tmp 37) (.tmp 43) 47 9 (.string ⟨#[]⟩) 16 rfl Tryd.underlying47 info9 rfl (by decide) (by omega) u3 x3_1 ((rd_T27 l0 x4_1).f0) [.string ((rd_T27 l0 x4_1).f0)] (fun _ => True) (fun _ => False) rfl rfl ?aP (fun _ hk => hk.elim) ?aF ?aO ?aB ?aS ?aL ?_; (case aP => exact rfl); (case aB => exact (wb_ HB.out)); (case aF => exact (fun _ _ => trivial)); (case aO => exact (wR_ HO_3.out)); (case aS => exact (below_size (wb_ HB.out))); (case aL => have := LMc11.out; omega); intro v284 w12 ho hb hg hat; rw [← Ny283.out] at ho; have n0_ := A0_ (hb); have n1_ := A0_ (ho); clear HB; clear HO_3; have HB := n0_; have HO285 := n1_; clear n0_ n1_; clear ho hb hg hat)); try go_wp2_with (first | ((with_reducible refine gate_builtin (b := .append) (xs := #[.tmp 37, .tmp 43]) rfl ?_); at_builtin; refine Kd.R_append Kd.string (w0 := w) w.heap.size rfl (.tmp 37) (.tmp 43) 47 9 (.string ⟨#[]⟩) 16 rfl Tryd.underlying47 info9 rfl (by decide) (by omega) u3 x3_1 ((rd_T27 l0 x4_1).f0) [.string ((rd_T27 l0 x4_1).f0)] (fun _ => True) (fun _ => False) rfl rfl ?aP (fun _ hk => hk.elim) ?aF ?aO ?aB ?aS ?aL ?_; (case aP => exact rfl); (case aB => exact (wb_ HB.out)); (case aF => exact (fun _ _ => trivial)); (case aO => exact (wR_ HO_3.out)); (case aS => exact (below_size (wb_ HB.out))); (case aL => have := LMc11.out; omega); intro v284 w12 ho hb hg hat; rw [← Ny283.out] at ho; have n0_ := A0_ (hb); have n1_ := A0_ (ho); clear HB; clear HO_3; have HB := n0_; have HO285 := n1_; clear n0_ n1_; clear ho hb hg hat)))
     go_roundg k2
     case measure => have := HK1.out; have := HK2.out; omega
     case rel => exact ⟨(y283), (wrap64 (x4_1 + 1)), wr_, H', ⟨by have := HK1.out; have := HK2.out; omega⟩, ⟨wR_ HO285.out⟩, ⟨wb_ HB.out⟩⟩
end Go.Proofs.YtiijbmaamblidaaDoor.Print

namespace Go.Proofs.YtiijbmaamblidaaDoor.Print
open Go.RowKit Go.Proofs.YtiijbmaamblidaaDoorW.PrintWords Go.Proofs.YtiijbmaamblidaaDoorW.PrintLast Go.Proofs.YtiijbmaamblidaaDoorW.PrintMore
attribute [local go_sem] max2_int min2_int max_two min_two max_three min_three max_four min_four   -- for this text's walks alone
set_option linter.unusedVariables false
set_option linter.unusedSimpArgs false
def bindlelaw18_FlatOrders.l0 : Nat → List ByteArray → List ByteArray → Int → Option (Bool)
 | 0, _, _, _ => none
 | k + 1, x3, x4, x5 => if x5 < (x3.length : Int) then (if 0 ≤ x5 then (if x5 < (x4.length : Int) then (if (rdOf ByteArray.empty x3 x5).toList = (rdOf ByteArray.empty x4 x5).toList then (bindlelaw18_FlatOrders.l0 k x3 x4 (wrap64 (x5 + 1))) else (some false)) else (none)) else (none)) else ((bindlelaw18_answers.f).bind fun t296 => (some t296))
def bindlelaw18_FlatOrders.f (k : Nat) (l0 : List (S27)) : Option (Bool) := (bindlelaw18_light.f k l0).bind fun t286 => (if t286 = true then ((flat_Order.f l0).bind fun t288 => ((bindleref18_Order.f k l0).bind fun t291 => (if (t288.length : Int) = (t291.length : Int) then (bindlelaw18_FlatOrders.l0 k t288 t291 0) else (some false)))) else ((bindlelaw18_answers.f).bind fun t287 => (some t287)))
set_option maxHeartbeats 8000000 in
set_option maxRecDepth 100000 in
theorem bindlelaw18_FlatOrders.calls (k : Nat) (A0 : Option Addr) (c0 : Nat) (l0 : List (S27)) (r : Bool) (w : World) (hT : Aside0 (Tabs w)) (hr0 : Kd.C k27 w A0 l0.length l0) (hc0 : l0.length ≤ c0) (h : bindlelaw18_FlatOrders.f k l0 = some r) :
  Calls Tryd.prog 6 #[.slice A0 l0.length c0] w fun e w' => e = .returned (.bool r) ∧ Below w.heap.size w w' := by
 have HR0 := A0_ hr0
 have HC0 := A0_ hc0
 clear hr0 hc0
 have HB := A0_ (Below.refl w.heap.size w)
 have H : ((bindlelaw18_light.f k l0).bind fun t286 => (if t286 = true then ((flat_Order.f l0).bind fun t288 => ((bindleref18_Order.f k l0).bind fun t291 => (if (t288.length : Int) = (t291.length : Int) then (bindlelaw18_FlatOrders.l0 k t288 t291 0) else (some false)))) else ((bindlelaw18_answers.f).bind fun t287 => (some t287)))) = some r := h
 clear h
 replace H := Option.bind_eq_some_iff.mp H
 obtain ⟨t286, A20, H⟩ := H
 replace H : (if t286 = true then ((flat_Order.f l0).bind fun t288 => ((bindleref18_Order.f k l0).bind fun t291 => (if (t288.length : Int) = (t291.length : Int) then (bindlelaw18_FlatOrders.l0 k t288 t291 0) else (some false)))) else ((bindlelaw18_answers.f).bind fun t287 => (some t287))) = some r := H
 have A2 := A0_ A20
 clear A20
 by_cases c3 : t286 = true
 rotate_left
 ·replace c3 := Bool.eq_false_iff.mpr c3
  subst c3
  have H1 : ((bindlelaw18_answers.f).bind fun t287 => (some t287)) = some r := by rw [if_neg (show ¬ (false = true) by decide)] at H; exact H
  clear H
  have H := H1
  clear H1
  replace H := Option.bind_eq_some_iff.mp H
  obtain ⟨t287, A210, H⟩ := H
  replace H : (some t287) = some r := H
  have A21 := A0_ A210
  clear A210
  obtain rfl := Option.some.inj H
  go_enter Tryd.func6, Tryd.ntmps6
  go_wp2_with (first | (go_at_call 14; (with_reducible refine (bindlelaw18_light.calls k _ _ l0 false _ ?side1 ?side2 A2.out).mono ?_); (case side1 => exact wc_ HR0.out); (case side2 => exact HC0.out); rintro e w' ⟨rfl, ⟨nd, rfl⟩⟩; (try first | exact ⟨rfl, _, World.drewN_drewN _ _ _⟩ | exact ⟨rfl, _, Eq.trans (World.drewN_drewN _ _ _) (congrArg (World.drewN _) (Nat.add_assoc _ _ _))⟩)) | (go_at_call 15; (with_reducible refine (bindlelaw18_answers.calls  t287 _ ?side1 A21.out).mono ?_); (case side1 => exact A0_ (Tabs.below hT.out (wb_ HB.out))); rintro e w22 ⟨rfl, hb⟩; have n0_ := A0_ (below_step (wb_ HB.out) hb); clear HB; have HB := n0_; clear n0_; (try clear hb); (try clear hb2); (try clear hk); (try clear hi)))
  repeat (go_quiet (first | (go_at_call 14; (with_reducible refine (bindlelaw18_light.calls k _ _ l0 false _ ?side1 ?side2 A2.out).mono ?_); (case side1 => exact wc_ HR0.out); (case side2 => exact HC0.out); rintro e w' ⟨rfl, ⟨nd, rfl⟩⟩; (try first | exact ⟨rfl, _, World.drewN_drewN _ _ _⟩ | exact ⟨rfl, _, Eq.trans (World.drewN_drewN _ _ _) (congrArg (World.drewN _) (Nat.add_assoc _ _ _))⟩)) | (go_at_call 15; (with_reducible refine (bindlelaw18_answers.calls  t287 _ ?side1 A21.out).mono ?_); (case side1 => exact A0_ (Tabs.below hT.out (wb_ HB.out))); rintro e w22 ⟨rfl, hb⟩; have n0_ := A0_ (below_step (wb_ HB.out) hb); clear HB; have HB := n0_; clear n0_; (try clear hb); (try clear hb2); (try clear hk); (try clear hi))); try go_wp2_with (first | (go_at_call 14; (with_reducible refine (bindlelaw18_light.calls k _ _ l0 false _ ?side1 ?side2 A2.out).mono ?_); (case side1 => exact wc_ HR0.out); (case side2 => exact HC0.out); rintro e w' ⟨rfl, ⟨nd, rfl⟩⟩; (try first | exact ⟨rfl, _, World.drewN_drewN _ _ _⟩ | exact ⟨rfl, _, Eq.trans (World.drewN_drewN _ _ _) (congrArg (World.drewN _) (Nat.add_assoc _ _ _))⟩)) | (go_at_call 15; (with_reducible refine (bindlelaw18_answers.calls  t287 _ ?side1 A21.out).mono ?_); (case side1 => exact A0_ (Tabs.below hT.out (wb_ HB.out))); rintro e w22 ⟨rfl, hb⟩; have n0_ := A0_ (below_step (wb_ HB.out) hb); clear HB; have HB := n0_; clear n0_; (try clear hb); (try clear hb2); (try clear hk); (try clear hi))))
  go_ret
  exact ⟨we_, wb_ HB.out⟩
 subst c3
 have H1 : ((flat_Order.f l0).bind fun t288 => ((bindleref18_Order.f k l0).bind fun t291 => (if (t288.length : Int) = (t291.length : Int) then (bindlelaw18_FlatOrders.l0 k t288 t291 0) else (some false)))) = some r := by rw [if_pos rfl] at H; exact H
 clear H
 have H := H1
 clear H1
 replace H := Option.bind_eq_some_iff.mp H
 obtain ⟨t288, A40, H⟩ := H
 replace H : ((bindleref18_Order.f k l0).bind fun t291 => (if (t288.length : Int) = (t291.length : Int) then (bindlelaw18_FlatOrders.l0 k t288 t291 0) else (some false))) = some r := H
 have A4 := A0_ A40
 clear A40
 replace H := Option.bind_eq_some_iff.mp H
 obtain ⟨t291, A50, H⟩ := H
 replace H : (if (t288.length : Int) = (t291.length : Int) then (bindlelaw18_FlatOrders.l0 k t288 t291 0) else (some false)) = some r := H
 have A5 := A0_ A50
 clear A50
 by_cases c6 : (t288.length : Int) = (t291.length : Int)
 rotate_left
 ·rw [if_neg c6] at H
  have c6b0 : ((t288.length : Int) == (t291.length : Int)) = false := beq_eq_false_iff_ne.mpr c6
  have c6b1 : ((t288.length : Int) != (t291.length : Int)) = true := bne_iff_ne.mpr c6
  have c6b2 : (t288.length == t291.length) = false := by first | simpa using c6 | (simp at c6 ⊢; omega)
  obtain rfl := Option.some.inj H
  go_enter Tryd.func6, Tryd.ntmps6
  go_wp2_with (first | (go_at_call 14; (with_reducible refine (bindlelaw18_light.calls k _ _ l0 true _ ?side1 ?side2 A2.out).mono ?_); (case side1 => exact wc_ HR0.out); (case side2 => exact HC0.out); rintro e w' ⟨rfl, ⟨nd, rfl⟩⟩; (try first | exact ⟨rfl, _, World.drewN_drewN _ _ _⟩ | exact ⟨rfl, _, Eq.trans (World.drewN_drewN _ _ _) (congrArg (World.drewN _) (Nat.add_assoc _ _ _))⟩)) | (go_at_call 17; (with_reducible refine (flat_Order.calls _ _ l0 t288 _ ?side1 ?side2 A4.out).mono ?_); (case side1 => exact wc_ HR0.out); (case side2 => exact HC0.out); rintro e w17 ⟨v289, rfl, ho0, hb⟩; have n0_ := A0_ (Kd.R_lower ho0 (below_size (wb_ HB.out))); have n1_ := A0_ (below_step (wb_ HB.out) hb); clear HB; have HO290 := n0_; have HB := n1_; clear n0_ n1_; (try clear hb); (try clear hb2); (try clear hk); (try clear hi); (try clear ho0)) | (go_at_call 18; (with_reducible refine (bindleref18_Order.calls k _ _ l0 t291 _ ?side1 ?side2 A5.out).mono ?_); (case side1 => exact wc_ (Kd.C_below HR0.out HB.out)); (case side2 => exact HC0.out); rintro e w18 ⟨v292, rfl, ho0, hb⟩; have n0_ := A0_ (Kd.R_elder' (wR_ HO290.out) (Kd.R_base ho0) hb); have n1_ := A0_ (Kd.R_lower (Kd.R_new' ho0 (Kd.R_lt (wR_ HO290.out))) (below_size (wb_ HB.out))); have n2_ := A0_ (below_step (wb_ HB.out) hb); clear HO290; clear HB; have HO290 := n0_; have HO293 := n1_; have HB := n2_; clear n0_ n1_ n2_; (try clear hb); (try clear hb2); (try clear hk); (try clear hi); (try clear ho0); obtain ⟨Ao19, co19, eo19⟩ := Kd.R_slice HO290.out; subst eo19; obtain ⟨Ao20, co20, eo20⟩ := Kd.R_slice HO293.out; subst eo20))
  repeat (go_quiet (first | (go_at_call 14; (with_reducible refine (bindlelaw18_light.calls k _ _ l0 true _ ?side1 ?side2 A2.out).mono ?_); (case side1 => exact wc_ HR0.out); (case side2 => exact HC0.out); rintro e w' ⟨rfl, ⟨nd, rfl⟩⟩; (try first | exact ⟨rfl, _, World.drewN_drewN _ _ _⟩ | exact ⟨rfl, _, Eq.trans (World.drewN_drewN _ _ _) (congrArg (World.drewN _) (Nat.add_assoc _ _ _))⟩)) | (go_at_call 17; (with_reducible refine (flat_Order.calls _ _ l0 t288 _ ?side1 ?side2 A4.out).mono ?_); (case side1 => exact wc_ HR0.out); (case side2 => exact HC0.out); rintro e w17 ⟨v289, rfl, ho0, hb⟩; have n0_ := A0_ (Kd.R_lower ho0 (below_size (wb_ HB.out))); have n1_ := A0_ (below_step (wb_ HB.out) hb); clear HB; have HO290 := n0_; have HB := n1_; clear n0_ n1_; (try clear hb); (try clear hb2); (try clear hk); (try clear hi); (try clear ho0)) | (go_at_call 18; (with_reducible refine (bindleref18_Order.calls k _ _ l0 t291 _ ?side1 ?side2 A5.out).mono ?_); (case side1 => exact wc_ (Kd.C_below HR0.out HB.out)); (case side2 => exact HC0.out); rintro e w18 ⟨v292, rfl, ho0, hb⟩; have n0_ := A0_ (Kd.R_elder' (wR_ HO290.out) (Kd.R_base ho0) hb); have n1_ := A0_ (Kd.R_lower (Kd.R_new' ho0 (Kd.R_lt (wR_ HO290.out))) (below_size (wb_ HB.out))); have n2_ := A0_ (below_step (wb_ HB.out) hb); clear HO290; clear HB; have HO290 := n0_; have HO293 := n1_; have HB := n2_; clear n0_ n1_ n2_; (try clear hb); (try clear hb2); (try clear hk); (try clear hi); (try clear ho0); obtain ⟨Ao19, co19, eo19⟩ := Kd.R_slice HO290.out; subst eo19; obtain ⟨Ao20, co20, eo20⟩ := Kd.R_slice HO293.out; subst eo20)); try go_wp2_with (first | (go_at_call 14; (with_reducible refine (bindlelaw18_light.calls k _ _ l0 true _ ?side1 ?side2 A2.out).mono ?_); (case side1 => exact wc_ HR0.out); (case side2 => exact HC0.out); rintro e w' ⟨rfl, ⟨nd, rfl⟩⟩; (try first | exact ⟨rfl, _, World.drewN_drewN _ _ _⟩ | exact ⟨rfl, _, Eq.trans (World.drewN_drewN _ _ _) (congrArg (World.drewN _) (Nat.add_assoc _ _ _))⟩)) | (go_at_call 17; (with_reducible refine (flat_Order.calls _ _ l0 t288 _ ?side1 ?side2 A4.out).mono ?_); (case side1 => exact wc_ HR0.out); (case side2 => exact HC0.out); rintro e w17 ⟨v289, rfl, ho0, hb⟩; have n0_ := A0_ (Kd.R_lower ho0 (below_size (wb_ HB.out))); have n1_ := A0_ (below_step (wb_ HB.out) hb); clear HB; have HO290 := n0_; have HB := n1_; clear n0_ n1_; (try clear hb); (try clear hb2); (try clear hk); (try clear hi); (try clear ho0)) | (go_at_call 18; (with_reducible refine (bindleref18_Order.calls k _ _ l0 t291 _ ?side1 ?side2 A5.out).mono ?_); (case side1 => exact wc_ (Kd.C_below HR0.out HB.out)); (case side2 => exact HC0.out); rintro e w18 ⟨v292, rfl, ho0, hb⟩; have n0_ := A0_ (Kd.R_elder' (wR_ HO290.out) (Kd.R_base ho0) hb); have n1_ := A0_ (Kd.R_lower (Kd.R_new' ho0 (Kd.R_lt (wR_ HO290.out))) (below_size (wb_ HB.out))); have n2_ := A0_ (below_step (wb_ HB.out) hb); clear HO290; clear HB; have HO290 := n0_; have HO293 := n1_; have HB := n2_; clear n0_ n1_ n2_; (try clear hb); (try clear hb2); (try clear hk); (try clear hi); (try clear ho0); obtain ⟨Ao19, co19, eo19⟩ := Kd.R_slice HO290.out; subst eo19; obtain ⟨Ao20, co20, eo20⟩ := Kd.R_slice HO293.out; subst eo20)))
  go_ret
  exact ⟨we_, wb_ HB.out⟩
 rw [if_pos c6] at H
 have c6b0 : ((t288.length : Int) == (t291.length : Int)) = true := beq_iff_eq.mpr c6
 have c6b1 : ((t288.length : Int) != (t291.length : Int)) = false := bne_eq_false_iff_eq.mpr c6
 have c6b2 : (t288.length == t291.length) = true := by first | simpa using c6 | (simp at c6 ⊢; omega)
 clear c6
 have H' := A0_ H
 clear H
 go_enter Tryd.func6, Tryd.ntmps6
 go_wp2_with (first | (go_at_call 14; (with_reducible refine (bindlelaw18_light.calls k _ _ l0 true _ ?side1 ?side2 A2.out).mono ?_); (case side1 => exact wc_ HR0.out); (case side2 => exact HC0.out); rintro e w' ⟨rfl, ⟨nd, rfl⟩⟩; (try first | exact ⟨rfl, _, World.drewN_drewN _ _ _⟩ | exact ⟨rfl, _, Eq.trans (World.drewN_drewN _ _ _) (congrArg (World.drewN _) (Nat.add_assoc _ _ _))⟩)) | (go_at_call 17; (with_reducible refine (flat_Order.calls _ _ l0 t288 _ ?side1 ?side2 A4.out).mono ?_); (case side1 => exact wc_ HR0.out); (case side2 => exact HC0.out); rintro e w7 ⟨v289, rfl, ho0, hb⟩; have n0_ := A0_ (Kd.R_lower ho0 (below_size (wb_ HB.out))); have n1_ := A0_ (below_step (wb_ HB.out) hb); clear HB; have HO290 := n0_; have HB := n1_; clear n0_ n1_; (try clear hb); (try clear hb2); (try clear hk); (try clear hi); (try clear ho0)) | (go_at_call 18; (with_reducible refine (bindleref18_Order.calls k _ _ l0 t291 _ ?side1 ?side2 A5.out).mono ?_); (case side1 => exact wc_ (Kd.C_below HR0.out HB.out)); (case side2 => exact HC0.out); rintro e w8 ⟨v292, rfl, ho0, hb⟩; have n0_ := A0_ (Kd.R_elder' (wR_ HO290.out) (Kd.R_base ho0) hb); have n1_ := A0_ (Kd.R_lower (Kd.R_new' ho0 (Kd.R_lt (wR_ HO290.out))) (below_size (wb_ HB.out))); have n2_ := A0_ (below_step (wb_ HB.out) hb); clear HO290; clear HB; have HO290 := n0_; have HO293 := n1_; have HB := n2_; clear n0_ n1_ n2_; (try clear hb); (try clear hb2); (try clear hk); (try clear hi); (try clear ho0); obtain ⟨Ao9, co9, eo9⟩ := Kd.R_slice HO290.out; subst eo9; obtain ⟨Ao10, co10, eo10⟩ := Kd.R_slice HO293.out; subst eo10))
 repeat (go_quiet (first | (go_at_call 14; (with_reducible refine (bindlelaw18_light.calls k _ _ l0 true _ ?side1 ?side2 A2.out).mono ?_); (case side1 => exact wc_ HR0.out); (case side2 => exact HC0.out); rintro e w' ⟨rfl, ⟨nd, rfl⟩⟩; (try first | exact ⟨rfl, _, World.drewN_drewN _ _ _⟩ | exact ⟨rfl, _, Eq.trans (World.drewN_drewN _ _ _) (congrArg (World.drewN _) (Nat.add_assoc _ _ _))⟩)) | (go_at_call 17; (with_reducible refine (flat_Order.calls _ _ l0 t288 _ ?side1 ?side2 A4.out).mono ?_); (case side1 => exact wc_ HR0.out); (case side2 => exact HC0.out); rintro e w7 ⟨v289, rfl, ho0, hb⟩; have n0_ := A0_ (Kd.R_lower ho0 (below_size (wb_ HB.out))); have n1_ := A0_ (below_step (wb_ HB.out) hb); clear HB; have HO290 := n0_; have HB := n1_; clear n0_ n1_; (try clear hb); (try clear hb2); (try clear hk); (try clear hi); (try clear ho0)) | (go_at_call 18; (with_reducible refine (bindleref18_Order.calls k _ _ l0 t291 _ ?side1 ?side2 A5.out).mono ?_); (case side1 => exact wc_ (Kd.C_below HR0.out HB.out)); (case side2 => exact HC0.out); rintro e w8 ⟨v292, rfl, ho0, hb⟩; have n0_ := A0_ (Kd.R_elder' (wR_ HO290.out) (Kd.R_base ho0) hb); have n1_ := A0_ (Kd.R_lower (Kd.R_new' ho0 (Kd.R_lt (wR_ HO290.out))) (below_size (wb_ HB.out))); have n2_ := A0_ (below_step (wb_ HB.out) hb); clear HO290; clear HB; have HO290 := n0_; have HO293 := n1_; have HB := n2_; clear n0_ n1_ n2_; (try clear hb); (try clear hb2); (try clear hk); (try clear hi); (try clear ho0); obtain ⟨Ao9, co9, eo9⟩ := Kd.R_slice HO290.out; subst eo9; obtain ⟨Ao10, co10, eo10⟩ := Kd.R_slice HO293.out; subst eo10)); try go_wp2_with (first | (go_at_call 14; (with_reducible refine (bindlelaw18_light.calls k _ _ l0 true _ ?side1 ?side2 A2.out).mono ?_); (case side1 => exact wc_ HR0.out); (case side2 => exact HC0.out); rintro e w' ⟨rfl, ⟨nd, rfl⟩⟩; (try first | exact ⟨rfl, _, World.drewN_drewN _ _ _⟩ | exact ⟨rfl, _, Eq.trans (World.drewN_drewN _ _ _) (congrArg (World.drewN _) (Nat.add_assoc _ _ _))⟩)) | (go_at_call 17; (with_reducible refine (flat_Order.calls _ _ l0 t288 _ ?side1 ?side2 A4.out).mono ?_); (case side1 => exact wc_ HR0.out); (case side2 => exact HC0.out); rintro e w7 ⟨v289, rfl, ho0, hb⟩; have n0_ := A0_ (Kd.R_lower ho0 (below_size (wb_ HB.out))); have n1_ := A0_ (below_step (wb_ HB.out) hb); clear HB; have HO290 := n0_; have HB := n1_; clear n0_ n1_; (try clear hb); (try clear hb2); (try clear hk); (try clear hi); (try clear ho0)) | (go_at_call 18; (with_reducible refine (bindleref18_Order.calls k _ _ l0 t291 _ ?side1 ?side2 A5.out).mono ?_); (case side1 => exact wc_ (Kd.C_below HR0.out HB.out)); (case side2 => exact HC0.out); rintro e w8 ⟨v292, rfl, ho0, hb⟩; have n0_ := A0_ (Kd.R_elder' (wR_ HO290.out) (Kd.R_base ho0) hb); have n1_ := A0_ (Kd.R_lower (Kd.R_new' ho0 (Kd.R_lt (wR_ HO290.out))) (below_size (wb_ HB.out))); have n2_ := A0_ (below_step (wb_ HB.out) hb); clear HO290; clear HB; have HO290 := n0_; have HO293 := n1_; have HB := n2_; clear n0_ n1_ n2_; (try clear hb); (try clear hb2); (try clear hk); (try clear hi); (try clear ho0); obtain ⟨Ao9, co9, eo9⟩ := Kd.R_slice HO290.out; subst eo9; obtain ⟨Ao10, co10, eo10⟩ := Kd.R_slice HO293.out; subst eo10)))
 go_loopg [5] k (fun kq v5 w' => ∃ (x5_1 : Int), v5 = .int .i64 x5_1 ∧ Aside0 (bindlelaw18_FlatOrders.l0 kq t288 t291 x5_1 = some r) ∧ Aside0 (kq ≤ k) ∧ Aside0 (Kd.R Kd.string 9 w' w.heap.size (fun k_ => some k_ ≠ ((.slice Ao10 t291.length co10) : Value).ownBlock) (.slice Ao9 t288.length co9) t288) ∧ Aside0 (Kd.R Kd.string 9 w' w.heap.size (fun k_ => some k_ ≠ ((.slice Ao9 t288.length co9) : Value).ownBlock) (.slice Ao10 t291.length co10) t291) ∧ Aside0 (Below w.heap.size w w'))
 case atStart => exact ⟨(0), wr_, H', ⟨Nat.le_refl _⟩, ⟨by (with_reducible repeat (first | apply Ra_ | apply RN_ | apply R1_)); exact Kd.R_mono HO290.out (fun _ hk => hk.2)⟩, ⟨by (with_reducible repeat (first | apply Ra_ | apply RN_ | apply R1_)); exact Kd.R_mono HO293.out (fun _ hk => hk.2)⟩, ⟨wb_ HB.out⟩⟩
 case round =>
  clear H'
  try clear p2
  try clear c3
  try clear c6
  try clear c6b0
  try clear c6b1
  try clear c6b2
  obtain ⟨x5_1, rfl, HA, HK1, HO_3, HO_4, HB⟩ := hrel
  cases gk with
  | zero => exact absurd HA.out (by simp [bindlelaw18_FlatOrders.l0])
  | succ k1 =>
   have H := HA.out
   clear HA
   simp only [bindlelaw18_FlatOrders.l0] at H
   by_cases c11 : x5_1 < (t288.length : Int)
   rotate_left
   ·rw [if_neg c11] at H
    have c11b0 : decide (x5_1 < (t288.length : Int)) = false := decide_eq_false c11
    clear c11
    replace H := Option.bind_eq_some_iff.mp H
    obtain ⟨t296, A150, H⟩ := H
    replace H : (some t296) = some r := H
    have A15 := A0_ A150
    clear A150
    obtain rfl := Option.some.inj H
    go_wp2_with (first | (go_at_call 15; (with_reducible refine (bindlelaw18_answers.calls  t296 _ ?side1 A15.out).mono ?_); (case side1 => exact A0_ (Tabs.below hT.out (wb_ HB.out))); rintro e w16 ⟨rfl, hb⟩; have n0_ := A0_ (Rb_ (wR_ HO_3.out) hb); have n1_ := A0_ (Rb_ (wR_ HO_4.out) hb); have n2_ := A0_ (below_step (wb_ HB.out) hb); clear HO_3; clear HO_4; clear HB; have HO_3 := n0_; have HO_4 := n1_; have HB := n2_; clear n0_ n1_ n2_; (try clear hb); (try clear hb2); (try clear hk); (try clear hi)))
    repeat (go_quiet (first | (go_at_call 15; (with_reducible refine (bindlelaw18_answers.calls  t296 _ ?side1 A15.out).mono ?_); (case side1 => exact A0_ (Tabs.below hT.out (wb_ HB.out))); rintro e w16 ⟨rfl, hb⟩; have n0_ := A0_ (Rb_ (wR_ HO_3.out) hb); have n1_ := A0_ (Rb_ (wR_ HO_4.out) hb); have n2_ := A0_ (below_step (wb_ HB.out) hb); clear HO_3; clear HO_4; clear HB; have HO_3 := n0_; have HO_4 := n1_; have HB := n2_; clear n0_ n1_ n2_; (try clear hb); (try clear hb2); (try clear hk); (try clear hi))); try go_wp2_with (first | (go_at_call 15; (with_reducible refine (bindlelaw18_answers.calls  t296 _ ?side1 A15.out).mono ?_); (case side1 => exact A0_ (Tabs.below hT.out (wb_ HB.out))); rintro e w16 ⟨rfl, hb⟩; have n0_ := A0_ (Rb_ (wR_ HO_3.out) hb); have n1_ := A0_ (Rb_ (wR_ HO_4.out) hb); have n2_ := A0_ (below_step (wb_ HB.out) hb); clear HO_3; clear HO_4; clear HB; have HO_3 := n0_; have HO_4 := n1_; have HB := n2_; clear n0_ n1_ n2_; (try clear hb); (try clear hb2); (try clear hk); (try clear hi))))
    go_ret
    exact ⟨we_, wb_ HB.out⟩
   rw [if_pos c11] at H
   have c11b0 : decide (x5_1 < (t288.length : Int)) = true := decide_eq_true c11
   clear c11
   by_cases c12 : 0 ≤ x5_1
   rotate_left
   ·rw [if_neg c12] at H
    exact absurd H (by simp)
   rw [if_pos c12] at H
   have c12b0 : decide (0 ≤ x5_1) = true := decide_eq_true c12
   clear c12
   by_cases c13 : x5_1 < (t291.length : Int)
   rotate_left
   ·rw [if_neg c13] at H
    exact absurd H (by simp)
   rw [if_pos c13] at H
   have c13b0 : decide (x5_1 < (t291.length : Int)) = true := decide_eq_true c13
   clear c13
   by_cases c14 : (rdOf ByteArray.empty t288 x5_1).toList = (rdOf ByteArray.empty t291 x5_1).toList
   rotate_left
   ·rw [if_neg c14] at H
    have c14b0 : ((rdOf ByteArray.empty t288 x5_1).toList == (rdOf ByteArray.empty t291 x5_1).toList) = false := beq_eq_false_iff_ne.mpr c14
    have c14b1 : ((rdOf ByteArray.empty t288 x5_1).toList != (rdOf ByteArray.empty t291 x5_1).toList) = true := bne_iff_ne.mpr c14
    obtain rfl := Option.some.inj H
    have p294 : 0 ≤ (x5_1 : Int) := wd_
    have q294 : x5_1 < (t288.length : Int) := wd_
    obtain ⟨ad294, e294, hx294_0⟩ := Kd.at_string (Kd.R_reads' HO_3.out).2.2 x5_1 p294 q294
    cases e294
    replace p294 := eq_true p294
    replace q294 := eq_true q294
    have p295 : 0 ≤ (x5_1 : Int) := wd_
    have q295 : x5_1 < (t291.length : Int) := wd_
    obtain ⟨ad295, e295, hx295_0⟩ := Kd.at_string (Kd.R_reads' HO_4.out).2.2 x5_1 p295 q295
    cases e295
    replace p295 := eq_true p295
    replace q295 := eq_true q295
    go_wp2
    repeat (go_quiet (fail); try go_wp2)
    go_ret
    exact ⟨we_, wb_ HB.out⟩
   rw [if_pos c14] at H
   have c14b0 : ((rdOf ByteArray.empty t288 x5_1).toList == (rdOf ByteArray.empty t291 x5_1).toList) = true := beq_iff_eq.mpr c14
   have c14b1 : ((rdOf ByteArray.empty t288 x5_1).toList != (rdOf ByteArray.empty t291 x5_1).toList) = false := bne_eq_false_iff_eq.mpr c14
   clear c14
   have H' := A0_ H
   clear H
   have p294 : 0 ≤ (x5_1 : Int) := wd_
   have q294 : x5_1 < (t288.length : Int) := wd_
   obtain ⟨ad294, e294, hx294_0⟩ := Kd.at_string (Kd.R_reads' HO_3.out).2.2 x5_1 p294 q294
   cases e294
   replace p294 := eq_true p294
   replace q294 := eq_true q294
   have p295 : 0 ≤ (x5_1 : Int) := wd_
   have q295 : x5_1 < (t291.length : Int) := wd_
   obtain ⟨ad295, e295, hx295_0⟩ := Kd.at_string (Kd.R_reads' HO_4.out).2.2 x5_1 p295 q295
   cases e295
   replace p295 := eq_true p295
   replace q295 := eq_true q295
   go_wp2
   repeat (go_quiet (fail); try go_wp2)
   go_roundg k1
   case measure => have := HK1.out; omega
   case rel => exact ⟨(wrap64 (x5_1 + 1)), wr_, H', ⟨by have := HK1.out; omega⟩, ⟨wR_ HO_3.out⟩, ⟨wR_ HO_4.out⟩, ⟨wb_ HB.out⟩⟩
end Go.Proofs.YtiijbmaamblidaaDoor.Print

namespace Go.Proofs.YtiijbmaamblidaaDoor
open Go.RowKit Go.Proofs.YtiijbmaamblidaaDoor.Print Go.Proofs.YtiijbmaamblidaaDoorW.PrintWords
set_option linter.unusedVariables false
theorem pathIn_drop {l : List Mem} {j : Nat} (h : j < l.length) (p : ByteArray) : pathIn (l.drop j) p = (decide (l[j].f0.toList = p.toList) || pathIn (l.drop (j + 1)) p) := by
 rw [List.drop_eq_getElem_cons h]
 unfold pathIn
 rw [List.any_cons]
theorem rorder_inner (l : List Mem) (h60 : l.length ≤ 60) (o R : List ByteArray) (i : Nat) (hi : i < l.length) (ho : o.length ≤ 60)
  (hyes : Ev (fun k => bindleref18_Order.l0 k l o ((i + 1 : Nat) : Int)) (o ++ orderF (l.drop (i + 1)))) (hno : Ev (fun k => bindleref18_Order.l0 k l (o ++ [l[i].f0]) ((i + 1 : Nat) : Int)) ((o ++ [l[i].f0]) ++ orderF (l.drop (i + 1)))) :
  ∀ (d j : Nat) (b : Bool), j + d = l.length → Ev (fun k => bindleref18_Order.l1 k l o (i : Int) b (j : Int)) (if (b || pathIn (l.drop j) l[i].f0) = true then o ++ orderF (l.drop (i + 1)) else (o ++ [l[i].f0]) ++ orderF (l.drop (i + 1))) := by
 intro d
 induction d with
 | zero =>
  intro j b hj
  have e : pathIn (l.drop j) l[i].f0 = false := by rw [List.drop_of_length_le (by omega)]; rfl
  rw [e, Bool.or_false]
  cases b with
  | true =>
   rw [if_pos rfl]
   refine Ev.step (fun k => ?_) hyes
   rw [bindleref18_Order.l1, if_neg (by omega), if_pos rfl, show wrap64 ((i : Int) + 1) = ((i + 1 : Nat) : Int) by unfold wrap64; omega]
  | false =>
   rw [if_neg (by decide)]
   refine Ev.step (fun k => ?_) hno
   rw [bindleref18_Order.l1, if_neg (by omega), if_neg (by decide), if_pos (by omega), if_pos (by omega), if_pos (by omega), rdM_n l i hi, show wrap64 ((i : Int) + 1) = ((i + 1 : Nat) : Int) by unfold wrap64; omega]
 | succ d ih =>
  intro j b hj
  have hjl : j < l.length := by omega
  cases b with
  | true =>
   have h := ih (j + 1) true (by omega)
   rw [Bool.true_or] at h ⊢
   refine Ev.step (fun k => ?_) h
   rw [bindleref18_Order.l1, if_pos (by omega), if_pos rfl, show wrap64 ((j : Int) + 1) = ((j + 1 : Nat) : Int) by unfold wrap64; omega]
  | false =>
   have h := ih (j + 1) (l[j].f0.toList == l[i].f0.toList) (by omega)
   rw [Bool.false_or, pathIn_drop hjl]
   have e : (l[j].f0.toList == l[i].f0.toList) = decide (l[j].f0.toList = l[i].f0.toList) := by
    rw [Bool.eq_iff_iff]; simp
   rw [← e]
   refine Ev.step (fun k => ?_) h
   rw [bindleref18_Order.l1, if_pos (by omega), if_neg (by decide), if_pos (by omega), if_pos (by omega), if_pos (by omega), rdM_n l i hi, rdM_n l j hjl, show wrap64 ((j : Int) + 1) = ((j + 1 : Nat) : Int) by unfold wrap64; omega]
theorem rorder_l (l : List Mem) (h60 : l.length ≤ 60) : ∀ (d i : Nat) (o : List ByteArray), i + d = l.length → o.length ≤ i → Ev (fun k => bindleref18_Order.l0 k l o (i : Int)) (o ++ orderF (l.drop i)) := by
 intro d
 induction d with
 | zero =>
  intro i o hi ho
  rw [List.drop_of_length_le (by omega)]
  exact Ev.step (f := fun _ => some (o ++ orderF [])) (fun k => by rw [bindleref18_Order.l0, if_neg (by omega), orderF, List.append_nil]) (Ev.now _)
 | succ d ih =>
  intro i o hi ho
  have hil : i < l.length := by omega
  have h := rorder_inner l h60 o [] i hil (by omega) (ih (i + 1) o (by omega) (by omega)) (ih (i + 1) (o ++ [l[i].f0]) (by omega) (by rw [List.length_append]; simp; omega)) (l.length - (i + 1)) (i + 1) false (by omega)
  rw [Bool.false_or] at h
  rw [List.drop_eq_getElem_cons hil, orderF]
  have e : o ++ (if pathIn (l.drop (i + 1)) l[i].f0 = true then orderF (l.drop (i + 1)) else l[i].f0 :: orderF (l.drop (i + 1))) = if pathIn (l.drop (i + 1)) l[i].f0 = true then o ++ orderF (l.drop (i + 1)) else (o ++ [l[i].f0]) ++ orderF (l.drop (i + 1)) := by
   split
   ·rfl
   ·rw [List.append_assoc]; rfl
  rw [e]
  refine Ev.step (fun k => ?_) h
  rw [bindleref18_Order.l0, if_pos (by omega), show wrap64 ((i : Int) + 1) = ((i + 1 : Nat) : Int) by unfold wrap64; omega]
theorem rorder_eq (l : List Mem) (h60 : l.length ≤ 60) : Ev (fun k => bindleref18_Order.f k l) (orderF l) := rorder_l l h60 l.length 0 [] (by omega) (Nat.le_refl _)
theorem orders_l (o : List ByteArray) (h : o.length ≤ 60) : ∀ (d i : Nat), i + d = o.length → Ev (fun k => bindlelaw18_FlatOrders.l0 k o o (i : Int)) true := by
 intro d
 induction d with
 | zero =>
  intro i hi
  exact Ev.step (f := fun _ => some true) (fun k => by rw [bindlelaw18_FlatOrders.l0, if_neg (by omega), bindlelaw18_answers.val]; rfl) (Ev.now _)
 | succ d ih =>
  intro i hi
  refine Ev.step (fun k => ?_) (ih (i + 1) (by omega))
  rw [bindlelaw18_FlatOrders.l0, if_pos (by omega), if_pos (by omega), if_pos (by omega), if_pos rfl, show wrap64 ((i : Int) + 1) = ((i + 1 : Nat) : Int) by unfold wrap64; omega]
theorem FlatOrders_true (l : List Mem) (hz : ∀ x ∈ l, MemR x) (hlen : l.length ≤ 140737488351232) : Ev (fun k => bindlelaw18_FlatOrders.f k l) true := by
 obtain ⟨b, h1, h2⟩ := light18_eq l hz hlen
 unfold bindlelaw18_FlatOrders.f
 refine Ev.bind h1 ?_
 cases b with
 | false => exact Ev.congr (f := fun _ => some true) (fun k => by rw [if_neg (by decide), bindlelaw18_answers.val]; rfl) (Ev.now _)
 | true =>
  obtain ⟨h60, hmz, _⟩ := h2 rfl
  have hol := order_len l
  unfold flat_Order.f
  refine Ev.congr (fun k => by rw [if_pos rfl, if_pos ((memsZ_iff l).2 hmz), Option.bind_some]) ?_
  refine Ev.bind (rorder_eq l h60) ?_
  exact Ev.congr (fun k => by rw [if_pos rfl]; rfl) (orders_l (orderF l) (by omega) (orderF l).length 0 (by omega))
end Go.Proofs.YtiijbmaamblidaaDoor

namespace Go.Proofs.YtiijbmaamblidaaDoor
open Go.RowKit Go.Lib Go.Proofs.YtiijbmaamblidaaDoorW.PrintWords
theorem laidOut : laidOutB Tryd.prog = true := by kernel_rfl
end Go.Proofs.YtiijbmaamblidaaDoor

namespace Go.Proofs.YtiijbmaamblidaaDoor
open Go.ChangeShapes Go.WideShapes Go.RowKit Go.Proofs.YtiijbmaamblidaaDoorW.PrintWords
structure Opens {α : Type} (P : Program) (d : Kd α) (t : TypeId) (B : α → Prop) : Prop where
 sz : P.cellsOf t = d.sz
 get : ∀ {H : Type} {enc : TypeId × Value → H} {W : World} {fuel : Nat} {cs : List Value} {x : DataW H × List MemPlace},
  DataW.trod enc P W 0 (fun _ => true) true fuel t cs = some x → (∀ n ∈ x.1.weights P t, n ≤ reachBytes) → ∃ a, d.K W a cs ∧ B a
theorem Opens.int {P : Program} {t : TypeId} {k : IntKind} (ht : P.underlying t = some (.int k)) (hc : P.cellsOf t = 1) : Opens P (Kd.int k) t (fun n => (Lit.int k n).wf = true) :=
 ⟨hc, fun h _ => by
  obtain ⟨n, rfl, rfl, hw⟩ := DataW.trod_int ht h
  exact ⟨n, rfl, hw⟩⟩
theorem Opens.bool {P : Program} {t : TypeId} (ht : P.underlying t = some .bool) (hc : P.cellsOf t = 1) : Opens P Kd.bool t (fun _ => True) :=
 ⟨hc, fun h _ => by
  obtain ⟨n, rfl, rfl⟩ := DataW.trod_bool ht h
  exact ⟨n, rfl, trivial⟩⟩
theorem Opens.string {P : Program} {t : TypeId} (ht : P.underlying t = some .string) (hc : P.cellsOf t = 1) : Opens P Kd.string t (fun s => s.size ≤ 140737488351232) :=
 ⟨hc, fun h hw => by
  obtain ⟨s, rfl, rfl, _⟩ := DataW.trod_string ht h
  refine ⟨s, rfl, ?_⟩
  have := hw s.data.toList.length (by simp [DataW.weights])
  have e : s.data.toList.length = s.size := by simp
  rw [e] at this
  exact this⟩
theorem each_list {α : Type} {Q : Nat → α → Prop} : ∀ n : Nat, (∀ i, i < n → ∃ x, Q i x) → ∃ xs : List α, xs.length = n ∧ ∀ i x, xs[i]? = some x → Q i x := by
 intro n
 induction n with
 | zero => exact fun _ => ⟨[], rfl, fun i x h => by simp at h⟩
 | succ n ih =>
  intro h
  obtain ⟨xs, hl, hx⟩ := ih (fun i hi => h i (by omega))
  obtain ⟨y, hy⟩ := h n (by omega)
  refine ⟨xs ++ [y], by simp [hl], fun i x hi => ?_⟩
  rcases Nat.lt_or_ge i n with h1 | h1
  ·rw [List.getElem?_append_left (by omega)] at hi
   exact hx i x hi
  ·rw [List.getElem?_append_right (by omega)] at hi
   have h0 : i - xs.length = 0 := by
    have := (List.getElem?_eq_some_iff.1 hi).1
    simp at this
    omega
   rw [h0] at hi
   simp at hi
   subst hi
   obtain rfl : i = n := by omega
   exact hy
theorem weights_all {H : Type} {P : Program} {e : TypeId} : ∀ {l : List (DataW H)} {y : DataW H}, y ∈ l → ∀ n ∈ y.weights P e, n ∈ DataW.weightsAll P e l
 | z :: r, y, hy, n, hn => by
  simp only [DataW.weightsAll, List.mem_append]
  rcases List.mem_cons.1 hy with rfl | hy
  ·exact .inl hn
  ·exact .inr (weights_all hy n hn)
theorem add_add (a : Addr) (x y : Nat) : (a.add x).add y = a.add (x + y) := by
 unfold Addr.add
 split
 ·rename_i h
  subst h
  simp
 ·rename_i h
  split
  ·rename_i h2
   subst h2
   simp [h]
  ·rw [if_neg (by omega)]
   simp [Nat.add_assoc]
theorem Opens.slice {α : Type} {P : Program} {d : Kd α} {B : α → Prop} {t e : TypeId} (ht : P.underlying t = some (.slice e)) (hc : P.cellsOf t = 1) (h : Opens P d e B) :
  Opens P (Kd.slice e d) t (fun xs => xs.length * P.bytesOf e ≤ 140737488351232 ∧ ∀ x ∈ xs, B x) :=
 ⟨hc, fun {H enc W fuel cs x} hf hw => by
  rcases DataW.trod_slice ht hf with ⟨rfl, rfl⟩ | ⟨a, len, cap, elems, rest, n, _, rfl, rfl, hb, hl, hm, hlen, hel, hsp, hns⟩
  ·exact ⟨[], ⟨none, 0, rfl, Nat.le_refl _, Kd.C_nil d W⟩, by simp, fun x hx => by cases hx⟩
  ·simp only [DataW.weights, ht] at hw
   have each : ∀ i, i < len → ∃ z : α, B z ∧ ∃ c, c.length = d.sz ∧ d.K W z c ∧ ∀ j u, c[j]? = some u → W.cell? (a.add (i * d.sz + j)) = some u := by
    intro i hi
    have h1 := hel i hi
    have hi' : i < elems.length := by omega
    rw [List.getElem?_eq_getElem hi', Option.bind_eq_some_iff] at h1
    obtain ⟨c, hcs, hy⟩ := h1
    obtain ⟨-, h2, h3⟩ := World.cells?_some hcs
    obtain ⟨z, hz, hB⟩ := h.get hy (fun n hn => hw n (by
     simp only [List.mem_cons, List.mem_append]
     exact .inr (.inl (weights_all (List.mem_map.2 ⟨_, List.getElem_mem hi', rfl⟩) n hn))))
    refine ⟨z, hB, c, by rw [h2, h.sz], hz, fun j u hj => ?_⟩
    have hj' : j < P.cellsOf e := by
     have := (List.getElem?_eq_some_iff.1 hj).1
     omega
    have h4 := h3 j hj'
    rw [add_add, h.sz] at h4
    rw [h4, hj]
   obtain ⟨xs, hxl, hxs⟩ := each_list len each
   subst hxl
   have hz := hw _ (List.mem_cons_self ..)
   simp only [List.length_map] at hz
   have h5 : xs.length * P.bytesOf e ≤ (elems.length + rest.length) * P.bytesOf e := Nat.mul_le_mul_right _ (by omega)
   have h6 : reachBytes = 140737488351232 := rfl
   refine ⟨xs, ⟨some a, cap, rfl, hl, rfl, ?_, fun _ => ⟨a, rfl, fun j p hj => (hxs j p hj).2⟩⟩, by omega, fun x hx => ?_⟩
   ·have : maxLen = 9223372036854775807 := rfl
    omega
   ·obtain ⟨i, hi⟩ := List.getElem?_of_mem hx
    exact (hxs i x hi).1⟩
structure OpensF {α : Type} (P : Program) (d : Kd α) (fs : List Field) (o : Nat) (B : α → Prop) : Prop where
 get : ∀ {H : Type} {enc : TypeId × Value → H} {W : World} {n : Nat} {cs : List Value} {xs : List (DataW H × List MemPlace)}, xs.length = fs.length →
  (∀ (i : Nat) (f : Field), fs[i]? = some f → DataW.trod enc P W 0 (fun _ => true) true n f.type ((cs.drop f.offset).take (P.cellsOf f.type)) = xs[i]?) →
  (∀ m ∈ DataW.weightsEach P (fs.map (·.type)) (xs.map (·.1)), m ≤ reachBytes) → ∃ a, d.K W a ((cs.drop o).take d.sz) ∧ B a
theorem OpensF.one {α : Type} {P : Program} {d : Kd α} {B : α → Prop} {f : Field} {o : Nat} (ho : f.offset = o) (h : Opens P d f.type B) : OpensF P d [f] o B := by
 refine ⟨fun {H enc W n cs xs} hl hx hw => ?_⟩
 match xs, hl with
 | [x], _ =>
  have h0 := hx 0 f rfl
  rw [h.sz, ho] at h0
  simp only [List.getElem?_cons_zero] at h0
  exact h.get h0 (fun m hm => hw m (by simp only [List.map_cons, List.map_nil, DataW.weightsEach, List.mem_append]; exact .inl hm))
theorem OpensF.cons {α β : Type} {P : Program} {d : Kd α} {d' : Kd β} {B : α → Prop} {B' : β → Prop} {f : Field} {fs : List Field} {o : Nat} (ho : f.offset = o) (h : Opens P d f.type B) (h' : OpensF P d' fs (o + d.sz) B') :
  OpensF P (Kd.pair d d') (f :: fs) o (fun x => B x.1 ∧ B' x.2) := by
 refine ⟨fun {H enc W n cs xs} hl hx hw => ?_⟩
 match xs, hl with
 | x :: xs, hl =>
  have h0 := hx 0 f rfl
  rw [h.sz, ho] at h0
  simp only [List.getElem?_cons_zero] at h0
  obtain ⟨a, ha, hB⟩ := h.get h0 (fun m hm => hw m (by simp only [List.map_cons, DataW.weightsEach, List.mem_append]; exact .inl hm))
  obtain ⟨b, hb, hB'⟩ := h'.get (enc := enc) (W := W) (n := n) (cs := cs) (xs := xs) (by simpa using hl) (fun i g hg => by have := hx (i + 1) g (by simpa using hg); simpa using this)
   (fun m hm => hw m (by simp only [List.map_cons, DataW.weightsEach, List.mem_append]; exact .inr hm))
  refine ⟨(a, b), ⟨_, _, ?_, ha, hb⟩, hB, hB'⟩
  show (cs.drop o).take (d.sz + d'.sz) = _
  rw [List.take_add, List.drop_drop]
theorem Opens.struct {α β : Type} {P : Program} {d : Kd α} {B : α → Prop} {t : TypeId} {fs : Array Field} (ht : P.underlying t = some (.struct fs)) (hc : P.cellsOf t = d.sz) (h : OpensF P d fs.toList 0 B) (f : β → α) (g : α → β) (hg : ∀ a, f (g a) = a) :
  Opens P (Kd.iso d f) t (fun x => B (f x)) :=
 ⟨hc, fun {H enc W fuel cs x} hf hw => by
  obtain ⟨xs, n, _, rfl, hl, hlen, hx⟩ := DataW.trod_struct ht hf
  simp only [DataW.weights, ht] at hw
  obtain ⟨a, ha, hB⟩ := h.get (enc := enc) (W := W) (n := n) (cs := cs) (xs := xs) (by simpa using hlen) (fun i g hg => hx i g (by simpa using hg)) hw
  refine ⟨g a, ?_, by rw [hg]; exact hB⟩
  show d.K W (f (g a)) cs
  rw [hg]
  rw [List.drop_zero, List.take_of_length_le (by omega)] at ha
  exact ha⟩
theorem Opens.imp {α : Type} {P : Program} {d : Kd α} {t : TypeId} {B B' : α → Prop} (h : Opens P d t B) (hB : ∀ a, B a → B' a) : Opens P d t B' :=
 ⟨h.sz, fun hf hw => by obtain ⟨a, ha, hb⟩ := h.get hf hw; exact ⟨a, ha, hB a hb⟩⟩
theorem Opens.param {α : Type} {P : Program} {d : Kd α} {t : TypeId} {B : α → Prop} (h : Opens P d t B) {H : Type} {enc : TypeId × Value → H} {W : World} {v : Value} {x : DataW H} {p : List MemPlace} {ts : List TypeId} {ds : List (DataW H)} {j : Nat}
  (hsz : (DataW.weightsEach P ts ds).all (· ≤ reachBytes) = true) (hj : ts[j]? = some t) (hd : ds[j]? = some x) (ht : DataW.Trod enc P W 0 (fun _ => true) true t v x p) : ∃ a, d.K W a v.cells.toList ∧ B a := by
 obtain ⟨fuel, hf⟩ := ht
 exact h.get hf (fun n hn => by simpa using List.all_eq_true.1 hsz _ (DataW.weights_mem_each hj hd n hn))
theorem Opens.row {α : Type} {P : Program} {d : Kd α} {t e : TypeId} {B : List α → Prop} (h : Opens P (Kd.slice e d) t B) {H : Type} {enc : TypeId × Value → H} {W : World} {A : Option Addr} {n c : Nat} {x : DataW H} {p : List MemPlace} {ts : List TypeId} {ds : List (DataW H)} {j : Nat}
  (hsz : (DataW.weightsEach P ts ds).all (· ≤ reachBytes) = true) (hj : ts[j]? = some t) (hd : ds[j]? = some x) (ht : DataW.Trod enc P W 0 (fun _ => true) true t (.slice A n c) x p) :
  ∃ xs : List α, xs.length = n ∧ d.C W A n xs ∧ n ≤ c ∧ B xs := by
 obtain ⟨xs, ⟨A', c', he, hl, hC⟩, hB⟩ := h.param hsz hj hd ht
 simp [Value.cells] at he
 obtain ⟨rfl, rfl, rfl⟩ := he
 exact ⟨xs, rfl, hC, hl, hB⟩
end Go.Proofs.YtiijbmaamblidaaDoor

namespace Go.Proofs.YtiijbmaamblidaaDoor
open Go.RowKit Go.Proofs.YtiijbmaamblidaaDoor.Print Go.Proofs.YtiijbmaamblidaaDoorW.PrintWords
theorem o_str : Opens Tryd.prog Kd.string 9 (fun s => s.size ≤ 140737488351232) := Opens.string Tryd.underlying9 (by kernel_rfl)
theorem o_u8 : Opens Tryd.prog (Kd.int .u8) 5 (fun n => (Lit.int .u8 n).wf = true) := Opens.int Tryd.underlying5 (by kernel_rfl)
theorem o_int : Opens Tryd.prog (Kd.int .i64) 3 (fun n => (Lit.int .i64 n).wf = true) := Opens.int Tryd.underlying3 (by kernel_rfl)
theorem o_bytes : Opens Tryd.prog (Kd.slice 5 (Kd.int .u8)) 25 (fun xs => xs.length ≤ 140737488351232) :=
 (Opens.slice Tryd.underlying25 (by kernel_rfl) o_u8).imp (fun xs h => by
  have hb : Tryd.prog.bytesOf 5 = 1 := by kernel_rfl
  have h1 := h.1
  rw [hb] at h1
  omega)
theorem o_meta : Opens Tryd.prog k24 24 (fun _ => True) := by
 have h := Opens.struct Tryd.underlying24 (by kernel_rfl) (OpensF.cons rfl o_int (OpensF.cons rfl o_int (OpensF.cons rfl o_int (OpensF.one rfl o_int)))) (fun x : S24 => (x.f0, x.f1, x.f2, x.f3)) (fun p => ⟨p.1, p.2.1, p.2.2.1, p.2.2.2⟩) (fun _ => rfl)
 exact Opens.imp h (fun _ _ => trivial)
theorem o_mem : Opens Tryd.prog k27 27 MemR := by
 have h := Opens.struct Tryd.underlying27 (by kernel_rfl) (OpensF.cons rfl o_str (OpensF.cons rfl o_str (OpensF.cons rfl o_u8 (OpensF.cons rfl o_meta (OpensF.one rfl o_bytes))))) (fun x : S27 => (x.f0, x.f1, x.f2, x.f3, x.f4)) (fun p => ⟨p.1, p.2.1, p.2.2.1, p.2.2.2.1, p.2.2.2.2⟩) (fun _ => rfl)
 exact Opens.imp h (fun _ hx => ⟨hx.1, hx.2.1, hx.2.2.2.2⟩)
theorem o_mems : Opens Tryd.prog (Kd.slice 27 k27) 22 (fun xs => (∀ x ∈ xs, MemR x) ∧ xs.length ≤ 140737488351232) :=
 (Opens.slice Tryd.underlying22 (by kernel_rfl) o_mem).imp (fun xs h => ⟨h.2, by
  have hb : Tryd.prog.bytesOf 27 = 96 := by kernel_rfl
  have h1 := h.1
  rw [hb] at h1
  omega⟩)
end Go.Proofs.YtiijbmaamblidaaDoor
