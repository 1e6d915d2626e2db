/-
  Part of the proof that SubTakes answers true: texts put together (wip/bundle.py).
-/
import Derived.Test.YtfmphccoeinhcaaDoorCSubTakes5
import Derived.SizedLaws
import Derived.ChangeSlices
import Derived.OpenShut
namespace Go.Proofs.YtfmphccoeinhcaaDoor.Print
open Go.RowKit Go.Proofs.YtfmphccoeinhcaaDoorW.PrintWords Go.Proofs.YtfmphccoeinhcaaDoorW.PrintLast Go.Proofs.YtfmphccoeinhcaaDoorW.PrintMore
attribute [local go_sem] max2_int min2_int max_two min_two max_three min_three max_four min_four   -- for this text's walks alone
set_option linter.unusedVariables false
set_option linter.unusedSimpArgs false
def bindlelaw20_SubTakes.j0 : Nat → List (S38) → List (S38) → Bool → List (S38) → Int → Bool → Option (Bool)
 | 0, _, _, _, _, _, _ => none
 | k + 1, x0, x1, x2, x7, x8, x29 => if x29 = true then ((bindlelaw20_answers.f).bind fun t767 => (if t767 = true then (if x8 = 1 then (some ((x7.length : Int) == 0)) else (some false)) else (some false))) else ((bindlelaw20_answers.f).bind fun t768 => (if t768 = true then (if x8 = 0 then ((bindleref18_Subtract.f k x0 x1 x2).bind fun t769 => ((bindleref08_SameTree.f k x7 t769).bind fun t772 => (if t772 = true then ((bindleref08_GoodTree.f x7).bind fun t773 => (some t773)) else (some false)))) else (some false)) else (some false)))
def bindlelaw20_SubTakes.f (k : Nat) (l0 : List (S38)) (l1 : List (S38)) (a2 : Bool) : Option (Bool) := (bindlelaw20_light.f k (([l0, l1] : List (List (S38))))).bind fun t759 => (if t759 = true then ((sub_Subtract.f l0 l1 a2).bind fun bt761 => ((bindleref08_GoodTree.f l0).bind fun t765 => (if t765 = true then ((bindleref08_GoodTree.f l1).bind fun t766 => (bindlelaw20_SubTakes.j0 k l0 l1 a2 bt761.1 bt761.2 (!t766))) else (bindlelaw20_SubTakes.j0 k l0 l1 a2 bt761.1 bt761.2 true)))) else ((bindlelaw20_answers.f).bind fun t760 => (some t760)))
set_option maxHeartbeats 8000000 in
set_option maxRecDepth 100000 in
theorem bindlelaw20_SubTakes.calls (k : Nat) (P0_ : Nat → Prop) (A0 : Option Addr) (c0 : Nat) (l0 : List (S38)) (P1_ : Nat → Prop) (A1 : Option Addr) (c1 : Nat) (l1 : List (S38)) (a2 : Bool) (r : Bool) (w : World) (hT : Aside0 (Tabs w)) (hs0 : Kd.V k38 38 w w.heap.size (fun k_ => P0_ k_) (.slice A0 l0.length c0) l0) (hs1 : Kd.V k38 38 w w.heap.size (fun k_ => P1_ k_) (.slice A1 l1.length c1) l1) (h : bindlelaw20_SubTakes.f k l0 l1 a2 = some r) (hTRUE_ : Aside0 (r = true)) :
  Calls Tryd.prog 11 #[.slice A0 l0.length c0, .slice A1 l1.length c1, .bool a2] w fun e w' => e = .returned (.bool r) ∧ Below w.heap.size w w' := by
 have HO0 := A0_ (show Kd.V k38 38 w w.heap.size (fun k_ => ((P0_ k_ ∨ P1_ k_) ∨ w.heap.size ≤ k_)) (.slice A0 l0.length c0) l0 from Kd.V_mono hs0 (fun k_ hk => .inl (.inl hk)))
 have HO1 := A0_ (show Kd.V k38 38 w w.heap.size (fun k_ => ((P0_ k_ ∨ P1_ k_) ∨ w.heap.size ≤ k_)) (.slice A1 l1.length c1) l1 from Kd.V_mono hs1 (fun k_ hk => .inl (.inr hk)))
 have HB := A0_ (Below.refl w.heap.size w)
 have H : ((bindlelaw20_light.f k (([l0, l1] : List (List (S38))))).bind fun t759 => (if t759 = true then ((sub_Subtract.f l0 l1 a2).bind fun bt761 => ((bindleref08_GoodTree.f l0).bind fun t765 => (if t765 = true then ((bindleref08_GoodTree.f l1).bind fun t766 => (bindlelaw20_SubTakes.j0 k l0 l1 a2 bt761.1 bt761.2 (!t766))) else (bindlelaw20_SubTakes.j0 k l0 l1 a2 bt761.1 bt761.2 true)))) else ((bindlelaw20_answers.f).bind fun t760 => (some t760)))) = some r := h
 clear h
 obtain ⟨y756, hy756⟩ : ∃ y_ : List (List (S38)), y_ = (([l0, l1] : List (List (S38)))) := ⟨_, rfl⟩
 replace H : ((bindlelaw20_light.f k y756).bind fun t759 => (if t759 = true then ((sub_Subtract.f l0 l1 a2).bind fun bt761 => ((bindleref08_GoodTree.f l0).bind fun t765 => (if t765 = true then ((bindleref08_GoodTree.f l1).bind fun t766 => (bindlelaw20_SubTakes.j0 k l0 l1 a2 bt761.1 bt761.2 (!t766))) else (bindlelaw20_SubTakes.j0 k l0 l1 a2 bt761.1 bt761.2 true)))) else ((bindlelaw20_answers.f).bind fun t760 => (some t760)))) = some r := by first | (rw [hy756]; with_reducible exact H) | (have H2_ := (Option.bind_some _ _).symm.trans H; rw [hy756]; with_reducible exact H2_) | (have H2_ := (Option.bind_some _ _).symm.trans H; with_reducible exact H2_) | with_reducible exact H | (rw [hy756]; exact H) | exact H
 have Ny756 := A0_ hy756
 clear hy756
 replace H := Option.bind_eq_some_iff.mp H
 obtain ⟨t759, A40, H⟩ := H
 replace H : (if t759 = true then ((sub_Subtract.f l0 l1 a2).bind fun bt761 => ((bindleref08_GoodTree.f l0).bind fun t765 => (if t765 = true then ((bindleref08_GoodTree.f l1).bind fun t766 => (bindlelaw20_SubTakes.j0 k l0 l1 a2 bt761.1 bt761.2 (!t766))) else (bindlelaw20_SubTakes.j0 k l0 l1 a2 bt761.1 bt761.2 true)))) else ((bindlelaw20_answers.f).bind fun t760 => (some t760))) = some r := H
 have A4 := A0_ A40
 clear A40
 by_cases c5 : t759 = true
 rotate_left
 ·replace c5 := Bool.eq_false_iff.mpr c5
  subst c5
  have H1 : ((bindlelaw20_answers.f).bind fun t760 => (some t760)) = some r := by rw [if_neg (show ¬ (false = true) by decide)] at H; exact H
  clear H
  have H := H1
  clear H1
  replace H := Option.bind_eq_some_iff.mp H
  obtain ⟨t760, A460, H⟩ := H
  replace H : (some t760) = some r := H
  have A46 := A0_ A460
  clear A460
  obtain rfl := Option.some.inj H
  go_enter Tryd.func11, Tryd.ntmps11
  go_wp2_with (first | ((with_reducible refine gate_dst (N := 11) rfl ?_); (try (refine gate_guard (by rfl) ?_; dsimp only)); refine Kd.N_lit (Kd.slice 38 k38) _ 31 ?hg (N' := 11) ?hd (xs := ([l0, l1] : List (List (S38)))) (inner := [.slice A0 l0.length c0, .slice A1 l1.length c1]) (ok := (fun k_ => ((P0_ k_ ∨ P1_ k_) ∨ w.heap.size ≤ k_))) (okp := (fun k_ => ((P0_ k_ ∨ P1_ k_) ∨ w.heap.size ≤ k_))) ?hr ?hp (fun _ hk => hk) ((show ∀ k_, w.heap.size ≤ k_ → (fun k_ => ((P0_ k_ ∨ P1_ k_) ∨ w.heap.size ≤ k_)) k_ from fun k_ hk => (.inr (Nat.le_trans (below_size (wb_ HB.out)) hk))) _ (Nat.le_refl _)) (Below.refl _ _) (Nat.le_refl _) (by simp) ?_; (case hd => rfl); (case hg => rfl); (case hr => first | (go_simp; done) | (go_simp; rfl)); (case hp => exact (Reps.one (show Kd.FK (Kd.slice 38 k38) _ _ l0 [.slice A0 l0.length c0] from (Kd.FK_slice_mk (Kd.V_reads' (Kd.V_mono (ok' := (fun k_ => ((P0_ k_ ∨ P1_ k_) ∨ w.heap.size ≤ k_))) (HO0.out) (fun k_ hk => hk))).2.1 (Kd.V_F (Kd.V_mono (ok' := (fun k_ => ((P0_ k_ ∨ P1_ k_) ∨ w.heap.size ≤ k_))) (HO0.out) (fun k_ hk => hk))))) (Reps.one (show Kd.FK (Kd.slice 38 k38) _ _ l1 [.slice A1 l1.length c1] from (Kd.FK_slice_mk (Kd.V_reads' (Kd.V_mono (ok' := (fun k_ => ((P0_ k_ ∨ P1_ k_) ∨ w.heap.size ≤ k_))) (HO1.out) (fun k_ hk => hk))).2.1 (Kd.V_F (Kd.V_mono (ok' := (fun k_ => ((P0_ k_ ∨ P1_ k_) ∨ w.heap.size ≤ k_))) (HO1.out) (fun k_ hk => hk))))) (Reps.none _ _)))); intro v757 w47 ho48 hb hg_ hnew_; clear hg_ hnew_; (first | rw [← Ny756.out] at ho48 | (simp only [Int.reduceToNat] at ho48; rw [← Ny756.out] at ho48)); have n0_ := A0_ (Kd.V_elder' (wV_ HO0.out) (Kd.N_base ho48) hb); have n1_ := A0_ (Kd.V_elder' (wV_ HO1.out) (Kd.N_base ho48) hb); have n2_ := A0_ (Kd.N_lower ho48 (below_size (wb_ HB.out))); have n3_ := A0_ (below_step (wb_ HB.out) hb); clear HO0; clear HO1; clear HB; have HO0 := n0_; have HO1 := n1_; have HO758 := n2_; have HB := n3_; clear n0_ n1_ n2_ n3_; clear hb ho48; obtain ⟨Ao49, co49, eo49⟩ := Kd.N_slice HO758.out; subst eo49) | ((with_reducible refine gate_callee (f := 34) rfl ?_); refine goesL_ (some 12) rfl rfl Tryd.func34 (by kernel_rfl) rfl #[.slice Ao49 y756.length co49] rfl wm_ ?_; (with_reducible refine (bindlelaw20_light.calls k _ _ y756 false _ ?side1 ?side2 A4.out).mono ?_); (case side1 => exact wc_ (Kd.N_reads' HO758.out).2.2); (case side2 => exact (Kd.N_reads' HO758.out).2.1); rintro e w' ⟨rfl, ⟨nd, rfl⟩⟩; refine ⟨_, rfl, ?_⟩) | ((with_reducible refine gate_callee (f := 35) rfl ?_); refine goesL_ (some 14) rfl rfl Tryd.func35 (by kernel_rfl) rfl #[] rfl wm_ ?_; (with_reducible refine (bindlelaw20_answers.calls  t760 _ ?side1 A46.out).mono ?_); (case side1 => exact A0_ (Tabs.below hT.out (wb_ HB.out))); rintro e w50 ⟨rfl, hb⟩; refine ⟨_, rfl, ?_⟩; have n0_ := A0_ (Vb_ (wV_ HO0.out) hb); have n1_ := A0_ (Vb_ (wV_ HO1.out) hb); have n2_ := A0_ (Kd.N_below (wN_ HO758.out) hb); have n3_ := A0_ (below_step (wb_ HB.out) hb); clear HO0; clear HO1; clear HO758; clear HB; have HO0 := n0_; have HO1 := n1_; have HO758 := n2_; have HB := n3_; clear n0_ n1_ n2_ n3_; (try clear hb); (try clear hb2); (try clear hk); (try clear hi)))
  go_ret
  exact ⟨we_, wb_ HB.out⟩
 subst c5
 have H1 : ((sub_Subtract.f l0 l1 a2).bind fun bt761 => ((bindleref08_GoodTree.f l0).bind fun t765 => (if t765 = true then ((bindleref08_GoodTree.f l1).bind fun t766 => (bindlelaw20_SubTakes.j0 k l0 l1 a2 bt761.1 bt761.2 (!t766))) else (bindlelaw20_SubTakes.j0 k l0 l1 a2 bt761.1 bt761.2 true)))) = some r := by rw [if_pos rfl] at H; exact H
 clear H
 have H := H1
 clear H1
 replace H := Option.bind_eq_some_iff.mp H
 obtain ⟨⟨t761, t764⟩, A60, H⟩ := H
 replace H : ((bindleref08_GoodTree.f l0).bind fun t765 => (if t765 = true then ((bindleref08_GoodTree.f l1).bind fun t766 => (bindlelaw20_SubTakes.j0 k l0 l1 a2 t761 t764 (!t766))) else (bindlelaw20_SubTakes.j0 k l0 l1 a2 t761 t764 true))) = some r := H
 have A6 := A0_ A60
 clear A60
 have HC7 := A0_ H
 clear H
 go_enter Tryd.func11, Tryd.ntmps11
 go_upto_region 4 with (first | ((with_reducible refine gate_dst (N := 11) rfl ?_); (try (refine gate_guard (by rfl) ?_; dsimp only)); refine Kd.N_lit (Kd.slice 38 k38) _ 31 ?hg (N' := 11) ?hd (xs := ([l0, l1] : List (List (S38)))) (inner := [.slice A0 l0.length c0, .slice A1 l1.length c1]) (ok := (fun k_ => ((P0_ k_ ∨ P1_ k_) ∨ w.heap.size ≤ k_))) (okp := (fun k_ => ((P0_ k_ ∨ P1_ k_) ∨ w.heap.size ≤ k_))) ?hr ?hp (fun _ hk => hk) ((show ∀ k_, w.heap.size ≤ k_ → (fun k_ => ((P0_ k_ ∨ P1_ k_) ∨ w.heap.size ≤ k_)) k_ from fun k_ hk => (.inr (Nat.le_trans (below_size (wb_ HB.out)) hk))) _ (Nat.le_refl _)) (Below.refl _ _) (Nat.le_refl _) (by simp) ?_; (case hd => rfl); (case hg => rfl); (case hr => first | (go_simp; done) | (go_simp; rfl)); (case hp => exact (Reps.one (show Kd.FK (Kd.slice 38 k38) _ _ l0 [.slice A0 l0.length c0] from (Kd.FK_slice_mk (Kd.V_reads' (Kd.V_mono (ok' := (fun k_ => ((P0_ k_ ∨ P1_ k_) ∨ w.heap.size ≤ k_))) (HO0.out) (fun k_ hk => hk))).2.1 (Kd.V_F (Kd.V_mono (ok' := (fun k_ => ((P0_ k_ ∨ P1_ k_) ∨ w.heap.size ≤ k_))) (HO0.out) (fun k_ hk => hk))))) (Reps.one (show Kd.FK (Kd.slice 38 k38) _ _ l1 [.slice A1 l1.length c1] from (Kd.FK_slice_mk (Kd.V_reads' (Kd.V_mono (ok' := (fun k_ => ((P0_ k_ ∨ P1_ k_) ∨ w.heap.size ≤ k_))) (HO1.out) (fun k_ hk => hk))).2.1 (Kd.V_F (Kd.V_mono (ok' := (fun k_ => ((P0_ k_ ∨ P1_ k_) ∨ w.heap.size ≤ k_))) (HO1.out) (fun k_ hk => hk))))) (Reps.none _ _)))); intro v757 w8 ho9 hb hg_ hnew_; clear hg_ hnew_; (first | rw [← Ny756.out] at ho9 | (simp only [Int.reduceToNat] at ho9; rw [← Ny756.out] at ho9)); have n0_ := A0_ (Kd.V_elder' (wV_ HO0.out) (Kd.N_base ho9) hb); have n1_ := A0_ (Kd.V_elder' (wV_ HO1.out) (Kd.N_base ho9) hb); have n2_ := A0_ (Kd.N_lower ho9 (below_size (wb_ HB.out))); have n3_ := A0_ (below_step (wb_ HB.out) hb); clear HO0; clear HO1; clear HB; have HO0 := n0_; have HO1 := n1_; have HO758 := n2_; have HB := n3_; clear n0_ n1_ n2_ n3_; clear hb ho9; obtain ⟨Ao10, co10, eo10⟩ := Kd.N_slice HO758.out; subst eo10) | ((with_reducible refine gate_callee (f := 34) rfl ?_); refine goesL_ (some 12) rfl rfl Tryd.func34 (by kernel_rfl) rfl #[.slice Ao10 y756.length co10] rfl wm_ ?_; (with_reducible refine (bindlelaw20_light.calls k _ _ y756 true _ ?side1 ?side2 A4.out).mono ?_); (case side1 => exact wc_ (Kd.N_reads' HO758.out).2.2); (case side2 => exact (Kd.N_reads' HO758.out).2.1); rintro e w' ⟨rfl, ⟨nd, rfl⟩⟩; refine ⟨_, rfl, ?_⟩) | ((with_reducible refine gate_callee (f := 38) rfl ?_); refine goesL_ (some 19) rfl rfl Tryd.func38 (by kernel_rfl) rfl #[.slice A0 l0.length c0, .slice A1 l1.length c1, .bool a2] rfl wm_ ?_; (with_reducible refine (sub_Subtract.calls _ _ l0 _ _ l1 a2 t761 t764 _ ?side1 ?side2 ?side3 ?side4 ?side5 A6.out).mono ?_); (case side1 => exact A0_ (Tabs.below hT.out (wb_ HB.out))); (case side2 => exact wc_ (Kd.V_reads' HO0.out).2.2); (case side3 => exact (Kd.V_reads' HO0.out).2.1); (case side4 => exact wc_ (Kd.V_reads' HO1.out).2.2); (case side5 => exact (Kd.V_reads' HO1.out).2.1); rintro e w11 ⟨v762, rfl, ho0, hb⟩; refine ⟨_, rfl, ?_⟩; have n0_ := A0_ (Vb_ (wV_ HO0.out) hb); have n1_ := A0_ (Vb_ (wV_ HO1.out) hb); have n2_ := A0_ (Kd.N_below (wN_ HO758.out) hb); have n3_ := A0_ (Kd.V_lower (Kd.V_mono (ok' := fun k_ => ((P0_ k_ ∨ P1_ k_) ∨ w.heap.size ≤ k_) ∧ some k_ ≠ (.slice Ao10 y756.length co10 : Value).ownBlock) ho0 (fun k_ hk_ => ⟨(.inr (Nat.le_trans (below_size (wb_ HB.out)) hk_)), (Kd.fresh' (Kd.N_lt (wN_ HO758.out)) k_ hk_)⟩)) (below_size (wb_ HB.out))); have n4_ := A0_ (below_step (wb_ HB.out) hb); clear HO0; clear HO1; clear HO758; clear HB; have HO0 := n0_; have HO1 := n1_; have HO758 := n2_; have HO763 := n3_; have HB := n4_; clear n0_ n1_ n2_ n3_ n4_; (try clear hb); (try clear hb2); (try clear hk); (try clear hi); (try clear ho0)))
 (try simp only [Act.put, List.setIfInBounds_toArray, List.set_cons_zero, List.set_cons_succ])
 go_cut [29] (fun v29 wc => ∃ (kq : Nat) (x29_6 : Bool), v29 = .bool x29_6 ∧ Aside0 (bindlelaw20_SubTakes.j0 kq l0 l1 a2 t761 t764 x29_6 = some r) ∧ Aside0 (kq ≤ k) ∧ Aside0 (Kd.V k38 38 wc w.heap.size (fun k_ => ((P0_ k_ ∨ P1_ k_) ∨ w.heap.size ≤ k_)) (.slice A0 l0.length c0) l0) ∧ Aside0 (Kd.V k38 38 wc w.heap.size (fun k_ => ((P0_ k_ ∨ P1_ k_) ∨ w.heap.size ≤ k_)) (.slice A1 l1.length c1) l1) ∧ Aside0 (Kd.V k38 38 wc w.heap.size (fun k_ => ((P0_ k_ ∨ P1_ k_) ∨ w.heap.size ≤ k_)) v762 t761) ∧ Aside0 (Below w.heap.size w wc))
 case first =>
  have H := HC7.out
  clear HC7
  replace H := Option.bind_eq_some_iff.mp H
  obtain ⟨t765, A120, H⟩ := H
  replace H : (if t765 = true then ((bindleref08_GoodTree.f l1).bind fun t766 => (bindlelaw20_SubTakes.j0 k l0 l1 a2 t761 t764 (!t766))) else (bindlelaw20_SubTakes.j0 k l0 l1 a2 t761 t764 true)) = some r := H
  have A12 := A0_ A120
  clear A120
  by_cases c13 : t765 = true
  rotate_left
  ·replace c13 := Bool.eq_false_iff.mpr c13
   subst c13
   have H1 : (bindlelaw20_SubTakes.j0 k l0 l1 a2 t761 t764 true) = some r := by rw [if_neg (show ¬ (false = true) by decide)] at H; exact H
   clear H
   have H := H1
   clear H1
   have H' := A0_ H
   clear H
   go_wp2_with (first | ((with_reducible refine gate_callee (f := 26) rfl ?_); refine goesL_ (some 23) rfl rfl Tryd.func26 (by kernel_rfl) rfl #[.slice A0 l0.length c0] rfl wm_ ?_; (with_reducible refine (bindleref08_GoodTree.calls _ _ l0 false _ ?side1 ?side2 A12.out).mono ?_); (case side1 => exact wc_ (Kd.V_reads' HO0.out).2.2); (case side2 => exact (Kd.V_reads' HO0.out).2.1); rintro e w17 ⟨rfl, hb⟩; refine ⟨_, rfl, ?_⟩; have n0_ := A0_ (Vb_ (wV_ HO0.out) hb); have n1_ := A0_ (Vb_ (wV_ HO1.out) hb); have n2_ := A0_ (Kd.N_below (wN_ HO758.out) hb); have n3_ := A0_ (Vb_ (wV_ HO763.out) hb); have n4_ := A0_ (below_step (wb_ HB.out) hb); clear HO0; clear HO1; clear HO758; clear HO763; clear HB; have HO0 := n0_; have HO1 := n1_; have HO758 := n2_; have HO763 := n3_; have HB := n4_; clear n0_ n1_ n2_ n3_ n4_; (try clear hb); (try clear hb2); (try clear hk); (try clear hi)))
   go_meet
   case rel => exact ⟨_, (true), wr_, H', ⟨by first | omega | exact Nat.le_refl _⟩, ⟨by (with_reducible repeat (first | apply Va_ | apply VN_ | apply V1_)); exact Kd.V_mono HO0.out (fun _ hk => hk.1)⟩, ⟨by (with_reducible repeat (first | apply Va_ | apply VN_ | apply V1_)); exact Kd.V_mono HO1.out (fun _ hk => hk.1)⟩, ⟨by (with_reducible repeat (first | apply Va_ | apply VN_ | apply V1_)); exact Kd.V_mono HO763.out (fun _ hk => hk.1)⟩, ⟨wb_ HB.out⟩⟩
  subst c13
  have H1 : ((bindleref08_GoodTree.f l1).bind fun t766 => (bindlelaw20_SubTakes.j0 k l0 l1 a2 t761 t764 (!t766))) = some r := by rw [if_pos rfl] at H; exact H
  clear H
  have H := H1
  clear H1
  replace H := Option.bind_eq_some_iff.mp H
  obtain ⟨t766, A140, H⟩ := H
  replace H : (bindlelaw20_SubTakes.j0 k l0 l1 a2 t761 t764 (!t766)) = some r := H
  have A14 := A0_ A140
  clear A140
  have H' := A0_ H
  clear H
  go_wp2_with (first | ((with_reducible refine gate_callee (f := 26) rfl ?_); refine goesL_ (some 23) rfl rfl Tryd.func26 (by kernel_rfl) rfl #[.slice A0 l0.length c0] rfl wm_ ?_; (with_reducible refine (bindleref08_GoodTree.calls _ _ l0 true _ ?side1 ?side2 A12.out).mono ?_); (case side1 => exact wc_ (Kd.V_reads' HO0.out).2.2); (case side2 => exact (Kd.V_reads' HO0.out).2.1); rintro e w15 ⟨rfl, hb⟩; refine ⟨_, rfl, ?_⟩; have n0_ := A0_ (Vb_ (wV_ HO0.out) hb); have n1_ := A0_ (Vb_ (wV_ HO1.out) hb); have n2_ := A0_ (Kd.N_below (wN_ HO758.out) hb); have n3_ := A0_ (Vb_ (wV_ HO763.out) hb); have n4_ := A0_ (below_step (wb_ HB.out) hb); clear HO0; clear HO1; clear HO758; clear HO763; clear HB; have HO0 := n0_; have HO1 := n1_; have HO758 := n2_; have HO763 := n3_; have HB := n4_; clear n0_ n1_ n2_ n3_ n4_; (try clear hb); (try clear hb2); (try clear hk); (try clear hi)) | (go_at_call 26; (with_reducible refine (bindleref08_GoodTree.calls _ _ l1 t766 _ ?side1 ?side2 A14.out).mono ?_); (case side1 => exact wc_ (Kd.V_reads' HO1.out).2.2); (case side2 => exact (Kd.V_reads' HO1.out).2.1); rintro e w16 ⟨rfl, hb⟩; have n0_ := A0_ (Vb_ (wV_ HO0.out) hb); have n1_ := A0_ (Vb_ (wV_ HO1.out) hb); have n2_ := A0_ (Kd.N_below (wN_ HO758.out) hb); have n3_ := A0_ (Vb_ (wV_ HO763.out) hb); have n4_ := A0_ (below_step (wb_ HB.out) hb); clear HO0; clear HO1; clear HO758; clear HO763; clear HB; have HO0 := n0_; have HO1 := n1_; have HO758 := n2_; have HO763 := n3_; have HB := n4_; clear n0_ n1_ n2_ n3_ n4_; (try clear hb); (try clear hb2); (try clear hk); (try clear hi)))
  go_meet
  case rel => exact ⟨_, (!t766), wr_, H', ⟨by first | omega | exact Nat.le_refl _⟩, ⟨by (with_reducible repeat (first | apply Va_ | apply VN_ | apply V1_)); exact Kd.V_mono HO0.out (fun _ hk => hk.1)⟩, ⟨by (with_reducible repeat (first | apply Va_ | apply VN_ | apply V1_)); exact Kd.V_mono HO1.out (fun _ hk => hk.1)⟩, ⟨by (with_reducible repeat (first | apply Va_ | apply VN_ | apply V1_)); exact Kd.V_mono HO763.out (fun _ hk => hk.1)⟩, ⟨wb_ HB.out⟩⟩
 case rest =>
  clear HC7
  try clear c1
  try clear c2
  try clear p2
  try clear c3
  try clear c5
  try clear c11
  try clear c13
  obtain ⟨kq, x29_6, rfl, HA, HJ6, HO_0, HO_1, HO_7, HB⟩ := hcut
  cases kq with
  | zero => exact absurd HA.out (by simp [bindlelaw20_SubTakes.j0])
  | succ kj6 =>
   have H := HA.out
   clear HA
   simp only [bindlelaw20_SubTakes.j0] at H
   by_cases c18 : x29_6 = true
   ·subst c18
    have H1 : ((bindlelaw20_answers.f).bind fun t767 => (if t767 = true then (if t764 = 1 then (some ((t761.length : Int) == 0)) else (some false)) else (some false))) = some r := by rw [if_pos rfl] at H; exact H
    clear H
    have H := H1
    clear H1
    replace H := Option.bind_eq_some_iff.mp H
    obtain ⟨t767, A190, H⟩ := H
    replace H : (if t767 = true then (if t764 = 1 then (some ((t761.length : Int) == 0)) else (some false)) else (some false)) = some r := H
    have A19 := A0_ A190
    clear A190
    by_cases c20 : t767 = true
    rotate_left
    ·replace c20 := Bool.eq_false_iff.mpr c20
     subst c20
     have H1 : (some false) = some r := by rw [if_neg (show ¬ (false = true) by decide)] at H; exact H
     clear H
     have H := H1
     clear H1
     exact absurd ((Option.some.inj H).trans hTRUE_.out) (by decide)
    subst c20
    have H1 : (if t764 = 1 then (some ((t761.length : Int) == 0)) else (some false)) = some r := by rw [if_pos rfl] at H; exact H
    clear H
    have H := H1
    clear H1
    by_cases c21 : t764 = 1
    rotate_left
    ·rw [if_neg c21] at H
     have c21b0 : (t764 == 1) = false := beq_eq_false_iff_ne.mpr c21
     have c21b1 : (t764 != 1) = true := bne_iff_ne.mpr c21
     exact absurd ((Option.some.inj H).trans hTRUE_.out) (by decide)
    rw [if_pos c21] at H
    have c21b0 : (t764 == 1) = true := beq_iff_eq.mpr c21
    have c21b1 : (t764 != 1) = false := bne_eq_false_iff_eq.mpr c21
    clear c21
    obtain rfl := Option.some.inj H
    go_wp2_with (first | ((with_reducible refine gate_callee (f := 35) rfl ?_); refine goesL_ (some 30) rfl rfl Tryd.func35 (by kernel_rfl) rfl #[] rfl wm_ ?_; (with_reducible refine (bindlelaw20_answers.calls  true _ ?side1 A19.out).mono ?_); (case side1 => exact A0_ (Tabs.below hT.out (wb_ HB.out))); rintro e w22 ⟨rfl, hb⟩; refine ⟨_, rfl, ?_⟩; have n0_ := A0_ (Vb_ (wV_ HO_0.out) hb); have n1_ := A0_ (Vb_ (wV_ HO_1.out) hb); have n2_ := A0_ (Vb_ (wV_ HO_7.out) hb); have n3_ := A0_ (below_step (wb_ HB.out) hb); clear HO_0; clear HO_1; clear HO_7; clear HB; have HO_0 := n0_; have HO_1 := n1_; have HO_7 := n2_; have HB := n3_; clear n0_ n1_ n2_ n3_; (try clear hb); (try clear hb2); (try clear hk); (try clear hi); obtain ⟨Ao23, co23, eo23⟩ := Kd.V_slice HO_7.out; subst eo23))
    go_ret
    exact ⟨we_, wb_ HB.out⟩
   replace c18 := Bool.eq_false_iff.mpr c18
   subst c18
   have H1 : ((bindlelaw20_answers.f).bind fun t768 => (if t768 = true then (if t764 = 0 then ((bindleref18_Subtract.f kj6 l0 l1 a2).bind fun t769 => ((bindleref08_SameTree.f kj6 t761 t769).bind fun t772 => (if t772 = true then ((bindleref08_GoodTree.f t761).bind fun t773 => (some t773)) else (some false)))) else (some false)) else (some false))) = some r := by rw [if_neg (show ¬ (false = true) by decide)] at H; exact H
   clear H
   have H := H1
   clear H1
   replace H := Option.bind_eq_some_iff.mp H
   obtain ⟨t768, A260, H⟩ := H
   replace H : (if t768 = true then (if t764 = 0 then ((bindleref18_Subtract.f kj6 l0 l1 a2).bind fun t769 => ((bindleref08_SameTree.f kj6 t761 t769).bind fun t772 => (if t772 = true then ((bindleref08_GoodTree.f t761).bind fun t773 => (some t773)) else (some false)))) else (some false)) else (some false)) = some r := H
   have A26 := A0_ A260
   clear A260
   by_cases c27 : t768 = true
   rotate_left
   ·replace c27 := Bool.eq_false_iff.mpr c27
    subst c27
    have H1 : (some false) = some r := by rw [if_neg (show ¬ (false = true) by decide)] at H; exact H
    clear H
    have H := H1
    clear H1
    exact absurd ((Option.some.inj H).trans hTRUE_.out) (by decide)
   subst c27
   have H1 : (if t764 = 0 then ((bindleref18_Subtract.f kj6 l0 l1 a2).bind fun t769 => ((bindleref08_SameTree.f kj6 t761 t769).bind fun t772 => (if t772 = true then ((bindleref08_GoodTree.f t761).bind fun t773 => (some t773)) else (some false)))) else (some false)) = some r := by rw [if_pos rfl] at H; exact H
   clear H
   have H := H1
   clear H1
   by_cases c28 : t764 = 0
   rotate_left
   ·rw [if_neg c28] at H
    have c28b0 : (t764 == 0) = false := beq_eq_false_iff_ne.mpr c28
    have c28b1 : (t764 != 0) = true := bne_iff_ne.mpr c28
    exact absurd ((Option.some.inj H).trans hTRUE_.out) (by decide)
   rw [if_pos c28] at H
   have c28b0 : (t764 == 0) = true := beq_iff_eq.mpr c28
   have c28b1 : (t764 != 0) = false := bne_eq_false_iff_eq.mpr c28
   clear c28
   replace H := Option.bind_eq_some_iff.mp H
   obtain ⟨t769, A290, H⟩ := H
   replace H : ((bindleref08_SameTree.f kj6 t761 t769).bind fun t772 => (if t772 = true then ((bindleref08_GoodTree.f t761).bind fun t773 => (some t773)) else (some false))) = some r := H
   have A29 := A0_ A290
   clear A290
   replace H := Option.bind_eq_some_iff.mp H
   obtain ⟨t772, A300, H⟩ := H
   replace H : (if t772 = true then ((bindleref08_GoodTree.f t761).bind fun t773 => (some t773)) else (some false)) = some r := H
   have A30 := A0_ A300
   clear A300
   by_cases c31 : t772 = true
   rotate_left
   ·replace c31 := Bool.eq_false_iff.mpr c31
    subst c31
    have H1 : (some false) = some r := by rw [if_neg (show ¬ (false = true) by decide)] at H; exact H
    clear H
    have H := H1
    clear H1
    exact absurd ((Option.some.inj H).trans hTRUE_.out) (by decide)
   subst c31
   have H1 : ((bindleref08_GoodTree.f t761).bind fun t773 => (some t773)) = some r := by rw [if_pos rfl] at H; exact H
   clear H
   have H := H1
   clear H1
   replace H := Option.bind_eq_some_iff.mp H
   obtain ⟨t773, A320, H⟩ := H
   replace H : (some t773) = some r := H
   have A32 := A0_ A320
   clear A320
   obtain rfl := Option.some.inj H
   go_wp2_with (first | ((with_reducible refine gate_callee (f := 35) rfl ?_); refine goesL_ (some 40) rfl rfl Tryd.func35 (by kernel_rfl) rfl #[] rfl wm_ ?_; (with_reducible refine (bindlelaw20_answers.calls  true _ ?side1 A26.out).mono ?_); (case side1 => exact A0_ (Tabs.below hT.out (wb_ HB.out))); rintro e w33 ⟨rfl, hb⟩; refine ⟨_, rfl, ?_⟩; have n0_ := A0_ (Vb_ (wV_ HO_0.out) hb); have n1_ := A0_ (Vb_ (wV_ HO_1.out) hb); have n2_ := A0_ (Vb_ (wV_ HO_7.out) hb); have n3_ := A0_ (below_step (wb_ HB.out) hb); clear HO_0; clear HO_1; clear HO_7; clear HB; have HO_0 := n0_; have HO_1 := n1_; have HO_7 := n2_; have HB := n3_; clear n0_ n1_ n2_ n3_; (try clear hb); (try clear hb2); (try clear hk); (try clear hi)) | (go_at_call 33; (with_reducible refine (bindleref18_Subtract.calls kj6 (fun k_ => ((P0_ k_ ∨ P1_ k_) ∨ w.heap.size ≤ k_)) _ _ l0 (fun k_ => ((P0_ k_ ∨ P1_ k_) ∨ w.heap.size ≤ k_)) _ _ l1 a2 t769 _ ?side1 ?side2 A29.out).mono ?_); (case side1 => exact HO_0.out); (case side2 => exact HO_1.out); rintro e w34 ⟨v770, rfl, ho0, hb⟩; have n0_ := A0_ (Vb_ (wV_ HO_0.out) hb); have n1_ := A0_ (Vb_ (wV_ HO_1.out) hb); have n2_ := A0_ (Vb_ (wV_ HO_7.out) hb); have n3_ := A0_ (Kd.V_lower (Kd.V_mono (ok' := fun k_ => ((P0_ k_ ∨ P1_ k_) ∨ w.heap.size ≤ k_)) ho0 (fun k_ hk_ => Or.elim hk_ (fun hs_ => Or.elim hs_ (fun hs_ => hs_) (fun hs_ => hs_)) (fun hn_ => (.inr (Nat.le_trans (below_size (wb_ HB.out)) hn_))))) (below_size (wb_ HB.out))); have n4_ := A0_ (below_step (wb_ HB.out) hb); clear HO_0; clear HO_1; clear HO_7; clear HB; have HO_0 := n0_; have HO_1 := n1_; have HO_7 := n2_; have HO771 := n3_; have HB := n4_; clear n0_ n1_ n2_ n3_ n4_; (try clear hb); (try clear hb2); (try clear hk); (try clear hi); (try clear ho0); obtain ⟨Ao35, co35, eo35⟩ := Kd.V_slice HO_7.out; subst eo35; obtain ⟨Ao36, co36, eo36⟩ := Kd.V_slice HO771.out; subst eo36) | (go_at_call 25; (with_reducible refine (bindleref08_SameTree.calls kj6 _ _ t761 _ _ t769 true _ ?side1 ?side2 ?side3 ?side4 A30.out).mono ?_); (case side1 => exact wc_ (Kd.V_reads' HO_7.out).2.2); (case side2 => exact (Kd.V_reads' HO_7.out).2.1); (case side3 => exact wc_ (Kd.V_reads' HO771.out).2.2); (case side4 => exact (Kd.V_reads' HO771.out).2.1); rintro e w37 ⟨rfl, hb⟩; have n0_ := A0_ (Vb_ (wV_ HO_0.out) hb); have n1_ := A0_ (Vb_ (wV_ HO_1.out) hb); have n2_ := A0_ (Vb_ (wV_ HO_7.out) hb); have n3_ := A0_ (Vb_ (wV_ HO771.out) hb); have n4_ := A0_ (below_step (wb_ HB.out) hb); clear HO_0; clear HO_1; clear HO_7; clear HO771; clear HB; have HO_0 := n0_; have HO_1 := n1_; have HO_7 := n2_; have HO771 := n3_; have HB := n4_; clear n0_ n1_ n2_ n3_ n4_; (try clear hb); (try clear hb2); (try clear hk); (try clear hi)) | (go_at_call 26; (with_reducible refine (bindleref08_GoodTree.calls _ _ t761 t773 _ ?side1 ?side2 A32.out).mono ?_); (case side1 => exact wc_ (Kd.V_reads' HO_7.out).2.2); (case side2 => exact (Kd.V_reads' HO_7.out).2.1); rintro e w38 ⟨rfl, hb⟩; have n0_ := A0_ (Vb_ (wV_ HO_0.out) hb); have n1_ := A0_ (Vb_ (wV_ HO_1.out) hb); have n2_ := A0_ (Vb_ (wV_ HO_7.out) hb); have n3_ := A0_ (Vb_ (wV_ HO771.out) hb); have n4_ := A0_ (below_step (wb_ HB.out) hb); clear HO_0; clear HO_1; clear HO_7; clear HO771; clear HB; have HO_0 := n0_; have HO_1 := n1_; have HO_7 := n2_; have HO771 := n3_; have HB := n4_; clear n0_ n1_ n2_ n3_ n4_; (try clear hb); (try clear hb2); (try clear hk); (try clear hi)))
   go_ret
   exact ⟨we_, wb_ HB.out⟩
end Go.Proofs.YtfmphccoeinhcaaDoor.Print

namespace Go.Proofs.YtfmphccoeinhcaaDoor
open Go.RowKit Go.Proofs.YtfmphccoeinhcaaDoor.Print Go.Proofs.YtfmphccoeinhcaaDoorW.PrintWords
set_option linter.unusedVariables false
theorem sameB_self : ∀ l : List Node, sameB l l = true
 | [] => rfl
 | a :: l => sameB_cons.2 ⟨⟨rfl, rfl, rfl, rfl, rfl, rfl⟩, sameB_self l⟩
theorem takes_bad {a b : List Node} (w : Bool) (h : ¬ (goodTree a = true ∧ goodTree b = true)) : Ev (fun k => bindlelaw20_SubTakes.j0 k a b w (subF a b w).1 (subF a b w).2 true) true := by
 have hs : subF a b w = ([], 1) := by unfold subF; rw [if_neg h]
 refine Ev.step (f := fun _ => some true) (fun k => ?_) (Ev.now true)
 rw [bindlelaw20_SubTakes.j0, if_pos rfl, bindlelaw20_answers.val, hs]
 rfl
theorem takes_good {a b : List Node} (za : TreeZ a) (zb : TreeZ b) (w : Bool) (ga : goodTree a = true) (gb : goodTree b = true) : Ev (fun k => bindlelaw20_SubTakes.j0 k a b w (subF a b w).1 (subF a b w).2 false) true := by
 obtain ⟨h0, h2⟩ := sub_from ga gb w
 have zs := sub_z za b w
 refine Ev.step (f := fun k => (bindleref18_Subtract.f k a b w).bind fun u => _) (fun k => by rw [bindlelaw20_SubTakes.j0, if_neg (by decide), bindlelaw20_answers.val, Option.bind_some, if_pos rfl, if_pos h0]) ?_
 refine Ev.bind (rsub_eq ga gb za zb w) ?_
 refine Ev.bind (same_ev (sameB_self _) zs) ?_
 refine Ev.congr (f := fun _ => some true) (fun k => ?_) (Ev.now true)
 rw [if_pos rfl, rgood_f zs, h2.good]
 rfl
theorem SubTakes_true (a b : List Node) (w : Bool) (ha : ∀ x ∈ a, NodeZ x) (hb : ∀ x ∈ b, NodeZ x) : Ev (fun k => bindlelaw20_SubTakes.f k a b w) true := by
 have hzs := all2 ha hb
 obtain ⟨r, h1, h2⟩ := light20_eq [a, b] (by simp) hzs
 unfold bindlelaw20_SubTakes.f
 refine Ev.bind h1 ?_
 cases r with
 | false => exact Ev.congr (f := fun _ => some true) (fun k => by rw [if_neg (by decide), bindlelaw20_answers.val]; rfl) (Ev.now true)
 | true =>
  have hz := okl_z (h2 rfl) hzs
  have za := (hz a (by simp)).1
  have zb := (hz b (by simp)).1
  refine Ev.congr (fun k => by rw [if_pos rfl, sub_f za zb, Option.bind_some, rgood_f za, Option.bind_some]) ?_
  cases ga : goodTree a with
  | false => exact Ev.congr (fun k => by rw [if_neg (by decide)]) (takes_bad w (fun h => by rw [ga] at h; exact absurd h.1 (by decide)))
  | true =>
   refine Ev.congr (fun k => by rw [if_pos rfl, rgood_f zb, Option.bind_some]) ?_
   cases gb : goodTree b with
   | false => exact takes_bad w (fun h => by rw [gb] at h; exact absurd h.2 (by decide))
   | true => exact takes_good za zb w ga gb
end Go.Proofs.YtfmphccoeinhcaaDoor

namespace Go.Proofs.YtfmphccoeinhcaaDoor
open Go.RowKit Go.Lib Go.Proofs.YtfmphccoeinhcaaDoorW.PrintWords
theorem laidOut : laidOutB Tryd.prog = true := by kernel_rfl
end Go.Proofs.YtfmphccoeinhcaaDoor

namespace Go.Proofs.YtfmphccoeinhcaaDoor
open Go.ChangeShapes Go.WideShapes Go.RowKit Go.Proofs.YtfmphccoeinhcaaDoorW.PrintWords
structure Opens {α : Type} (P : Program) (d : Kd α) (t : TypeId) (B : α → Prop) : Prop where
 sz : P.cellsOf t = d.sz
 get : ∀ {H : Type} {enc : TypeId × Value → H} {W : World} {fuel : Nat} {cs : List Value} {x : DataW H × List MemPlace},
  DataW.trod enc P W 0 (fun _ => true) true fuel t cs = some x → (∀ n ∈ x.1.weights P t, n ≤ reachBytes) → ∃ a, d.K W a cs ∧ B a
theorem Opens.int {P : Program} {t : TypeId} {k : IntKind} (ht : P.underlying t = some (.int k)) (hc : P.cellsOf t = 1) : Opens P (Kd.int k) t (fun n => (Lit.int k n).wf = true) :=
 ⟨hc, fun h _ => by
  obtain ⟨n, rfl, rfl, hw⟩ := DataW.trod_int ht h
  exact ⟨n, rfl, hw⟩⟩
theorem Opens.bool {P : Program} {t : TypeId} (ht : P.underlying t = some .bool) (hc : P.cellsOf t = 1) : Opens P Kd.bool t (fun _ => True) :=
 ⟨hc, fun h _ => by
  obtain ⟨n, rfl, rfl⟩ := DataW.trod_bool ht h
  exact ⟨n, rfl, trivial⟩⟩
theorem Opens.string {P : Program} {t : TypeId} (ht : P.underlying t = some .string) (hc : P.cellsOf t = 1) : Opens P Kd.string t (fun s => s.size ≤ 140737488351232) :=
 ⟨hc, fun h hw => by
  obtain ⟨s, rfl, rfl, _⟩ := DataW.trod_string ht h
  refine ⟨s, rfl, ?_⟩
  have := hw s.data.toList.length (by simp [DataW.weights])
  have e : s.data.toList.length = s.size := by simp
  rw [e] at this
  exact this⟩
theorem each_list {α : Type} {Q : Nat → α → Prop} : ∀ n : Nat, (∀ i, i < n → ∃ x, Q i x) → ∃ xs : List α, xs.length = n ∧ ∀ i x, xs[i]? = some x → Q i x := by
 intro n
 induction n with
 | zero => exact fun _ => ⟨[], rfl, fun i x h => by simp at h⟩
 | succ n ih =>
  intro h
  obtain ⟨xs, hl, hx⟩ := ih (fun i hi => h i (by omega))
  obtain ⟨y, hy⟩ := h n (by omega)
  refine ⟨xs ++ [y], by simp [hl], fun i x hi => ?_⟩
  rcases Nat.lt_or_ge i n with h1 | h1
  ·rw [List.getElem?_append_left (by omega)] at hi
   exact hx i x hi
  ·rw [List.getElem?_append_right (by omega)] at hi
   have h0 : i - xs.length = 0 := by
    have := (List.getElem?_eq_some_iff.1 hi).1
    simp at this
    omega
   rw [h0] at hi
   simp at hi
   subst hi
   obtain rfl : i = n := by omega
   exact hy
theorem weights_all {H : Type} {P : Program} {e : TypeId} : ∀ {l : List (DataW H)} {y : DataW H}, y ∈ l → ∀ n ∈ y.weights P e, n ∈ DataW.weightsAll P e l
 | z :: r, y, hy, n, hn => by
  simp only [DataW.weightsAll, List.mem_append]
  rcases List.mem_cons.1 hy with rfl | hy
  ·exact .inl hn
  ·exact .inr (weights_all hy n hn)
theorem add_add (a : Addr) (x y : Nat) : (a.add x).add y = a.add (x + y) := by
 unfold Addr.add
 split
 ·rename_i h
  subst h
  simp
 ·rename_i h
  split
  ·rename_i h2
   subst h2
   simp [h]
  ·rw [if_neg (by omega)]
   simp [Nat.add_assoc]
theorem Opens.slice {α : Type} {P : Program} {d : Kd α} {B : α → Prop} {t e : TypeId} (ht : P.underlying t = some (.slice e)) (hc : P.cellsOf t = 1) (h : Opens P d e B) :
  Opens P (Kd.slice e d) t (fun xs => xs.length * P.bytesOf e ≤ 140737488351232 ∧ ∀ x ∈ xs, B x) :=
 ⟨hc, fun {H enc W fuel cs x} hf hw => by
  rcases DataW.trod_slice ht hf with ⟨rfl, rfl⟩ | ⟨a, len, cap, elems, rest, n, _, rfl, rfl, hb, hl, hm, hlen, hel, hsp, hns⟩
  ·exact ⟨[], ⟨none, 0, rfl, Nat.le_refl _, Kd.C_nil d W⟩, by simp, fun x hx => by cases hx⟩
  ·simp only [DataW.weights, ht] at hw
   have each : ∀ i, i < len → ∃ z : α, B z ∧ ∃ c, c.length = d.sz ∧ d.K W z c ∧ ∀ j u, c[j]? = some u → W.cell? (a.add (i * d.sz + j)) = some u := by
    intro i hi
    have h1 := hel i hi
    have hi' : i < elems.length := by omega
    rw [List.getElem?_eq_getElem hi', Option.bind_eq_some_iff] at h1
    obtain ⟨c, hcs, hy⟩ := h1
    obtain ⟨-, h2, h3⟩ := World.cells?_some hcs
    obtain ⟨z, hz, hB⟩ := h.get hy (fun n hn => hw n (by
     simp only [List.mem_cons, List.mem_append]
     exact .inr (.inl (weights_all (List.mem_map.2 ⟨_, List.getElem_mem hi', rfl⟩) n hn))))
    refine ⟨z, hB, c, by rw [h2, h.sz], hz, fun j u hj => ?_⟩
    have hj' : j < P.cellsOf e := by
     have := (List.getElem?_eq_some_iff.1 hj).1
     omega
    have h4 := h3 j hj'
    rw [add_add, h.sz] at h4
    rw [h4, hj]
   obtain ⟨xs, hxl, hxs⟩ := each_list len each
   subst hxl
   have hz := hw _ (List.mem_cons_self ..)
   simp only [List.length_map] at hz
   have h5 : xs.length * P.bytesOf e ≤ (elems.length + rest.length) * P.bytesOf e := Nat.mul_le_mul_right _ (by omega)
   have h6 : reachBytes = 140737488351232 := rfl
   refine ⟨xs, ⟨some a, cap, rfl, hl, rfl, ?_, fun _ => ⟨a, rfl, fun j p hj => (hxs j p hj).2⟩⟩, by omega, fun x hx => ?_⟩
   ·have : maxLen = 9223372036854775807 := rfl
    omega
   ·obtain ⟨i, hi⟩ := List.getElem?_of_mem hx
    exact (hxs i x hi).1⟩
structure OpensF {α : Type} (P : Program) (d : Kd α) (fs : List Field) (o : Nat) (B : α → Prop) : Prop where
 get : ∀ {H : Type} {enc : TypeId × Value → H} {W : World} {n : Nat} {cs : List Value} {xs : List (DataW H × List MemPlace)}, xs.length = fs.length →
  (∀ (i : Nat) (f : Field), fs[i]? = some f → DataW.trod enc P W 0 (fun _ => true) true n f.type ((cs.drop f.offset).take (P.cellsOf f.type)) = xs[i]?) →
  (∀ m ∈ DataW.weightsEach P (fs.map (·.type)) (xs.map (·.1)), m ≤ reachBytes) → ∃ a, d.K W a ((cs.drop o).take d.sz) ∧ B a
theorem OpensF.one {α : Type} {P : Program} {d : Kd α} {B : α → Prop} {f : Field} {o : Nat} (ho : f.offset = o) (h : Opens P d f.type B) : OpensF P d [f] o B := by
 refine ⟨fun {H enc W n cs xs} hl hx hw => ?_⟩
 match xs, hl with
 | [x], _ =>
  have h0 := hx 0 f rfl
  rw [h.sz, ho] at h0
  simp only [List.getElem?_cons_zero] at h0
  exact h.get h0 (fun m hm => hw m (by simp only [List.map_cons, List.map_nil, DataW.weightsEach, List.mem_append]; exact .inl hm))
theorem OpensF.cons {α β : Type} {P : Program} {d : Kd α} {d' : Kd β} {B : α → Prop} {B' : β → Prop} {f : Field} {fs : List Field} {o : Nat} (ho : f.offset = o) (h : Opens P d f.type B) (h' : OpensF P d' fs (o + d.sz) B') :
  OpensF P (Kd.pair d d') (f :: fs) o (fun x => B x.1 ∧ B' x.2) := by
 refine ⟨fun {H enc W n cs xs} hl hx hw => ?_⟩
 match xs, hl with
 | x :: xs, hl =>
  have h0 := hx 0 f rfl
  rw [h.sz, ho] at h0
  simp only [List.getElem?_cons_zero] at h0
  obtain ⟨a, ha, hB⟩ := h.get h0 (fun m hm => hw m (by simp only [List.map_cons, DataW.weightsEach, List.mem_append]; exact .inl hm))
  obtain ⟨b, hb, hB'⟩ := h'.get (enc := enc) (W := W) (n := n) (cs := cs) (xs := xs) (by simpa using hl) (fun i g hg => by have := hx (i + 1) g (by simpa using hg); simpa using this)
   (fun m hm => hw m (by simp only [List.map_cons, DataW.weightsEach, List.mem_append]; exact .inr hm))
  refine ⟨(a, b), ⟨_, _, ?_, ha, hb⟩, hB, hB'⟩
  show (cs.drop o).take (d.sz + d'.sz) = _
  rw [List.take_add, List.drop_drop]
theorem Opens.struct {α β : Type} {P : Program} {d : Kd α} {B : α → Prop} {t : TypeId} {fs : Array Field} (ht : P.underlying t = some (.struct fs)) (hc : P.cellsOf t = d.sz) (h : OpensF P d fs.toList 0 B) (f : β → α) (g : α → β) (hg : ∀ a, f (g a) = a) :
  Opens P (Kd.iso d f) t (fun x => B (f x)) :=
 ⟨hc, fun {H enc W fuel cs x} hf hw => by
  obtain ⟨xs, n, _, rfl, hl, hlen, hx⟩ := DataW.trod_struct ht hf
  simp only [DataW.weights, ht] at hw
  obtain ⟨a, ha, hB⟩ := h.get (enc := enc) (W := W) (n := n) (cs := cs) (xs := xs) (by simpa using hlen) (fun i g hg => hx i g (by simpa using hg)) hw
  refine ⟨g a, ?_, by rw [hg]; exact hB⟩
  show d.K W (f (g a)) cs
  rw [hg]
  rw [List.drop_zero, List.take_of_length_le (by omega)] at ha
  exact ha⟩
theorem Opens.imp {α : Type} {P : Program} {d : Kd α} {t : TypeId} {B B' : α → Prop} (h : Opens P d t B) (hB : ∀ a, B a → B' a) : Opens P d t B' :=
 ⟨h.sz, fun hf hw => by obtain ⟨a, ha, hb⟩ := h.get hf hw; exact ⟨a, ha, hB a hb⟩⟩
theorem Opens.param {α : Type} {P : Program} {d : Kd α} {t : TypeId} {B : α → Prop} (h : Opens P d t B) {H : Type} {enc : TypeId × Value → H} {W : World} {v : Value} {x : DataW H} {p : List MemPlace} {ts : List TypeId} {ds : List (DataW H)} {j : Nat}
  (hsz : (DataW.weightsEach P ts ds).all (· ≤ reachBytes) = true) (hj : ts[j]? = some t) (hd : ds[j]? = some x) (ht : DataW.Trod enc P W 0 (fun _ => true) true t v x p) : ∃ a, d.K W a v.cells.toList ∧ B a := by
 obtain ⟨fuel, hf⟩ := ht
 exact h.get hf (fun n hn => by simpa using List.all_eq_true.1 hsz _ (DataW.weights_mem_each hj hd n hn))
theorem Opens.row {α : Type} {P : Program} {d : Kd α} {t e : TypeId} {B : List α → Prop} (h : Opens P (Kd.slice e d) t B) {H : Type} {enc : TypeId × Value → H} {W : World} {A : Option Addr} {n c : Nat} {x : DataW H} {p : List MemPlace} {ts : List TypeId} {ds : List (DataW H)} {j : Nat}
  (hsz : (DataW.weightsEach P ts ds).all (· ≤ reachBytes) = true) (hj : ts[j]? = some t) (hd : ds[j]? = some x) (ht : DataW.Trod enc P W 0 (fun _ => true) true t (.slice A n c) x p) :
  ∃ xs : List α, xs.length = n ∧ d.C W A n xs ∧ n ≤ c ∧ B xs := by
 obtain ⟨xs, ⟨A', c', he, hl, hC⟩, hB⟩ := h.param hsz hj hd ht
 simp [Value.cells] at he
 obtain ⟨rfl, rfl, rfl⟩ := he
 exact ⟨xs, rfl, hC, hl, hB⟩
end Go.Proofs.YtfmphccoeinhcaaDoor

namespace Go.Proofs.YtfmphccoeinhcaaDoor
open Go.RowKit Go.Proofs.YtfmphccoeinhcaaDoor.Print Go.Proofs.YtfmphccoeinhcaaDoorW.PrintWords
theorem o_str : Opens Tryd.prog Kd.string 9 (fun s => s.size ≤ 140737488351232) := Opens.string Tryd.underlying9 (by kernel_rfl)
theorem o_u8 : Opens Tryd.prog (Kd.int .u8) 5 (fun n => (Lit.int .u8 n).wf = true) := Opens.int Tryd.underlying5 (by kernel_rfl)
theorem o_int : Opens Tryd.prog (Kd.int .i64) 3 (fun n => (Lit.int .i64 n).wf = true) := Opens.int Tryd.underlying3 (by kernel_rfl)
theorem o_bytes : Opens Tryd.prog (Kd.slice 5 (Kd.int .u8)) 25 (fun xs => xs.length ≤ 140737488351232) :=
 (Opens.slice Tryd.underlying25 (by kernel_rfl) o_u8).imp (fun xs h => by
  have hb : Tryd.prog.bytesOf 5 = 1 := by kernel_rfl
  have h1 := h.1
  rw [hb] at h1
  omega)
theorem o_meta : Opens Tryd.prog k24 24 (fun _ => True) := by
 have h := Opens.struct Tryd.underlying24 (by kernel_rfl) (OpensF.cons rfl o_int (OpensF.cons rfl o_int (OpensF.cons rfl o_int (OpensF.one rfl o_int)))) (fun x : S24 => (x.f0, x.f1, x.f2, x.f3)) (fun p => ⟨p.1, p.2.1, p.2.2.1, p.2.2.2⟩) (fun _ => rfl)
 exact Opens.imp h (fun _ _ => trivial)
theorem o_node : Opens Tryd.prog k38 38 NodeZ := by
 have h := Opens.struct Tryd.underlying38 (by kernel_rfl) (OpensF.cons rfl o_str (OpensF.cons rfl o_str (OpensF.cons rfl o_str (OpensF.cons rfl o_u8 (OpensF.cons rfl o_meta (OpensF.one rfl o_bytes)))))) (fun x : S38 => (x.f0, x.f1, x.f2, x.f3, x.f4, x.f5)) (fun p => ⟨p.1, p.2.1, p.2.2.1, p.2.2.2.1, p.2.2.2.2.1, p.2.2.2.2.2⟩) (fun _ => rfl)
 exact Opens.imp h (fun _ hx => ⟨hx.1, hx.2.1, hx.2.2.1, hx.2.2.2.2.2⟩)
theorem o_nodes : Opens Tryd.prog (Kd.slice 38 k38) 31 (fun xs => (∀ x ∈ xs, NodeZ x) ∧ xs.length ≤ 140737488351232) :=
 (Opens.slice Tryd.underlying31 (by kernel_rfl) o_node).imp (fun xs h => ⟨h.2, by
  have hb : Tryd.prog.bytesOf 38 = 112 := by kernel_rfl
  have h1 := h.1
  rw [hb] at h1
  omega⟩)
end Go.Proofs.YtfmphccoeinhcaaDoor
