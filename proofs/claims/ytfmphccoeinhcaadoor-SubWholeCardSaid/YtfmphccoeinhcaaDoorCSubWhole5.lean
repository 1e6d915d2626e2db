/-
  Part of the proof that SubWhole answers true: texts put together (wip/bundle.py).
-/
import Derived.Test.YtfmphccoeinhcaaDoorCSubWhole4
import Derived.SizedLaws
import Derived.ChangeSlices
import Derived.OpenShut
namespace Go.Proofs.YtfmphccoeinhcaaDoor.Print
open Go.RowKit Go.Proofs.YtfmphccoeinhcaaDoorW.PrintWords Go.Proofs.YtfmphccoeinhcaaDoorW.PrintLast Go.Proofs.YtfmphccoeinhcaaDoorW.PrintMore
attribute [local go_sem] max2_int min2_int max_two min_two max_three min_three max_four min_four   -- for this text's walks alone
set_option linter.unusedVariables false
set_option linter.unusedSimpArgs false
abbrev q12_0 : Array Bool := #[false, false, false, false, false, false, false, false, false, false]
abbrev q12_1 : Array Bool := #[true, false, false, false, false, false, false, false, false, false]
abbrev q12_2 : Array Bool := #[true, true, false, false, false, false, false, false, false, false]
abbrev q12_3 : Array Bool := #[true, true, true, false, false, false, false, false, false, false]
abbrev q12_4 : Array Bool := #[true, true, true, true, false, false, false, false, false, false]
abbrev q12_5 : Array Bool := #[true, true, true, true, true, false, false, false, false, false]
abbrev q12_6 : Array Bool := #[true, true, true, true, true, true, false, false, false, false]
abbrev q12_7 : Array Bool := #[true, true, true, true, true, true, true, false, false, false]
abbrev q12_8 : Array Bool := #[true, true, true, true, true, true, true, true, false, false]
abbrev q12_9 : Array Bool := #[true, true, true, true, true, true, true, true, true, false]
abbrev q12_10 : Array Bool := #[true, true, true, true, true, true, true, true, true, true]
abbrev q12_11 : Array Bool := #[true, true, false, true, false, false, false, false, false, false]
abbrev q12_12 : Array Bool := #[true, true, false, true, true, false, false, false, false, false]
abbrev q12_13 : Array Bool := #[true, true, false, true, true, true, false, false, false, false]
abbrev q12_14 : Array Bool := #[false, false, false, false, false, false, false, false, false, false, false, false, false, false, false]
abbrev q12_15 : Array Bool := #[true, false, false, false, false, false, false, false, false, false, false, false, false, false, false]
abbrev q12_16 : Array Bool := #[true, true, false, false, false, false, false, false, false, false, false, false, false, false, false]
abbrev q12_17 : Array Bool := #[true, true, true, false, false, false, false, false, false, false, false, false, false, false, false]
abbrev q12_18 : Array Bool := #[true, true, true, true, false, false, false, false, false, false, false, false, false, false, false]
abbrev q12_19 : Array Bool := #[true, true, true, true, true, false, false, false, false, false, false, false, false, false, false]
abbrev q12_20 : Array Bool := #[true, true, true, true, true, true, false, false, false, false, false, false, false, false, false]
abbrev q12_21 : Array Bool := #[true, true, true, true, true, true, true, false, false, false, false, false, false, false, false]
abbrev q12_22 : Array Bool := #[true, true, true, true, true, true, true, true, false, false, false, false, false, false, false]
abbrev q12_23 : Array Bool := #[true, true, true, true, true, true, true, true, true, false, false, false, false, false, false]
abbrev q12_24 : Array Bool := #[true, true, true, true, true, true, true, true, true, true, false, false, false, false, false]
abbrev q12_25 : Array Bool := #[true, true, true, true, true, true, true, true, true, true, true, false, false, false, false]
abbrev q12_26 : Array Bool := #[true, true, true, true, true, true, true, true, true, true, true, true, false, false, false]
abbrev q12_27 : Array Bool := #[true, true, true, true, true, true, true, true, true, true, true, true, true, false, false]
abbrev q12_28 : Array Bool := #[true, true, true, true, true, true, true, true, true, true, true, true, true, true, false]
abbrev q12_29 : Array Bool := #[true, true, true, true, true, true, true, true, true, true, true, true, true, true, true]
abbrev q12_30 : Array Bool := #[true, true, true, true, true, true, false, true, false, false, false, false, false, false, false]
abbrev q12_31 : Array Bool := #[true, true, true, true, true, true, false, true, true, false, false, false, false, false, false]
abbrev q12_32 : Array Bool := #[true, true, true, true, true, true, false, true, true, true, false, false, false, false, false]
mutual
def bindlelaw20_SubWhole.j0 : Nat → List (S38) → List (S38) → Bool → Option (Bool)
 | 0, _, _, _ => none
 | k + 1, x0, x1, x28 => if x28 = true then ((bindlelaw20_answers.f).bind fun t780 => (some t780)) else ((sub_Subtract.f x0 x1 true).bind fun bt781 => (bindlelaw20_SubWhole.l0 k x0 x1 bt781.1 bt781.2 0 0))
def bindlelaw20_SubWhole.l0 : Nat → List (S38) → List (S38) → List (S38) → Int → Int → Int → Option (Bool)
 | 0, _, _, _, _, _, _ => none
 | k + 1, x0, x1, x5, x6, x7, x8 => if x8 < (x0.length : Int) then (if 0 ≤ x8 then ((bindleref08_Find.f k x1 ((rd_T38 x0 x8).f0)).bind fun bt787 => ((bindleref08_Find.f k x5 ((rd_T38 x0 x8).f0)).bind fun bt801 => (if bt787.2.2.2.2.2.2.2.2.2 = true then ((bindleref08_Equal.f bt787.1 bt787.2.1 bt787.2.2.1 bt787.2.2.2.1 bt787.2.2.2.2.1 bt787.2.2.2.2.2.1 bt787.2.2.2.2.2.2.1 bt787.2.2.2.2.2.2.2.1 bt787.2.2.2.2.2.2.2.2.1 ((rd_T38 x0 x8).f0) ((rd_T38 x0 x8).f1) ((rd_T38 x0 x8).f2) ((rd_T38 x0 x8).f3) ((rd_T38 x0 x8).f4.f0) ((rd_T38 x0 x8).f4.f1) ((rd_T38 x0 x8).f4.f2) ((rd_T38 x0 x8).f4.f3) ((rd_T38 x0 x8).f5)).bind fun t815 => (bindlelaw20_SubWhole.j2 k x0 x1 x5 x6 x7 x8 bt801.2.2.2.2.2.2.2.2.2 t815 bt801.1 bt801.2.1 bt801.2.2.1 bt801.2.2.2.1 bt801.2.2.2.2.1 bt801.2.2.2.2.2.1 bt801.2.2.2.2.2.2.1 bt801.2.2.2.2.2.2.2.1 bt801.2.2.2.2.2.2.2.2.1)) else (bindlelaw20_SubWhole.j2 k x0 x1 x5 x6 x7 x8 bt801.2.2.2.2.2.2.2.2.2 false bt801.1 bt801.2.1 bt801.2.2.1 bt801.2.2.2.1 bt801.2.2.2.2.1 bt801.2.2.2.2.2.1 bt801.2.2.2.2.2.2.1 bt801.2.2.2.2.2.2.2.1 bt801.2.2.2.2.2.2.2.2.1)))) else (none)) else ((bindlelaw20_answers.f).bind fun t785 => (if t785 = true then (if x6 = 0 then (some (x7 == (x5.length : Int))) else (some false)) else (some false)))
def bindlelaw20_SubWhole.j2 : Nat → List (S38) → List (S38) → List (S38) → Int → Int → Int → Bool → Bool → ByteArray → ByteArray → ByteArray → Int → Int → Int → Int → Int → List Int → Option (Bool)
 | 0, _, _, _, _, _, _, _, _, _, _, _, _, _, _, _, _, _ => none
 | k + 1, x0, x1, x5, x6, x7, x8, x12, x13, x814000, x814001, x814002, x814003, x814004, x814005, x814006, x814007, x814008 => if (x13 == x12) = true then (bindlelaw20_SubWhole.j3 k x0 x1 x5 x6 x7 x8 x12 true) else (if x12 = true then (if 0 ≤ x8 then (if x8 < (x0.length : Int) then ((bindleref08_Equal.f x814000 x814001 x814002 x814003 x814004 x814005 x814006 x814007 x814008 ((rd_T38 x0 x8).f0) ((rd_T38 x0 x8).f1) ((rd_T38 x0 x8).f2) ((rd_T38 x0 x8).f3) ((rd_T38 x0 x8).f4.f0) ((rd_T38 x0 x8).f4.f1) ((rd_T38 x0 x8).f4.f2) ((rd_T38 x0 x8).f4.f3) ((rd_T38 x0 x8).f5)).bind fun t817 => (bindlelaw20_SubWhole.j3 k x0 x1 x5 x6 x7 x8 x12 (!t817))) else (none)) else (none)) else (bindlelaw20_SubWhole.j3 k x0 x1 x5 x6 x7 x8 x12 false))
def bindlelaw20_SubWhole.j3 : Nat → List (S38) → List (S38) → List (S38) → Int → Int → Int → Bool → Bool → Option (Bool)
 | 0, _, _, _, _, _, _, _, _ => none
 | k + 1, x0, x1, x5, x6, x7, x8, x12, x85 => if x85 = true then (some false) else (if x12 = true then (bindlelaw20_SubWhole.l0 k x0 x1 x5 x6 (wrap64 (x7 + 1)) (wrap64 (x8 + 1))) else (bindlelaw20_SubWhole.l0 k x0 x1 x5 x6 x7 (wrap64 (x8 + 1))))
end
def bindlelaw20_SubWhole.f (k : Nat) (l0 : List (S38)) (l1 : List (S38)) : Option (Bool) := (bindlelaw20_light.f k (([l0, l1] : List (List (S38))))).bind fun t777 => (if t777 = true then ((bindleref08_GoodTree.f l0).bind fun t778 => (if t778 = true then ((bindleref08_GoodTree.f l1).bind fun t779 => (bindlelaw20_SubWhole.j0 k l0 l1 (!t779))) else (bindlelaw20_SubWhole.j0 k l0 l1 true))) else (bindlelaw20_SubWhole.j0 k l0 l1 true))
def bindlelaw20_SubWhole.T10 : Bool × List (List Nat × List Nat) := (true, [([], []), ([0], [0]), ([1], [1]), ([1], [1]), ([1], [1]), ([3, 4, 1], [1, 3, 4]), ([5, 1], [1, 5]), ([2, 6, 1, 1], [1, 2, 6]), ([1, 7], [1, 7]), ([8, 7, 0, 1, 2, 3, 4, 5, 6, 7, 8], [8])])
def bindlelaw20_SubWhole.B10 : List Nat := [0, 1, 3, 3, 3, 27, 59, 127, 255, 511]
theorem bindlelaw20_SubWhole.tab10 : rtab .any (opsOf Tryd.f12 10) = bindlelaw20_SubWhole.T10 := by kernel_rfl
theorem bindlelaw20_SubWhole.bits10 : waitsOk bindlelaw20_SubWhole.T10.2 bindlelaw20_SubWhole.B10 = true := by kernel_rfl
def bindlelaw20_SubWhole.T11 : Bool × List (List Nat × List Nat) := (true, [([], []), ([], []), ([0, 1], [0, 1]), ([2], [2]), ([3], [3]), ([4, 3, 3], [3, 4]), ([5], [5]), ([5], [5]), ([5], [5]), ([7, 8, 5], [5, 7, 8]), ([9, 5], [5, 9]), ([6, 10, 5, 5], [5, 6, 10]), ([11, 5], [5, 11]), ([5, 12, 3], [3, 5, 12]), ([3, 13], [3, 13])])
def bindlelaw20_SubWhole.B11 : List Nat := [0, 0, 3, 7, 15, 31, 63, 63, 63, 447, 959, 2047, 4095, 8191, 16383]
theorem bindlelaw20_SubWhole.tab11 : rtab .any (opsOf Tryd.f12 11) = bindlelaw20_SubWhole.T11 := by kernel_rfl
theorem bindlelaw20_SubWhole.bits11 : waitsOk bindlelaw20_SubWhole.T11.2 bindlelaw20_SubWhole.B11 = true := by kernel_rfl
set_option maxHeartbeats 8000000 in
set_option maxRecDepth 100000 in
theorem bindlelaw20_SubWhole.calls (k : Nat) (P0_ : Nat → Prop) (A0 : Option Addr) (c0 : Nat) (l0 : List (S38)) (P1_ : Nat → Prop) (A1 : Option Addr) (c1 : Nat) (l1 : List (S38)) (r : Bool) (w : World) (hT : Aside0 (Tabs w)) (hs0 : Kd.V k38 38 w w.heap.size (fun k_ => P0_ k_) (.slice A0 l0.length c0) l0) (hs1 : Kd.V k38 38 w w.heap.size (fun k_ => P1_ k_) (.slice A1 l1.length c1) l1) (h : bindlelaw20_SubWhole.f k l0 l1 = some r) :
  Calls Tryd.prog 12 #[.slice A0 l0.length c0, .slice A1 l1.length c1] w fun e w' => e = .returned (.bool r) ∧ Below w.heap.size w w' := by
 have hu38 := Tryd.underlying38
 have HO0 := A0_ (show Kd.V k38 38 w w.heap.size (fun k_ => ((P0_ k_ ∨ P1_ k_) ∨ w.heap.size ≤ k_)) (.slice A0 l0.length c0) l0 from Kd.V_mono hs0 (fun k_ hk => .inl (.inl hk)))
 have HO1 := A0_ (show Kd.V k38 38 w w.heap.size (fun k_ => ((P0_ k_ ∨ P1_ k_) ∨ w.heap.size ≤ k_)) (.slice A1 l1.length c1) l1 from Kd.V_mono hs1 (fun k_ hk => .inl (.inr hk)))
 have HB := A0_ (Below.refl w.heap.size w)
 have H : ((bindlelaw20_light.f k (([l0, l1] : List (List (S38))))).bind fun t777 => (if t777 = true then ((bindleref08_GoodTree.f l0).bind fun t778 => (if t778 = true then ((bindleref08_GoodTree.f l1).bind fun t779 => (bindlelaw20_SubWhole.j0 k l0 l1 (!t779))) else (bindlelaw20_SubWhole.j0 k l0 l1 true))) else (bindlelaw20_SubWhole.j0 k l0 l1 true))) = some r := h
 clear h
 have HC3 := A0_ H
 clear H
 go_enter Tryd.func12, Tryd.ntmps12
 go_upto_region 1 with (fail)
 go_cut [28] (fun v28 wc => ∃ (kq : Nat) (x28_2 : Bool), v28 = .bool x28_2 ∧ Aside0 (bindlelaw20_SubWhole.j0 kq l0 l1 x28_2 = some r) ∧ Aside0 (kq ≤ k) ∧ Aside0 (Kd.V k38 38 wc w.heap.size (fun k_ => ((P0_ k_ ∨ P1_ k_) ∨ w.heap.size ≤ k_)) (.slice A0 l0.length c0) l0) ∧ Aside0 (Kd.V k38 38 wc w.heap.size (fun k_ => ((P0_ k_ ∨ P1_ k_) ∨ w.heap.size ≤ k_)) (.slice A1 l1.length c1) l1) ∧ Aside0 (Below w.heap.size w wc))
 case first =>
  have H := HC3.out
  clear HC3
  obtain ⟨y774, hy774⟩ : ∃ y_ : List (List (S38)), y_ = (([l0, l1] : List (List (S38)))) := ⟨_, rfl⟩
  replace H : ((bindlelaw20_light.f k y774).bind fun t777 => (if t777 = true then ((bindleref08_GoodTree.f l0).bind fun t778 => (if t778 = true then ((bindleref08_GoodTree.f l1).bind fun t779 => (bindlelaw20_SubWhole.j0 k l0 l1 (!t779))) else (bindlelaw20_SubWhole.j0 k l0 l1 true))) else (bindlelaw20_SubWhole.j0 k l0 l1 true))) = some r := by first | (rw [hy774]; with_reducible exact H) | (have H2_ := (Option.bind_some _ _).symm.trans H; rw [hy774]; with_reducible exact H2_) | (have H2_ := (Option.bind_some _ _).symm.trans H; with_reducible exact H2_) | with_reducible exact H | (rw [hy774]; exact H) | exact H
  have Ny774 := A0_ hy774
  clear hy774
  replace H := Option.bind_eq_some_iff.mp H
  obtain ⟨t777, A40, H⟩ := H
  replace H : (if t777 = true then ((bindleref08_GoodTree.f l0).bind fun t778 => (if t778 = true then ((bindleref08_GoodTree.f l1).bind fun t779 => (bindlelaw20_SubWhole.j0 k l0 l1 (!t779))) else (bindlelaw20_SubWhole.j0 k l0 l1 true))) else (bindlelaw20_SubWhole.j0 k l0 l1 true)) = some r := H
  have A4 := A0_ A40
  clear A40
  by_cases c5 : t777 = true
  rotate_left
  ·replace c5 := Bool.eq_false_iff.mpr c5
   subst c5
   have H1 : (bindlelaw20_SubWhole.j0 k l0 l1 true) = some r := by rw [if_neg (show ¬ (false = true) by decide)] at H; exact H
   clear H
   have H := H1
   clear H1
   have H' := A0_ H
   clear H
   go_wp2_with (first | ((with_reducible refine gate_dst (N := 16) rfl ?_); (try (refine gate_guard (by rfl) ?_; dsimp only)); refine Kd.N_lit (Kd.slice 38 k38) _ 31 ?hg (N' := 16) ?hd (xs := ([l0, l1] : List (List (S38)))) (inner := [.slice A0 l0.length c0, .slice A1 l1.length c1]) (ok := (fun k_ => ((P0_ k_ ∨ P1_ k_) ∨ w.heap.size ≤ k_))) (okp := (fun k_ => ((P0_ k_ ∨ P1_ k_) ∨ w.heap.size ≤ k_))) ?hr ?hp (fun _ hk => hk) ((show ∀ k_, w.heap.size ≤ k_ → (fun k_ => ((P0_ k_ ∨ P1_ k_) ∨ w.heap.size ≤ k_)) k_ from fun k_ hk => (.inr (Nat.le_trans (below_size (wb_ HB.out)) hk))) _ (Nat.le_refl _)) (Below.refl _ _) (Nat.le_refl _) (by simp) ?_; (case hd => rfl); (case hg => rfl); (case hr => first | (go_simp; done) | (go_simp; rfl)); (case hp => exact (Reps.one (show Kd.FK (Kd.slice 38 k38) _ _ l0 [.slice A0 l0.length c0] from (Kd.FK_slice_mk (Kd.V_reads' (Kd.V_mono (ok' := (fun k_ => ((P0_ k_ ∨ P1_ k_) ∨ w.heap.size ≤ k_))) (HO0.out) (fun k_ hk => hk))).2.1 (Kd.V_F (Kd.V_mono (ok' := (fun k_ => ((P0_ k_ ∨ P1_ k_) ∨ w.heap.size ≤ k_))) (HO0.out) (fun k_ hk => hk))))) (Reps.one (show Kd.FK (Kd.slice 38 k38) _ _ l1 [.slice A1 l1.length c1] from (Kd.FK_slice_mk (Kd.V_reads' (Kd.V_mono (ok' := (fun k_ => ((P0_ k_ ∨ P1_ k_) ∨ w.heap.size ≤ k_))) (HO1.out) (fun k_ hk => hk))).2.1 (Kd.V_F (Kd.V_mono (ok' := (fun k_ => ((P0_ k_ ∨ P1_ k_) ∨ w.heap.size ≤ k_))) (HO1.out) (fun k_ hk => hk))))) (Reps.none _ _)))); intro v775 w18 ho19 hb hg_ hnew_; clear hg_ hnew_; (first | rw [← Ny774.out] at ho19 | (simp only [Int.reduceToNat] at ho19; rw [← Ny774.out] at ho19)); have n0_ := A0_ (Kd.V_elder' (wV_ HO0.out) (Kd.N_base ho19) hb); have n1_ := A0_ (Kd.V_elder' (wV_ HO1.out) (Kd.N_base ho19) hb); have n2_ := A0_ (Kd.N_lower ho19 (below_size (wb_ HB.out))); have n3_ := A0_ (below_step (wb_ HB.out) hb); clear HO0; clear HO1; clear HB; have HO0 := n0_; have HO1 := n1_; have HO776 := n2_; have HB := n3_; clear n0_ n1_ n2_ n3_; clear hb ho19; obtain ⟨Ao20, co20, eo20⟩ := Kd.N_slice HO776.out; subst eo20) | ((with_reducible refine gate_callee (f := 34) rfl ?_); refine goesL_ (some 17) rfl rfl Tryd.func34 (by kernel_rfl) rfl #[.slice Ao20 y774.length co20] rfl wm_ ?_; (with_reducible refine (bindlelaw20_light.calls k _ _ y774 false _ ?side1 ?side2 A4.out).mono ?_); (case side1 => exact wc_ (Kd.N_reads' HO776.out).2.2); (case side2 => exact (Kd.N_reads' HO776.out).2.1); rintro e w' ⟨rfl, ⟨nd, rfl⟩⟩; refine ⟨_, rfl, ?_⟩))
   go_meet
   case rel => exact ⟨_, (true), wr_, H', ⟨by first | omega | exact Nat.le_refl _⟩, ⟨by (with_reducible repeat (first | apply Va_ | apply VN_ | apply V1_)); exact Kd.V_mono HO0.out (fun _ hk => hk.1)⟩, ⟨by (with_reducible repeat (first | apply Va_ | apply VN_ | apply V1_)); exact Kd.V_mono HO1.out (fun _ hk => hk.1)⟩, ⟨wb_ HB.out⟩⟩
  subst c5
  have H1 : ((bindleref08_GoodTree.f l0).bind fun t778 => (if t778 = true then ((bindleref08_GoodTree.f l1).bind fun t779 => (bindlelaw20_SubWhole.j0 k l0 l1 (!t779))) else (bindlelaw20_SubWhole.j0 k l0 l1 true))) = some r := by rw [if_pos rfl] at H; exact H
  clear H
  have H := H1
  clear H1
  replace H := Option.bind_eq_some_iff.mp H
  obtain ⟨t778, A60, H⟩ := H
  replace H : (if t778 = true then ((bindleref08_GoodTree.f l1).bind fun t779 => (bindlelaw20_SubWhole.j0 k l0 l1 (!t779))) else (bindlelaw20_SubWhole.j0 k l0 l1 true)) = some r := H
  have A6 := A0_ A60
  clear A60
  by_cases c7 : t778 = true
  rotate_left
  ·replace c7 := Bool.eq_false_iff.mpr c7
   subst c7
   have H1 : (bindlelaw20_SubWhole.j0 k l0 l1 true) = some r := by rw [if_neg (show ¬ (false = true) by decide)] at H; exact H
   clear H
   have H := H1
   clear H1
   have H' := A0_ H
   clear H
   go_wp2_with (first | ((with_reducible refine gate_dst (N := 16) rfl ?_); (try (refine gate_guard (by rfl) ?_; dsimp only)); refine Kd.N_lit (Kd.slice 38 k38) _ 31 ?hg (N' := 16) ?hd (xs := ([l0, l1] : List (List (S38)))) (inner := [.slice A0 l0.length c0, .slice A1 l1.length c1]) (ok := (fun k_ => ((P0_ k_ ∨ P1_ k_) ∨ w.heap.size ≤ k_))) (okp := (fun k_ => ((P0_ k_ ∨ P1_ k_) ∨ w.heap.size ≤ k_))) ?hr ?hp (fun _ hk => hk) ((show ∀ k_, w.heap.size ≤ k_ → (fun k_ => ((P0_ k_ ∨ P1_ k_) ∨ w.heap.size ≤ k_)) k_ from fun k_ hk => (.inr (Nat.le_trans (below_size (wb_ HB.out)) hk))) _ (Nat.le_refl _)) (Below.refl _ _) (Nat.le_refl _) (by simp) ?_; (case hd => rfl); (case hg => rfl); (case hr => first | (go_simp; done) | (go_simp; rfl)); (case hp => exact (Reps.one (show Kd.FK (Kd.slice 38 k38) _ _ l0 [.slice A0 l0.length c0] from (Kd.FK_slice_mk (Kd.V_reads' (Kd.V_mono (ok' := (fun k_ => ((P0_ k_ ∨ P1_ k_) ∨ w.heap.size ≤ k_))) (HO0.out) (fun k_ hk => hk))).2.1 (Kd.V_F (Kd.V_mono (ok' := (fun k_ => ((P0_ k_ ∨ P1_ k_) ∨ w.heap.size ≤ k_))) (HO0.out) (fun k_ hk => hk))))) (Reps.one (show Kd.FK (Kd.slice 38 k38) _ _ l1 [.slice A1 l1.length c1] from (Kd.FK_slice_mk (Kd.V_reads' (Kd.V_mono (ok' := (fun k_ => ((P0_ k_ ∨ P1_ k_) ∨ w.heap.size ≤ k_))) (HO1.out) (fun k_ hk => hk))).2.1 (Kd.V_F (Kd.V_mono (ok' := (fun k_ => ((P0_ k_ ∨ P1_ k_) ∨ w.heap.size ≤ k_))) (HO1.out) (fun k_ hk => hk))))) (Reps.none _ _)))); intro v775 w14 ho15 hb hg_ hnew_; clear hg_ hnew_; (first | rw [← Ny774.out] at ho15 | (simp only [Int.reduceToNat] at ho15; rw [← Ny774.out] at ho15)); have n0_ := A0_ (Kd.V_elder' (wV_ HO0.out) (Kd.N_base ho15) hb); have n1_ := A0_ (Kd.V_elder' (wV_ HO1.out) (Kd.N_base ho15) hb); have n2_ := A0_ (Kd.N_lower ho15 (below_size (wb_ HB.out))); have n3_ := A0_ (below_step (wb_ HB.out) hb); clear HO0; clear HO1; clear HB; have HO0 := n0_; have HO1 := n1_; have HO776 := n2_; have HB := n3_; clear n0_ n1_ n2_ n3_; clear hb ho15; obtain ⟨Ao16, co16, eo16⟩ := Kd.N_slice HO776.out; subst eo16) | ((with_reducible refine gate_callee (f := 34) rfl ?_); refine goesL_ (some 17) rfl rfl Tryd.func34 (by kernel_rfl) rfl #[.slice Ao16 y774.length co16] rfl wm_ ?_; (with_reducible refine (bindlelaw20_light.calls k _ _ y774 true _ ?side1 ?side2 A4.out).mono ?_); (case side1 => exact wc_ (Kd.N_reads' HO776.out).2.2); (case side2 => exact (Kd.N_reads' HO776.out).2.1); rintro e w' ⟨rfl, ⟨nd, rfl⟩⟩; refine ⟨_, rfl, ?_⟩) | (go_at_call 26; (with_reducible refine (bindleref08_GoodTree.calls _ _ l0 false _ ?side1 ?side2 A6.out).mono ?_); (case side1 => exact wc_ (Kd.V_reads' HO0.out).2.2); (case side2 => exact (Kd.V_reads' HO0.out).2.1); rintro e w17 ⟨rfl, hb⟩; have n0_ := A0_ (Vb_ (wV_ HO0.out) hb); have n1_ := A0_ (Vb_ (wV_ HO1.out) hb); have n2_ := A0_ (Kd.N_below (wN_ HO776.out) hb); have n3_ := A0_ (below_step (wb_ HB.out) hb); clear HO0; clear HO1; clear HO776; clear HB; have HO0 := n0_; have HO1 := n1_; have HO776 := n2_; have HB := n3_; clear n0_ n1_ n2_ n3_; (try clear hb); (try clear hb2); (try clear hk); (try clear hi)))
   go_meet
   case rel => exact ⟨_, (true), wr_, H', ⟨by first | omega | exact Nat.le_refl _⟩, ⟨by (with_reducible repeat (first | apply Va_ | apply VN_ | apply V1_)); exact Kd.V_mono HO0.out (fun _ hk => hk.1)⟩, ⟨by (with_reducible repeat (first | apply Va_ | apply VN_ | apply V1_)); exact Kd.V_mono HO1.out (fun _ hk => hk.1)⟩, ⟨wb_ HB.out⟩⟩
  subst c7
  have H1 : ((bindleref08_GoodTree.f l1).bind fun t779 => (bindlelaw20_SubWhole.j0 k l0 l1 (!t779))) = some r := by rw [if_pos rfl] at H; exact H
  clear H
  have H := H1
  clear H1
  replace H := Option.bind_eq_some_iff.mp H
  obtain ⟨t779, A80, H⟩ := H
  replace H : (bindlelaw20_SubWhole.j0 k l0 l1 (!t779)) = some r := H
  have A8 := A0_ A80
  clear A80
  have H' := A0_ H
  clear H
  go_wp2_with (first | ((with_reducible refine gate_dst (N := 16) rfl ?_); (try (refine gate_guard (by rfl) ?_; dsimp only)); refine Kd.N_lit (Kd.slice 38 k38) _ 31 ?hg (N' := 16) ?hd (xs := ([l0, l1] : List (List (S38)))) (inner := [.slice A0 l0.length c0, .slice A1 l1.length c1]) (ok := (fun k_ => ((P0_ k_ ∨ P1_ k_) ∨ w.heap.size ≤ k_))) (okp := (fun k_ => ((P0_ k_ ∨ P1_ k_) ∨ w.heap.size ≤ k_))) ?hr ?hp (fun _ hk => hk) ((show ∀ k_, w.heap.size ≤ k_ → (fun k_ => ((P0_ k_ ∨ P1_ k_) ∨ w.heap.size ≤ k_)) k_ from fun k_ hk => (.inr (Nat.le_trans (below_size (wb_ HB.out)) hk))) _ (Nat.le_refl _)) (Below.refl _ _) (Nat.le_refl _) (by simp) ?_; (case hd => rfl); (case hg => rfl); (case hr => first | (go_simp; done) | (go_simp; rfl)); (case hp => exact (Reps.one (show Kd.FK (Kd.slice 38 k38) _ _ l0 [.slice A0 l0.length c0] from (Kd.FK_slice_mk (Kd.V_reads' (Kd.V_mono (ok' := (fun k_ => ((P0_ k_ ∨ P1_ k_) ∨ w.heap.size ≤ k_))) (HO0.out) (fun k_ hk => hk))).2.1 (Kd.V_F (Kd.V_mono (ok' := (fun k_ => ((P0_ k_ ∨ P1_ k_) ∨ w.heap.size ≤ k_))) (HO0.out) (fun k_ hk => hk))))) (Reps.one (show Kd.FK (Kd.slice 38 k38) _ _ l1 [.slice A1 l1.length c1] from (Kd.FK_slice_mk (Kd.V_reads' (Kd.V_mono (ok' := (fun k_ => ((P0_ k_ ∨ P1_ k_) ∨ w.heap.size ≤ k_))) (HO1.out) (fun k_ hk => hk))).2.1 (Kd.V_F (Kd.V_mono (ok' := (fun k_ => ((P0_ k_ ∨ P1_ k_) ∨ w.heap.size ≤ k_))) (HO1.out) (fun k_ hk => hk))))) (Reps.none _ _)))); intro v775 w9 ho10 hb hg_ hnew_; clear hg_ hnew_; (first | rw [← Ny774.out] at ho10 | (simp only [Int.reduceToNat] at ho10; rw [← Ny774.out] at ho10)); have n0_ := A0_ (Kd.V_elder' (wV_ HO0.out) (Kd.N_base ho10) hb); have n1_ := A0_ (Kd.V_elder' (wV_ HO1.out) (Kd.N_base ho10) hb); have n2_ := A0_ (Kd.N_lower ho10 (below_size (wb_ HB.out))); have n3_ := A0_ (below_step (wb_ HB.out) hb); clear HO0; clear HO1; clear HB; have HO0 := n0_; have HO1 := n1_; have HO776 := n2_; have HB := n3_; clear n0_ n1_ n2_ n3_; clear hb ho10; obtain ⟨Ao11, co11, eo11⟩ := Kd.N_slice HO776.out; subst eo11) | ((with_reducible refine gate_callee (f := 34) rfl ?_); refine goesL_ (some 17) rfl rfl Tryd.func34 (by kernel_rfl) rfl #[.slice Ao11 y774.length co11] rfl wm_ ?_; (with_reducible refine (bindlelaw20_light.calls k _ _ y774 true _ ?side1 ?side2 A4.out).mono ?_); (case side1 => exact wc_ (Kd.N_reads' HO776.out).2.2); (case side2 => exact (Kd.N_reads' HO776.out).2.1); rintro e w' ⟨rfl, ⟨nd, rfl⟩⟩; refine ⟨_, rfl, ?_⟩) | (go_at_call 26; (with_reducible refine (bindleref08_GoodTree.calls _ _ l0 true _ ?side1 ?side2 A6.out).mono ?_); (case side1 => exact wc_ (Kd.V_reads' HO0.out).2.2); (case side2 => exact (Kd.V_reads' HO0.out).2.1); rintro e w12 ⟨rfl, hb⟩; have n0_ := A0_ (Vb_ (wV_ HO0.out) hb); have n1_ := A0_ (Vb_ (wV_ HO1.out) hb); have n2_ := A0_ (Kd.N_below (wN_ HO776.out) hb); have n3_ := A0_ (below_step (wb_ HB.out) hb); clear HO0; clear HO1; clear HO776; clear HB; have HO0 := n0_; have HO1 := n1_; have HO776 := n2_; have HB := n3_; clear n0_ n1_ n2_ n3_; (try clear hb); (try clear hb2); (try clear hk); (try clear hi)) | (go_at_call 26; (with_reducible refine (bindleref08_GoodTree.calls _ _ l1 t779 _ ?side1 ?side2 A8.out).mono ?_); (case side1 => exact wc_ (Kd.V_reads' HO1.out).2.2); (case side2 => exact (Kd.V_reads' HO1.out).2.1); rintro e w13 ⟨rfl, hb⟩; have n0_ := A0_ (Vb_ (wV_ HO0.out) hb); have n1_ := A0_ (Vb_ (wV_ HO1.out) hb); have n2_ := A0_ (Kd.N_below (wN_ HO776.out) hb); have n3_ := A0_ (below_step (wb_ HB.out) hb); clear HO0; clear HO1; clear HO776; clear HB; have HO0 := n0_; have HO1 := n1_; have HO776 := n2_; have HB := n3_; clear n0_ n1_ n2_ n3_; (try clear hb); (try clear hb2); (try clear hk); (try clear hi)))
  go_meet
  case rel => exact ⟨_, (!t779), wr_, H', ⟨by first | omega | exact Nat.le_refl _⟩, ⟨by (with_reducible repeat (first | apply Va_ | apply VN_ | apply V1_)); exact Kd.V_mono HO0.out (fun _ hk => hk.1)⟩, ⟨by (with_reducible repeat (first | apply Va_ | apply VN_ | apply V1_)); exact Kd.V_mono HO1.out (fun _ hk => hk.1)⟩, ⟨wb_ HB.out⟩⟩
 case rest =>
  clear HC3
  try clear c1
  try clear p2
  try clear c3
  try clear c5
  try clear c7
  try clear c12
  obtain ⟨kq, x28_2, rfl, HA, HJ2, HO_0, HO_1, HB⟩ := hcut
  cases kq with
  | zero => exact absurd HA.out (by simp [bindlelaw20_SubWhole.j0])
  | succ kj2 =>
   have H := HA.out
   clear HA
   simp only [bindlelaw20_SubWhole.j0] at H
   by_cases c21 : x28_2 = true
   ·subst c21
    have H1 : ((bindlelaw20_answers.f).bind fun t780 => (some t780)) = some r := by rw [if_pos rfl] at H; exact H
    clear H
    have H := H1
    clear H1
    replace H := Option.bind_eq_some_iff.mp H
    obtain ⟨t780, A220, H⟩ := H
    replace H : (some t780) = some r := H
    have A22 := A0_ A220
    clear A220
    obtain rfl := Option.some.inj H
    go_wp2_with (first | ((with_reducible refine gate_callee (f := 35) rfl ?_); refine goesL_ (some 29) rfl rfl Tryd.func35 (by kernel_rfl) rfl #[] rfl wm_ ?_; (with_reducible refine (bindlelaw20_answers.calls  t780 _ ?side1 A22.out).mono ?_); (case side1 => exact A0_ (Tabs.below hT.out (wb_ HB.out))); rintro e w23 ⟨rfl, hb⟩; refine ⟨_, rfl, ?_⟩; have n0_ := A0_ (Vb_ (wV_ HO_0.out) hb); have n1_ := A0_ (Vb_ (wV_ HO_1.out) hb); have n2_ := A0_ (below_step (wb_ HB.out) hb); clear HO_0; clear HO_1; clear HB; have HO_0 := n0_; have HO_1 := n1_; have HB := n2_; clear n0_ n1_ n2_; (try clear hb); (try clear hb2); (try clear hk); (try clear hi)))
    go_ret
    exact ⟨we_, wb_ HB.out⟩
   replace c21 := Bool.eq_false_iff.mpr c21
   subst c21
   have H1 : ((sub_Subtract.f l0 l1 true).bind fun bt781 => (bindlelaw20_SubWhole.l0 kj2 l0 l1 bt781.1 bt781.2 0 0)) = some r := by rw [if_neg (show ¬ (false = true) by decide)] at H; exact H
   clear H
   have H := H1
   clear H1
   replace H := Option.bind_eq_some_iff.mp H
   obtain ⟨⟨t781, t784⟩, A240, H⟩ := H
   replace H : (bindlelaw20_SubWhole.l0 kj2 l0 l1 t781 t784 0 0) = some r := H
   have A24 := A0_ A240
   clear A240
   have H' := A0_ H
   clear H
   go_wp2_with (first | ((with_reducible refine gate_callee (f := 38) rfl ?_); refine goesL_ (some 33) rfl rfl Tryd.func38 (by kernel_rfl) rfl #[.slice A0 l0.length c0, .slice A1 l1.length c1, .bool true] rfl wm_ ?_; (with_reducible refine (sub_Subtract.calls _ _ l0 _ _ l1 true t781 t784 _ ?side1 ?side2 ?side3 ?side4 ?side5 A24.out).mono ?_); (case side1 => exact A0_ (Tabs.below hT.out (wb_ HB.out))); (case side2 => exact wc_ (Kd.V_reads' HO_0.out).2.2); (case side3 => exact (Kd.V_reads' HO_0.out).2.1); (case side4 => exact wc_ (Kd.V_reads' HO_1.out).2.2); (case side5 => exact (Kd.V_reads' HO_1.out).2.1); rintro e w25 ⟨v782, rfl, ho0, hb⟩; refine ⟨_, rfl, ?_⟩; have n0_ := A0_ (Vb_ (wV_ HO_0.out) hb); have n1_ := A0_ (Vb_ (wV_ HO_1.out) hb); have n2_ := A0_ (Kd.V_lower (Kd.V_mono (ok' := fun k_ => ((P0_ k_ ∨ P1_ k_) ∨ w.heap.size ≤ k_)) ho0 (fun k_ hk_ => (.inr (Nat.le_trans (below_size (wb_ HB.out)) hk_)))) (below_size (wb_ HB.out))); have n3_ := A0_ (below_step (wb_ HB.out) hb); clear HO_0; clear HO_1; clear HB; have HO_0 := n0_; have HO_1 := n1_; have HO783 := n2_; have HB := n3_; clear n0_ n1_ n2_ n3_; (try clear hb); (try clear hb2); (try clear hk); (try clear hi); (try clear ho0)))
   go_loopg [7, 8] kj2 (fun kq v7 v8 w' => ∃ (x7_2 : Int) (x8_2 : Int), v7 = .int .i64 x7_2 ∧ v8 = .int .i64 x8_2 ∧ Aside0 (bindlelaw20_SubWhole.l0 kq l0 l1 t781 t784 x7_2 x8_2 = some r) ∧ Aside0 (kq ≤ kj2) ∧ Aside0 (Kd.V k38 38 w' w.heap.size (fun k_ => ((P0_ k_ ∨ P1_ k_) ∨ w.heap.size ≤ k_)) (.slice A0 l0.length c0) l0) ∧ Aside0 (Kd.V k38 38 w' w.heap.size (fun k_ => ((P0_ k_ ∨ P1_ k_) ∨ w.heap.size ≤ k_)) (.slice A1 l1.length c1) l1) ∧ Aside0 (Kd.V k38 38 w' w.heap.size (fun k_ => ((P0_ k_ ∨ P1_ k_) ∨ w.heap.size ≤ k_)) v782 t781) ∧ Aside0 (Below w.heap.size w w'))
   case atStart => exact ⟨(0), (0), wr_, wr_, H', ⟨Nat.le_refl _⟩, ⟨wV_ HO_0.out⟩, ⟨wV_ HO_1.out⟩, ⟨wV_ HO783.out⟩, ⟨wb_ HB.out⟩⟩
   case round =>
    clear H'
    try clear c1
    try clear c2
    try clear p2
    try clear c3
    try clear c5
    try clear c7
    try clear c12
    try clear c21
    try clear p2
    obtain ⟨x7_2, x8_2, rfl, rfl, HA, HK2, HO_0, HO_1, HO_5, HB⟩ := hrel
    cases gk with
    | zero => exact absurd HA.out (by simp [bindlelaw20_SubWhole.l0])
    | succ k2 =>
     have H := HA.out
     clear HA
     simp only [bindlelaw20_SubWhole.l0] at H
     by_cases c26 : x8_2 < (l0.length : Int)
     rotate_left
     ·rw [if_neg c26] at H
      have c26b0 : decide (x8_2 < (l0.length : Int)) = false := decide_eq_false c26
      clear c26
      replace H := Option.bind_eq_some_iff.mp H
      obtain ⟨t785, A610, H⟩ := H
      replace H : (if t785 = true then (if t784 = 0 then (some (x7_2 == (t781.length : Int))) else (some false)) else (some false)) = some r := H
      have A61 := A0_ A610
      clear A610
      by_cases c62 : t785 = true
      rotate_left
      ·replace c62 := Bool.eq_false_iff.mpr c62
       subst c62
       have H1 : (some false) = some r := by rw [if_neg (show ¬ (false = true) by decide)] at H; exact H
       clear H
       have H := H1
       clear H1
       obtain rfl := Option.some.inj H
       go_wp2_with (first | ((with_reducible refine gate_callee (f := 35) rfl ?_); refine goesL_ (some 89) rfl rfl Tryd.func35 (by kernel_rfl) rfl #[] rfl wm_ ?_; (with_reducible refine (bindlelaw20_answers.calls  false _ ?side1 A61.out).mono ?_); (case side1 => exact A0_ (Tabs.below hT.out (wb_ HB.out))); rintro e w67 ⟨rfl, hb⟩; refine ⟨_, rfl, ?_⟩; have n0_ := A0_ (Vb_ (wV_ HO_0.out) hb); have n1_ := A0_ (Vb_ (wV_ HO_1.out) hb); have n2_ := A0_ (Vb_ (wV_ HO_5.out) hb); have n3_ := A0_ (below_step (wb_ HB.out) hb); clear HO_0; clear HO_1; clear HO_5; clear HB; have HO_0 := n0_; have HO_1 := n1_; have HO_5 := n2_; have HB := n3_; clear n0_ n1_ n2_ n3_; (try clear hb); (try clear hb2); (try clear hk); (try clear hi)))
       go_ret
       exact ⟨we_, wb_ HB.out⟩
      subst c62
      have H1 : (if t784 = 0 then (some (x7_2 == (t781.length : Int))) else (some false)) = some r := by rw [if_pos rfl] at H; exact H
      clear H
      have H := H1
      clear H1
      by_cases c63 : t784 = 0
      rotate_left
      ·rw [if_neg c63] at H
       have c63b0 : (t784 == 0) = false := beq_eq_false_iff_ne.mpr c63
       have c63b1 : (t784 != 0) = true := bne_iff_ne.mpr c63
       obtain rfl := Option.some.inj H
       go_wp2_with (first | ((with_reducible refine gate_callee (f := 35) rfl ?_); refine goesL_ (some 89) rfl rfl Tryd.func35 (by kernel_rfl) rfl #[] rfl wm_ ?_; (with_reducible refine (bindlelaw20_answers.calls  true _ ?side1 A61.out).mono ?_); (case side1 => exact A0_ (Tabs.below hT.out (wb_ HB.out))); rintro e w66 ⟨rfl, hb⟩; refine ⟨_, rfl, ?_⟩; have n0_ := A0_ (Vb_ (wV_ HO_0.out) hb); have n1_ := A0_ (Vb_ (wV_ HO_1.out) hb); have n2_ := A0_ (Vb_ (wV_ HO_5.out) hb); have n3_ := A0_ (below_step (wb_ HB.out) hb); clear HO_0; clear HO_1; clear HO_5; clear HB; have HO_0 := n0_; have HO_1 := n1_; have HO_5 := n2_; have HB := n3_; clear n0_ n1_ n2_ n3_; (try clear hb); (try clear hb2); (try clear hk); (try clear hi)))
       go_ret
       exact ⟨we_, wb_ HB.out⟩
      rw [if_pos c63] at H
      have c63b0 : (t784 == 0) = true := beq_iff_eq.mpr c63
      have c63b1 : (t784 != 0) = false := bne_eq_false_iff_eq.mpr c63
      clear c63
      obtain rfl := Option.some.inj H
      go_wp2_with (first | ((with_reducible refine gate_callee (f := 35) rfl ?_); refine goesL_ (some 89) rfl rfl Tryd.func35 (by kernel_rfl) rfl #[] rfl wm_ ?_; (with_reducible refine (bindlelaw20_answers.calls  true _ ?side1 A61.out).mono ?_); (case side1 => exact A0_ (Tabs.below hT.out (wb_ HB.out))); rintro e w64 ⟨rfl, hb⟩; refine ⟨_, rfl, ?_⟩; have n0_ := A0_ (Vb_ (wV_ HO_0.out) hb); have n1_ := A0_ (Vb_ (wV_ HO_1.out) hb); have n2_ := A0_ (Vb_ (wV_ HO_5.out) hb); have n3_ := A0_ (below_step (wb_ HB.out) hb); clear HO_0; clear HO_1; clear HO_5; clear HB; have HO_0 := n0_; have HO_1 := n1_; have HO_5 := n2_; have HB := n3_; clear n0_ n1_ n2_ n3_; (try clear hb); (try clear hb2); (try clear hk); (try clear hi); obtain ⟨Ao65, co65, eo65⟩ := Kd.V_slice HO_5.out; subst eo65))
      go_ret
      exact ⟨we_, wb_ HB.out⟩
     rw [if_pos c26] at H
     have c26b0 : decide (x8_2 < (l0.length : Int)) = true := decide_eq_true c26
     clear c26
     by_cases c27 : 0 ≤ x8_2
     rotate_left
     ·rw [if_neg c27] at H
      exact absurd H (by simp)
     rw [if_pos c27] at H
     have c27b0 : decide (0 ≤ x8_2) = true := decide_eq_true c27
     clear c27
     replace H := Option.bind_eq_some_iff.mp H
     obtain ⟨⟨t787, t788, t789, t790, t791, t792, t793, t794, t795, t798⟩, A280, H⟩ := H
     replace H : ((bindleref08_Find.f k2 t781 ((rd_T38 l0 x8_2).f0)).bind fun bt801 => (if t798 = true then ((bindleref08_Equal.f t787 t788 t789 t790 t791 t792 t793 t794 t795 ((rd_T38 l0 x8_2).f0) ((rd_T38 l0 x8_2).f1) ((rd_T38 l0 x8_2).f2) ((rd_T38 l0 x8_2).f3) ((rd_T38 l0 x8_2).f4.f0) ((rd_T38 l0 x8_2).f4.f1) ((rd_T38 l0 x8_2).f4.f2) ((rd_T38 l0 x8_2).f4.f3) ((rd_T38 l0 x8_2).f5)).bind fun t815 => (bindlelaw20_SubWhole.j2 k2 l0 l1 t781 t784 x7_2 x8_2 bt801.2.2.2.2.2.2.2.2.2 t815 bt801.1 bt801.2.1 bt801.2.2.1 bt801.2.2.2.1 bt801.2.2.2.2.1 bt801.2.2.2.2.2.1 bt801.2.2.2.2.2.2.1 bt801.2.2.2.2.2.2.2.1 bt801.2.2.2.2.2.2.2.2.1)) else (bindlelaw20_SubWhole.j2 k2 l0 l1 t781 t784 x7_2 x8_2 bt801.2.2.2.2.2.2.2.2.2 false bt801.1 bt801.2.1 bt801.2.2.1 bt801.2.2.2.1 bt801.2.2.2.2.1 bt801.2.2.2.2.2.1 bt801.2.2.2.2.2.2.1 bt801.2.2.2.2.2.2.2.1 bt801.2.2.2.2.2.2.2.2.1))) = some r := H
     have A28 := A0_ A280
     clear A280
     replace H := Option.bind_eq_some_iff.mp H
     obtain ⟨⟨t801, t802, t803, t804, t805, t806, t807, t808, t809, t812⟩, A290, H⟩ := H
     replace H : (if t798 = true then ((bindleref08_Equal.f t787 t788 t789 t790 t791 t792 t793 t794 t795 ((rd_T38 l0 x8_2).f0) ((rd_T38 l0 x8_2).f1) ((rd_T38 l0 x8_2).f2) ((rd_T38 l0 x8_2).f3) ((rd_T38 l0 x8_2).f4.f0) ((rd_T38 l0 x8_2).f4.f1) ((rd_T38 l0 x8_2).f4.f2) ((rd_T38 l0 x8_2).f4.f3) ((rd_T38 l0 x8_2).f5)).bind fun t815 => (bindlelaw20_SubWhole.j2 k2 l0 l1 t781 t784 x7_2 x8_2 t812 t815 t801 t802 t803 t804 t805 t806 t807 t808 t809)) else (bindlelaw20_SubWhole.j2 k2 l0 l1 t781 t784 x7_2 x8_2 t812 false t801 t802 t803 t804 t805 t806 t807 t808 t809)) = some r := H
     have A29 := A0_ A290
     clear A290
     have HC30 := A0_ H
     clear H
     have p786 : 0 ≤ (x8_2 : Int) := wd_
     have q786 : x8_2 < (l0.length : Int) := wd_
     obtain ⟨ad786, A786_8, c786_8, e786, hx786_0, hx786_1, hx786_2, hx786_3, hx786_4, hx786_5, hx786_6, hx786_7, hx786_8, hl786_8, hi786_8⟩ := at_T38 (Kd.V_reads' HO_0.out).2.2 x8_2 p786 q786
     cases e786
     obtain ⟨ce786, hce786, hMe786, hcc786⟩ := Kd.V_get HO_0.out z38 x8_2 p786 (by first | exact q786 | exact wd_ | (have e_ := (Kd.V_reads' HO_0.out).1; omega))
     obtain ⟨ua786_8, uc786_8, rfl, ul786_8, ge786_8⟩ := k38_openF hMe786
     have hv786_8 := hcc786 8 _ rfl
     rw [add_field _ _ 8 (by omega)] at hv786_8
     replace hv786_8 := Option.some.inj (hv786_8.symm.trans hx786_8)
     injection hv786_8 with hva_ hvn_ hvc_
     rw [hva_] at ge786_8
     rw [hvc_] at ul786_8
     have HL786_8 := A0_ (show Kd.V (Kd.int .u8) 5 _ w.heap.size _ _ ((rd_T38 l0 x8_2).f5) from Kd.V_mk ul786_8 ge786_8)
     clear hva_ hvn_ hvc_ ge786_8 ul786_8
     clear hcc786 hce786
     have HR786_8 := A0_ hi786_8
     have HC786_8 := A0_ hl786_8
     clear hi786_8 hl786_8
     replace p786 := eq_true p786
     replace q786 := eq_true q786
     go_upto_region 10 with (first | ((with_reducible refine gate_callee (f := 19) rfl ?_); refine goesL_ (some 49) rfl rfl Tryd.func19 (by kernel_rfl) rfl #[.slice A1 l1.length c1, .string ((rd_T38 l0 x8_2).f0)] rfl wm_ ?_; (with_reducible refine (bindleref08_Find.calls k2 (fun k_ => ((P0_ k_ ∨ P1_ k_) ∨ w.heap.size ≤ k_)) _ _ l1 ((rd_T38 l0 x8_2).f0) t787 t788 t789 t790 t791 t792 t793 t794 t795 t798 _ ?side1 A28.out).mono ?_); (case side1 => exact HO_1.out); rintro e w31 ⟨v796, rfl, ho0, hb⟩; refine ⟨_, rfl, ?_⟩; have n0_ := A0_ (Vb_ (wV_ HO_0.out) hb); have n1_ := A0_ (Vb_ (wV_ HO_1.out) hb); have n2_ := A0_ (Vb_ (wV_ HO_5.out) hb); have n3_ := A0_ (Vb_ (wV_ HL786_8.out) hb); have n4_ := A0_ (Kd.V_lower (Kd.V_mono (ok' := fun k_ => ((P0_ k_ ∨ P1_ k_) ∨ w.heap.size ≤ k_)) ho0 (fun k_ hk_ => Or.elim hk_ (fun hs_ => hs_) (fun hn_ => (.inr (Nat.le_trans (below_size (wb_ HB.out)) hn_))))) (below_size (wb_ HB.out))); (first | have n5_ := A0_ (Kd.C_below (by repeat (first | (with_reducible exact HR786_8.out) | (with_reducible refine Ca_ ?_ _) | (with_reducible refine CN_ ?_ _) | (with_reducible refine C1_ ?_) | exact HR786_8.out)) hb) | have n5_ : Aside0 True := ⟨trivial⟩); have n6_ := A0_ (below_step (wb_ HB.out) hb); clear HO_0; clear HO_1; clear HO_5; clear HL786_8; clear HR786_8; clear HB; have HO_0 := n0_; have HO_1 := n1_; have HO_5 := n2_; have HL786_8 := n3_; have HO797 := n4_; have HR786_8 := n5_; have HB := n6_; clear n0_ n1_ n2_ n3_ n4_ n5_ n6_; (try clear hb); (try clear hb2); (try clear hk); (try clear hi); (try clear ho0)) | ((with_reducible refine gate_dst (N := 9) rfl ?_); (try (refine gate_guard (by rfl) ?_; dsimp only)); refine box_event ?hg (N := 9) ?hd (cs := #[.string (⟨#[]⟩ : ByteArray), .string (⟨#[]⟩ : ByteArray), .string (⟨#[]⟩ : ByteArray), .int .u8 0, .int .i64 0, .int .i64 0, .int .i64 0, .int .i64 0, .slice none 0 0]) (t := 38) ?hr ?_; (case hd => rfl); (case hg => rfl); (case hr => first | (go_simp; done) | (go_simp; rfl)); intro gb799 hg w32 hbox hb; have n0_ := A0_ (Vb_ (Kd.V_elderB (wV_ HO_0.out) gb799 (Nat.le_of_eq hg.symm)) hb); have n1_ := A0_ (Vb_ (Kd.V_elderB (wV_ HO_1.out) gb799 (Nat.le_of_eq hg.symm)) hb); have n2_ := A0_ (Vb_ (Kd.V_elderB (wV_ HO_5.out) gb799 (Nat.le_of_eq hg.symm)) hb); have n3_ := A0_ (Vb_ (Kd.V_elderB (wV_ HL786_8.out) gb799 (Nat.le_of_eq hg.symm)) hb); have n4_ := A0_ (Vb_ (Kd.V_elderB (wV_ HO797.out) gb799 (Nat.le_of_eq hg.symm)) hb); (first | have n5_ := A0_ (Kd.C_below (by repeat (first | (with_reducible exact HR786_8.out) | (with_reducible refine Ca_ ?_ _) | (with_reducible refine CN_ ?_ _) | (with_reducible refine C1_ ?_) | exact HR786_8.out)) hb) | have n5_ : Aside0 True := ⟨trivial⟩); have n6_ := A0_ (below_step (wb_ HB.out) hb); have n7_ := A0_ (hbox); have n8_ := A0_ ((by rw [hg]; exact (below_size (wb_ HB.out)) : w.heap.size ≤ gb799)); have n9_ := A0_ ((by rw [hg]; exact (below_size (wb_ HB.out)) : w.heap.size ≤ gb799)); clear HO_0; clear HO_1; clear HO_5; clear HL786_8; clear HO797; clear HR786_8; clear HB; have HO_0 := n0_; have HO_1 := n1_; have HO_5 := n2_; have HL786_8 := n3_; have HO797 := n4_; have HR786_8 := n5_; have HB := n6_; have BK799 := n7_; have GW799 := n8_; have GE799 := n9_; clear n0_ n1_ n2_ n3_ n4_ n5_ n6_ n7_ n8_ n9_; clear hb hbox hg; have hcz33_0 : w32.cell? ⟨gb799, 0, none⟩ = some (.string (⟨#[]⟩ : ByteArray)) := (bc_ BK799.out 0).trans rfl; have hcz33_1 : w32.cell? ⟨gb799, 1, none⟩ = some (.string (⟨#[]⟩ : ByteArray)) := (bc_ BK799.out 1).trans rfl; have hcz33_2 : w32.cell? ⟨gb799, 2, none⟩ = some (.string (⟨#[]⟩ : ByteArray)) := (bc_ BK799.out 2).trans rfl; have hcz33_3 : w32.cell? ⟨gb799, 3, none⟩ = some (.int .u8 0) := (bc_ BK799.out 3).trans rfl; have hcz33_4 : w32.cell? ⟨gb799, 4, none⟩ = some (.int .i64 0) := (bc_ BK799.out 4).trans rfl; have hcz33_5 : w32.cell? ⟨gb799, 5, none⟩ = some (.int .i64 0) := (bc_ BK799.out 5).trans rfl; have hcz33_6 : w32.cell? ⟨gb799, 6, none⟩ = some (.int .i64 0) := (bc_ BK799.out 6).trans rfl; have hcz33_7 : w32.cell? ⟨gb799, 7, none⟩ = some (.int .i64 0) := (bc_ BK799.out 7).trans rfl; have hcz33_8 : w32.cell? ⟨gb799, 8, none⟩ = some (.slice none 0 0) := (bc_ BK799.out 8).trans rfl; have hfz33_0 := bf_ BK799.out 0; have hfz33_1 := bf_ BK799.out 1; have hfz33_2 := bf_ BK799.out 2; have hfz33_3 := bf_ BK799.out 3; have hfz33_4 := bf_ BK799.out 4; have hfz33_5 := bf_ BK799.out 5; have hfz33_6 := bf_ BK799.out 6; have hfz33_7 := bf_ BK799.out 7; have hfz33_8 := bf_ BK799.out 8; obtain ⟨Ao34, co34, eo34⟩ := Kd.V_slice HO797.out; subst eo34) | ((with_reducible refine gate_store (t := 38) (p := 9) rfl ?_); refine store_event (t := 38) (p := 9) (v := ?vo_w35) (w1 := (((((((((w32.setCell ⟨gb799, 0, none⟩ (.string t787)).setCell ⟨gb799, 1, none⟩ (.string t788)).setCell ⟨gb799, 2, none⟩ (.string t789)).setCell ⟨gb799, 3, none⟩ (.int .u8 t790)).setCell ⟨gb799, 4, none⟩ (.int .i64 t791)).setCell ⟨gb799, 5, none⟩ (.int .i64 t792)).setCell ⟨gb799, 6, none⟩ (.int .i64 t793)).setCell ⟨gb799, 7, none⟩ (.int .i64 t794)).setCell ⟨gb799, 8, none⟩ (.slice Ao34 t795.length co34))) ?hg ?ho ?hn ?hr ?_; (case ho => rfl); (case hg => rfl); (case hn => rfl); (case hr => first | (go_simp; done) | (go_simp; rfl)); intro w35 hw; have n0_ : Aside0 (Kd.V k38 38 w35 w.heap.size (fun k_ => ((P0_ k_ ∨ P1_ k_) ∨ w.heap.size ≤ k_) ∧ k_ ≠ gb799) (.slice (some ad786) l0.length c0) l0) := ⟨(by rw [hw]; exact (by (with_reducible repeat (first | apply Va_ | apply VN_ | apply V1_)); exact Kd.V_mono (Kd.V_far (p := ⟨gb799, 8, none⟩) (Kd.V_far (p := ⟨gb799, 7, none⟩) (Kd.V_far (p := ⟨gb799, 6, none⟩) (Kd.V_far (p := ⟨gb799, 5, none⟩) (Kd.V_far (p := ⟨gb799, 4, none⟩) (Kd.V_far (p := ⟨gb799, 3, none⟩) (Kd.V_far (p := ⟨gb799, 2, none⟩) (Kd.V_far (p := ⟨gb799, 1, none⟩) (Kd.V_far (p := ⟨gb799, 0, none⟩) (Kd.V_mono HO_0.out (fun k_ hk => (⟨hk, hk.2⟩ : _ ∧ k_ ≠ gb799))) (fun _ hk => hk.2) (.string t787)) (fun _ hk => hk.2) (.string t788)) (fun _ hk => hk.2) (.string t789)) (fun _ hk => hk.2) (.int .u8 t790)) (fun _ hk => hk.2) (.int .i64 t791)) (fun _ hk => hk.2) (.int .i64 t792)) (fun _ hk => hk.2) (.int .i64 t793)) (fun _ hk => hk.2) (.int .i64 t794)) (fun _ hk => hk.2) (.slice Ao34 t795.length co34)) (fun _ hk => ⟨hk.1.1, hk.1.2⟩)))⟩; have n1_ : Aside0 (Kd.V k38 38 w35 w.heap.size (fun k_ => ((P0_ k_ ∨ P1_ k_) ∨ w.heap.size ≤ k_) ∧ k_ ≠ gb799) (.slice A1 l1.length c1) l1) := ⟨(by rw [hw]; exact (by (with_reducible repeat (first | apply Va_ | apply VN_ | apply V1_)); exact Kd.V_mono (Kd.V_far (p := ⟨gb799, 8, none⟩) (Kd.V_far (p := ⟨gb799, 7, none⟩) (Kd.V_far (p := ⟨gb799, 6, none⟩) (Kd.V_far (p := ⟨gb799, 5, none⟩) (Kd.V_far (p := ⟨gb799, 4, none⟩) (Kd.V_far (p := ⟨gb799, 3, none⟩) (Kd.V_far (p := ⟨gb799, 2, none⟩) (Kd.V_far (p := ⟨gb799, 1, none⟩) (Kd.V_far (p := ⟨gb799, 0, none⟩) (Kd.V_mono HO_1.out (fun k_ hk => (⟨hk, hk.2⟩ : _ ∧ k_ ≠ gb799))) (fun _ hk => hk.2) (.string t787)) (fun _ hk => hk.2) (.string t788)) (fun _ hk => hk.2) (.string t789)) (fun _ hk => hk.2) (.int .u8 t790)) (fun _ hk => hk.2) (.int .i64 t791)) (fun _ hk => hk.2) (.int .i64 t792)) (fun _ hk => hk.2) (.int .i64 t793)) (fun _ hk => hk.2) (.int .i64 t794)) (fun _ hk => hk.2) (.slice Ao34 t795.length co34)) (fun _ hk => ⟨hk.1.1, hk.1.2⟩)))⟩; have n2_ : Aside0 (Kd.V k38 38 w35 w.heap.size (fun k_ => ((P0_ k_ ∨ P1_ k_) ∨ w.heap.size ≤ k_) ∧ k_ ≠ gb799) v782 t781) := ⟨(by rw [hw]; exact (by (with_reducible repeat (first | apply Va_ | apply VN_ | apply V1_)); exact Kd.V_mono (Kd.V_far (p := ⟨gb799, 8, none⟩) (Kd.V_far (p := ⟨gb799, 7, none⟩) (Kd.V_far (p := ⟨gb799, 6, none⟩) (Kd.V_far (p := ⟨gb799, 5, none⟩) (Kd.V_far (p := ⟨gb799, 4, none⟩) (Kd.V_far (p := ⟨gb799, 3, none⟩) (Kd.V_far (p := ⟨gb799, 2, none⟩) (Kd.V_far (p := ⟨gb799, 1, none⟩) (Kd.V_far (p := ⟨gb799, 0, none⟩) (Kd.V_mono HO_5.out (fun k_ hk => (⟨hk, hk.2⟩ : _ ∧ k_ ≠ gb799))) (fun _ hk => hk.2) (.string t787)) (fun _ hk => hk.2) (.string t788)) (fun _ hk => hk.2) (.string t789)) (fun _ hk => hk.2) (.int .u8 t790)) (fun _ hk => hk.2) (.int .i64 t791)) (fun _ hk => hk.2) (.int .i64 t792)) (fun _ hk => hk.2) (.int .i64 t793)) (fun _ hk => hk.2) (.int .i64 t794)) (fun _ hk => hk.2) (.slice Ao34 t795.length co34)) (fun _ hk => ⟨hk.1.1, hk.1.2⟩)))⟩; have n3_ : Aside0 (Kd.V (Kd.int .u8) 5 w35 w.heap.size (fun k_ => ((P0_ k_ ∨ P1_ k_) ∨ w.heap.size ≤ k_) ∧ k_ ≠ gb799) (.slice A786_8 ((rd_T38 l0 x8_2).f5).length c786_8) ((rd_T38 l0 x8_2).f5)) := ⟨(by rw [hw]; exact (by (with_reducible repeat (first | apply Va_ | apply VN_ | apply V1_)); exact Kd.V_mono (Kd.V_far (p := ⟨gb799, 8, none⟩) (Kd.V_far (p := ⟨gb799, 7, none⟩) (Kd.V_far (p := ⟨gb799, 6, none⟩) (Kd.V_far (p := ⟨gb799, 5, none⟩) (Kd.V_far (p := ⟨gb799, 4, none⟩) (Kd.V_far (p := ⟨gb799, 3, none⟩) (Kd.V_far (p := ⟨gb799, 2, none⟩) (Kd.V_far (p := ⟨gb799, 1, none⟩) (Kd.V_far (p := ⟨gb799, 0, none⟩) (Kd.V_mono HL786_8.out (fun k_ hk => (⟨hk, hk.2⟩ : _ ∧ k_ ≠ gb799))) (fun _ hk => hk.2) (.string t787)) (fun _ hk => hk.2) (.string t788)) (fun _ hk => hk.2) (.string t789)) (fun _ hk => hk.2) (.int .u8 t790)) (fun _ hk => hk.2) (.int .i64 t791)) (fun _ hk => hk.2) (.int .i64 t792)) (fun _ hk => hk.2) (.int .i64 t793)) (fun _ hk => hk.2) (.int .i64 t794)) (fun _ hk => hk.2) (.slice Ao34 t795.length co34)) (fun _ hk => ⟨hk.1.1, hk.1.2⟩)))⟩; have n4_ : Aside0 (Kd.V (Kd.int .u8) 5 w35 w.heap.size (fun k_ => ((P0_ k_ ∨ P1_ k_) ∨ w.heap.size ≤ k_) ∧ k_ ≠ gb799) (.slice Ao34 t795.length co34) t795) := ⟨(by rw [hw]; exact (by (with_reducible repeat (first | apply Va_ | apply VN_ | apply V1_)); exact Kd.V_mono (Kd.V_far (p := ⟨gb799, 8, none⟩) (Kd.V_far (p := ⟨gb799, 7, none⟩) (Kd.V_far (p := ⟨gb799, 6, none⟩) (Kd.V_far (p := ⟨gb799, 5, none⟩) (Kd.V_far (p := ⟨gb799, 4, none⟩) (Kd.V_far (p := ⟨gb799, 3, none⟩) (Kd.V_far (p := ⟨gb799, 2, none⟩) (Kd.V_far (p := ⟨gb799, 1, none⟩) (Kd.V_far (p := ⟨gb799, 0, none⟩) (Kd.V_mono HO797.out (fun k_ hk => (⟨hk, hk.2⟩ : _ ∧ k_ ≠ gb799))) (fun _ hk => hk.2) (.string t787)) (fun _ hk => hk.2) (.string t788)) (fun _ hk => hk.2) (.string t789)) (fun _ hk => hk.2) (.int .u8 t790)) (fun _ hk => hk.2) (.int .i64 t791)) (fun _ hk => hk.2) (.int .i64 t792)) (fun _ hk => hk.2) (.int .i64 t793)) (fun _ hk => hk.2) (.int .i64 t794)) (fun _ hk => hk.2) (.slice Ao34 t795.length co34)) (fun _ hk => ⟨hk.1.1, hk.1.2⟩)))⟩; have n5_ : Aside0 (w35.heap[gb799]? = some (.cells #[.string t787, .string t788, .string t789, .int .u8 t790, .int .i64 t791, .int .i64 t792, .int .i64 t793, .int .i64 t794, .slice Ao34 t795.length co34] 38 (0, 0))) := ⟨(by rw [hw]; exact (by (with_reducible repeat (first | refine blk_drewN ?_ _ | refine blk_drew ?_ | refine blk_alloc ?_ _)); refine blk_put (cs := #[.string t787, .string t788, .string t789, .int .u8 t790, .int .i64 t791, .int .i64 t792, .int .i64 t793, .int .i64 t794, .slice none 0 0]) ?_ 8 _ rfl; (with_reducible repeat (first | refine blk_drewN ?_ _ | refine blk_drew ?_ | refine blk_alloc ?_ _)); refine blk_put (cs := #[.string t787, .string t788, .string t789, .int .u8 t790, .int .i64 t791, .int .i64 t792, .int .i64 t793, .int .i64 0, .slice none 0 0]) ?_ 7 _ rfl; (with_reducible repeat (first | refine blk_drewN ?_ _ | refine blk_drew ?_ | refine blk_alloc ?_ _)); refine blk_put (cs := #[.string t787, .string t788, .string t789, .int .u8 t790, .int .i64 t791, .int .i64 t792, .int .i64 0, .int .i64 0, .slice none 0 0]) ?_ 6 _ rfl; (with_reducible repeat (first | refine blk_drewN ?_ _ | refine blk_drew ?_ | refine blk_alloc ?_ _)); refine blk_put (cs := #[.string t787, .string t788, .string t789, .int .u8 t790, .int .i64 t791, .int .i64 0, .int .i64 0, .int .i64 0, .slice none 0 0]) ?_ 5 _ rfl; (with_reducible repeat (first | refine blk_drewN ?_ _ | refine blk_drew ?_ | refine blk_alloc ?_ _)); refine blk_put (cs := #[.string t787, .string t788, .string t789, .int .u8 t790, .int .i64 0, .int .i64 0, .int .i64 0, .int .i64 0, .slice none 0 0]) ?_ 4 _ rfl; (with_reducible repeat (first | refine blk_drewN ?_ _ | refine blk_drew ?_ | refine blk_alloc ?_ _)); refine blk_put (cs := #[.string t787, .string t788, .string t789, .int .u8 0, .int .i64 0, .int .i64 0, .int .i64 0, .int .i64 0, .slice none 0 0]) ?_ 3 _ rfl; (with_reducible repeat (first | refine blk_drewN ?_ _ | refine blk_drew ?_ | refine blk_alloc ?_ _)); refine blk_put (cs := #[.string t787, .string t788, .string (⟨#[]⟩ : ByteArray), .int .u8 0, .int .i64 0, .int .i64 0, .int .i64 0, .int .i64 0, .slice none 0 0]) ?_ 2 _ rfl; (with_reducible repeat (first | refine blk_drewN ?_ _ | refine blk_drew ?_ | refine blk_alloc ?_ _)); refine blk_put (cs := #[.string t787, .string (⟨#[]⟩ : ByteArray), .string (⟨#[]⟩ : ByteArray), .int .u8 0, .int .i64 0, .int .i64 0, .int .i64 0, .int .i64 0, .slice none 0 0]) ?_ 1 _ rfl; (with_reducible repeat (first | refine blk_drewN ?_ _ | refine blk_drew ?_ | refine blk_alloc ?_ _)); refine blk_put (cs := #[.string (⟨#[]⟩ : ByteArray), .string (⟨#[]⟩ : ByteArray), .string (⟨#[]⟩ : ByteArray), .int .u8 0, .int .i64 0, .int .i64 0, .int .i64 0, .int .i64 0, .slice none 0 0]) ?_ 0 _ rfl; (with_reducible repeat (first | refine blk_drewN ?_ _ | refine blk_drew ?_ | refine blk_alloc ?_ _)); exact BK799.out))⟩; have n6_ : Aside0 (Below w.heap.size w w35) := ⟨(by rw [hw]; exact (wb1_ HB.out GE799.out))⟩; clear hw; clear HO_0; clear HO_1; clear HO_5; clear HL786_8; clear HO797; clear BK799; clear HB; have HO_0 := n0_; have HO_1 := n1_; have HO_5 := n2_; have HL786_8 := n3_; have HO797 := n4_; have BK799 := n5_; have HB := n6_; clear n0_ n1_ n2_ n3_ n4_ n5_ n6_; have p800 : 0 ≤ (x8_2 : Int) := wd_; have q800 : x8_2 < (l0.length : Int) := wd_; obtain ⟨ad800, A800_8, c800_8, e800, hx800_0, hx800_1, hx800_2, hx800_3, hx800_4, hx800_5, hx800_6, hx800_7, hx800_8, hl800_8, hi800_8⟩ := at_T38 (Kd.V_reads' HO_0.out).2.2 x8_2 p800 q800; obtain rfl : ad786 = ad800 := (by injection e800); obtain ⟨ce800, hce800, hMe800, hcc800⟩ := Kd.V_get HO_0.out z38 x8_2 p800 (by first | exact q800 | exact wd_ | (have e_ := (Kd.V_reads' HO_0.out).1; omega)); obtain ⟨ua800_8, uc800_8, rfl, ul800_8, ge800_8⟩ := k38_openF hMe800; have hv800_8 := hcc800 8 _ rfl; rw [add_field _ _ 8 (by omega)] at hv800_8; replace hv800_8 := Option.some.inj (hv800_8.symm.trans hx800_8); injection hv800_8 with hva_ hvn_ hvc_; rw [hva_] at ge800_8; rw [hvc_] at ul800_8; have HL800_8 := A0_ (show Kd.V (Kd.int .u8) 5 _ w.heap.size _ _ ((rd_T38 l0 x8_2).f5) from Kd.V_mk ul800_8 ge800_8); clear hva_ hvn_ hvc_ ge800_8 ul800_8; clear hcc800 hce800; have HR800_8 := A0_ hi800_8; have HC800_8 := A0_ hl800_8; clear hi800_8 hl800_8; replace p800 := eq_true p800; replace q800 := eq_true q800; obtain ⟨Ao36, co36, eo36⟩ := Kd.V_slice HO_5.out; subst eo36) | ((with_reducible refine gate_callee (f := 19) rfl ?_); refine goesL_ (some 59) rfl rfl Tryd.func19 (by kernel_rfl) rfl #[.slice Ao36 t781.length co36, .string ((rd_T38 l0 x8_2).f0)] rfl wm_ ?_; (with_reducible refine (bindleref08_Find.calls k2 (fun k_ => (((P0_ k_ ∨ P1_ k_) ∨ w.heap.size ≤ k_) ∧ k_ ≠ gb799)) _ _ t781 ((rd_T38 l0 x8_2).f0) t801 t802 t803 t804 t805 t806 t807 t808 t809 t812 _ ?side1 A29.out).mono ?_); (case side1 => exact HO_5.out); rintro e w37 ⟨v810, rfl, ho0, hb⟩; refine ⟨_, rfl, ?_⟩; have n0_ := A0_ (Vb_ (wV_ HO_0.out) hb); have n1_ := A0_ (Vb_ (wV_ HO_1.out) hb); have n2_ := A0_ (Vb_ (wV_ HO_5.out) hb); have n3_ := A0_ (Vb_ (wV_ HL786_8.out) hb); have n4_ := A0_ (Vb_ (wV_ HO797.out) hb); have n5_ := A0_ (Vb_ (wV_ HL800_8.out) hb); have n6_ := A0_ (Kd.V_lower (Kd.V_mono (ok' := fun k_ => ((P0_ k_ ∨ P1_ k_) ∨ w.heap.size ≤ k_) ∧ k_ ≠ gb799) ho0 (fun k_ hk_ => ⟨Or.elim hk_ (fun hs_ => hs_.1) (fun hn_ => (.inr (Nat.le_trans (below_size (wb1_ HB.out GE799.out)) hn_))), Or.elim hk_ (fun hs_ => hs_.2) (fun hn_ => (Kd.freshB (g := gb799) (o := .cells #[.string t787, .string t788, .string t789, .int .u8 t790, .int .i64 t791, .int .i64 t792, .int .i64 t793, .int .i64 t794, .slice Ao34 t795.length co34] 38 (0, 0)) (wB_ BK799.out) k_ hn_))⟩)) (below_size (wb1_ HB.out GE799.out))); (first | have n7_ := A0_ (Kd.C_below (by repeat (first | (with_reducible exact HR786_8.out) | (with_reducible refine Ca_ ?_ _) | (with_reducible refine CN_ ?_ _) | (with_reducible refine C1_ ?_) | exact HR786_8.out)) hb) | have n7_ : Aside0 True := ⟨trivial⟩); have n8_ := A0_ (blk_below (g := gb799) (o := .cells #[.string t787, .string t788, .string t789, .int .u8 t790, .int .i64 t791, .int .i64 t792, .int .i64 t793, .int .i64 t794, .slice Ao34 t795.length co34] 38 (0, 0)) (wB_ BK799.out) hb); (first | have n9_ := A0_ (Kd.C_below (by repeat (first | (with_reducible exact HR800_8.out) | (with_reducible refine Ca_ ?_ _) | (with_reducible refine CN_ ?_ _) | (with_reducible refine C1_ ?_) | exact HR800_8.out)) hb) | have n9_ : Aside0 True := ⟨trivial⟩); have n10_ := A0_ (below_step (wb1_ HB.out GE799.out) hb); clear HO_0; clear HO_1; clear HO_5; clear HL786_8; clear HO797; clear HL800_8; clear HR786_8; clear BK799; clear HR800_8; clear HB; have HO_0 := n0_; have HO_1 := n1_; have HO_5 := n2_; have HL786_8 := n3_; have HO797 := n4_; have HL800_8 := n5_; have HO811 := n6_; have HR786_8 := n7_; have BK799 := n8_; have HR800_8 := n9_; have HB := n10_; clear n0_ n1_ n2_ n3_ n4_ n5_ n6_ n7_ n8_ n9_ n10_; (try clear hb); (try clear hb2); (try clear hk); (try clear hi); (try clear ho0)) | ((with_reducible refine gate_dst (N := 11) rfl ?_); (try (refine gate_guard (by rfl) ?_; dsimp only)); refine box_event ?hg (N := 11) ?hd (cs := #[.string (⟨#[]⟩ : ByteArray), .string (⟨#[]⟩ : ByteArray), .string (⟨#[]⟩ : ByteArray), .int .u8 0, .int .i64 0, .int .i64 0, .int .i64 0, .int .i64 0, .slice none 0 0]) (t := 38) ?hr ?_; (case hd => rfl); (case hg => rfl); (case hr => first | (go_simp; done) | (go_simp; rfl)); intro gb813 hg w38 hbox hb; have n0_ := A0_ (Vb_ (Kd.V_elderB (wV_ HO_0.out) gb813 (Nat.le_of_eq hg.symm)) hb); have n1_ := A0_ (Vb_ (Kd.V_elderB (wV_ HO_1.out) gb813 (Nat.le_of_eq hg.symm)) hb); have n2_ := A0_ (Vb_ (Kd.V_elderB (wV_ HO_5.out) gb813 (Nat.le_of_eq hg.symm)) hb); have n3_ := A0_ (Vb_ (Kd.V_elderB (wV_ HL786_8.out) gb813 (Nat.le_of_eq hg.symm)) hb); have n4_ := A0_ (Vb_ (Kd.V_elderB (wV_ HO797.out) gb813 (Nat.le_of_eq hg.symm)) hb); have n5_ := A0_ (Vb_ (Kd.V_elderB (wV_ HL800_8.out) gb813 (Nat.le_of_eq hg.symm)) hb); have n6_ := A0_ (Vb_ (Kd.V_elderB (wV_ HO811.out) gb813 (Nat.le_of_eq hg.symm)) hb); (first | have n7_ := A0_ (Kd.C_below (by repeat (first | (with_reducible exact HR786_8.out) | (with_reducible refine Ca_ ?_ _) | (with_reducible refine CN_ ?_ _) | (with_reducible refine C1_ ?_) | exact HR786_8.out)) hb) | have n7_ : Aside0 True := ⟨trivial⟩); have n8_ := A0_ (blk_below (g := gb799) (o := .cells #[.string t787, .string t788, .string t789, .int .u8 t790, .int .i64 t791, .int .i64 t792, .int .i64 t793, .int .i64 t794, .slice Ao34 t795.length co34] 38 (0, 0)) (wB_ BK799.out) hb); (first | have n9_ := A0_ (Kd.C_below (by repeat (first | (with_reducible exact HR800_8.out) | (with_reducible refine Ca_ ?_ _) | (with_reducible refine CN_ ?_ _) | (with_reducible refine C1_ ?_) | exact HR800_8.out)) hb) | have n9_ : Aside0 True := ⟨trivial⟩); have n10_ := A0_ (below_step (wb1_ HB.out GE799.out) hb); have n11_ := A0_ (hbox); have n12_ := A0_ ((by rw [hg]; exact (below_size (wb1_ HB.out GE799.out)) : w.heap.size ≤ gb813)); have n13_ := A0_ ((by rw [hg]; exact (below_size (wb1_ HB.out GE799.out)) : w.heap.size ≤ gb813)); have n14_ := A0_ ((by rw [hg]; exact Nat.ne_of_lt (blk_lt (g := gb799) (o := .cells #[.string t787, .string t788, .string t789, .int .u8 t790, .int .i64 t791, .int .i64 t792, .int .i64 t793, .int .i64 t794, .slice Ao34 t795.length co34] 38 (0, 0)) (wB_ BK799.out)) : gb799 ≠ gb813)); have n15_ := A0_ ((by rw [hg]; exact Nat.ne_of_gt (blk_lt (g := gb799) (o := .cells #[.string t787, .string t788, .string t789, .int .u8 t790, .int .i64 t791, .int .i64 t792, .int .i64 t793, .int .i64 t794, .slice Ao34 t795.length co34] 38 (0, 0)) (wB_ BK799.out)) : gb813 ≠ gb799)); clear HO_0; clear HO_1; clear HO_5; clear HL786_8; clear HO797; clear HL800_8; clear HO811; clear HR786_8; clear BK799; clear HR800_8; clear HB; have HO_0 := n0_; have HO_1 := n1_; have HO_5 := n2_; have HL786_8 := n3_; have HO797 := n4_; have HL800_8 := n5_; have HO811 := n6_; have HR786_8 := n7_; have BK799 := n8_; have HR800_8 := n9_; have HB := n10_; have BK813 := n11_; have GW813 := n12_; have GE813 := n13_; have NB799_813 := n14_; have NB813_799 := n15_; clear n0_ n1_ n2_ n3_ n4_ n5_ n6_ n7_ n8_ n9_ n10_ n11_ n12_ n13_ n14_ n15_; clear hb hbox hg; have hnb39 := NB813_799.out; have hnc39 := NB799_813.out; have hcz40_0 : w38.cell? ⟨gb813, 0, none⟩ = some (.string (⟨#[]⟩ : ByteArray)) := (bc_ BK813.out 0).trans rfl; have hcz40_1 : w38.cell? ⟨gb813, 1, none⟩ = some (.string (⟨#[]⟩ : ByteArray)) := (bc_ BK813.out 1).trans rfl; have hcz40_2 : w38.cell? ⟨gb813, 2, none⟩ = some (.string (⟨#[]⟩ : ByteArray)) := (bc_ BK813.out 2).trans rfl; have hcz40_3 : w38.cell? ⟨gb813, 3, none⟩ = some (.int .u8 0) := (bc_ BK813.out 3).trans rfl; have hcz40_4 : w38.cell? ⟨gb813, 4, none⟩ = some (.int .i64 0) := (bc_ BK813.out 4).trans rfl; have hcz40_5 : w38.cell? ⟨gb813, 5, none⟩ = some (.int .i64 0) := (bc_ BK813.out 5).trans rfl; have hcz40_6 : w38.cell? ⟨gb813, 6, none⟩ = some (.int .i64 0) := (bc_ BK813.out 6).trans rfl; have hcz40_7 : w38.cell? ⟨gb813, 7, none⟩ = some (.int .i64 0) := (bc_ BK813.out 7).trans rfl; have hcz40_8 : w38.cell? ⟨gb813, 8, none⟩ = some (.slice none 0 0) := (bc_ BK813.out 8).trans rfl; have hfz40_0 := bf_ BK813.out 0; have hfz40_1 := bf_ BK813.out 1; have hfz40_2 := bf_ BK813.out 2; have hfz40_3 := bf_ BK813.out 3; have hfz40_4 := bf_ BK813.out 4; have hfz40_5 := bf_ BK813.out 5; have hfz40_6 := bf_ BK813.out 6; have hfz40_7 := bf_ BK813.out 7; have hfz40_8 := bf_ BK813.out 8; obtain ⟨Ao41, co41, eo41⟩ := Kd.V_slice HO811.out; subst eo41))
     (try simp only [Act.put, List.setIfInBounds_toArray, List.set_cons_zero, List.set_cons_succ])
     go_cut [13] (fun v13 wc => ∃ (kq : Nat) (x13_29 : Bool), v13 = .bool x13_29 ∧ Aside0 (bindlelaw20_SubWhole.j2 kq l0 l1 t781 t784 x7_2 x8_2 t812 x13_29 t801 t802 t803 t804 t805 t806 t807 t808 t809 = some r) ∧ Aside0 (kq ≤ k2) ∧ Aside0 (Kd.V k38 38 wc w.heap.size (fun k_ => ((P0_ k_ ∨ P1_ k_) ∨ w.heap.size ≤ k_) ∧ k_ ≠ gb799 ∧ k_ ≠ gb813) (.slice (some ad786) l0.length c0) l0) ∧ Aside0 (Kd.V k38 38 wc w.heap.size (fun k_ => ((P0_ k_ ∨ P1_ k_) ∨ w.heap.size ≤ k_) ∧ k_ ≠ gb799 ∧ k_ ≠ gb813) (.slice A1 l1.length c1) l1) ∧ Aside0 (Kd.V k38 38 wc w.heap.size (fun k_ => ((P0_ k_ ∨ P1_ k_) ∨ w.heap.size ≤ k_) ∧ k_ ≠ gb799 ∧ k_ ≠ gb813) (.slice Ao36 t781.length co36) t781) ∧ Aside0 (Kd.V (Kd.int .u8) 5 wc w.heap.size (fun k_ => ((P0_ k_ ∨ P1_ k_) ∨ w.heap.size ≤ k_) ∧ k_ ≠ gb799 ∧ k_ ≠ gb813) (.slice Ao34 t795.length co34) t795) ∧ Aside0 (Kd.V (Kd.int .u8) 5 wc w.heap.size (fun k_ => ((P0_ k_ ∨ P1_ k_) ∨ w.heap.size ≤ k_) ∧ k_ ≠ gb799 ∧ k_ ≠ gb813) (.slice Ao41 t809.length co41) t809) ∧ Aside0 (wc.heap[gb799]? = some (.cells #[.string t787, .string t788, .string t789, .int .u8 t790, .int .i64 t791, .int .i64 t792, .int .i64 t793, .int .i64 t794, (.slice Ao34 t795.length co34)] 38 (0, 0))) ∧ Aside0 (wc.heap[gb813]? = some (.cells #[.string t801, .string t802, .string t803, .int .u8 t804, .int .i64 t805, .int .i64 t806, .int .i64 t807, .int .i64 t808, (.slice Ao41 t809.length co41)] 38 (0, 0))) ∧ Aside0 (Below w.heap.size w wc))
     case first =>
      have H := HC30.out
      clear HC30
      by_cases c42 : t798 = true
      rotate_left
      ·replace c42 := Bool.eq_false_iff.mpr c42
       subst c42
       have H1 : (bindlelaw20_SubWhole.j2 k2 l0 l1 t781 t784 x7_2 x8_2 t812 false t801 t802 t803 t804 t805 t806 t807 t808 t809) = some r := by rw [if_neg (show ¬ (false = true) by decide)] at H; exact H
       clear H
       have H := H1
       clear H1
       have H' := A0_ H
       clear H
       try go_wp2
       have n0_ : Aside0 (Kd.V k38 38 (((((((((w38.setCell ⟨gb813, 0, none⟩ (.string t801)).setCell ⟨gb813, 1, none⟩ (.string t802)).setCell ⟨gb813, 2, none⟩ (.string t803)).setCell ⟨gb813, 3, none⟩ (.int .u8 t804)).setCell ⟨gb813, 4, none⟩ (.int .i64 t805)).setCell ⟨gb813, 5, none⟩ (.int .i64 t806)).setCell ⟨gb813, 6, none⟩ (.int .i64 t807)).setCell ⟨gb813, 7, none⟩ (.int .i64 t808)).setCell ⟨gb813, 8, none⟩ (.slice Ao41 t809.length co41)) w.heap.size (fun k_ => ((P0_ k_ ∨ P1_ k_) ∨ w.heap.size ≤ k_) ∧ k_ ≠ gb799 ∧ k_ ≠ gb813) (.slice (some ad786) l0.length c0) l0) := ⟨by (with_reducible repeat (first | apply Va_ | apply VN_ | apply V1_)); exact Kd.V_mono (Kd.V_far (p := ⟨gb813, 8, none⟩) (Kd.V_far (p := ⟨gb813, 7, none⟩) (Kd.V_far (p := ⟨gb813, 6, none⟩) (Kd.V_far (p := ⟨gb813, 5, none⟩) (Kd.V_far (p := ⟨gb813, 4, none⟩) (Kd.V_far (p := ⟨gb813, 3, none⟩) (Kd.V_far (p := ⟨gb813, 2, none⟩) (Kd.V_far (p := ⟨gb813, 1, none⟩) (Kd.V_far (p := ⟨gb813, 0, none⟩) (Kd.V_mono HO_0.out (fun k_ hk => (⟨hk, hk.2⟩ : _ ∧ k_ ≠ gb813))) (fun _ hk => hk.2) (.string t801)) (fun _ hk => hk.2) (.string t802)) (fun _ hk => hk.2) (.string t803)) (fun _ hk => hk.2) (.int .u8 t804)) (fun _ hk => hk.2) (.int .i64 t805)) (fun _ hk => hk.2) (.int .i64 t806)) (fun _ hk => hk.2) (.int .i64 t807)) (fun _ hk => hk.2) (.int .i64 t808)) (fun _ hk => hk.2) (.slice Ao41 t809.length co41)) (fun _ hk => ⟨hk.1.1.1, ⟨hk.1.1.2, hk.1.2⟩⟩)⟩
       have n1_ : Aside0 (Kd.V k38 38 (((((((((w38.setCell ⟨gb813, 0, none⟩ (.string t801)).setCell ⟨gb813, 1, none⟩ (.string t802)).setCell ⟨gb813, 2, none⟩ (.string t803)).setCell ⟨gb813, 3, none⟩ (.int .u8 t804)).setCell ⟨gb813, 4, none⟩ (.int .i64 t805)).setCell ⟨gb813, 5, none⟩ (.int .i64 t806)).setCell ⟨gb813, 6, none⟩ (.int .i64 t807)).setCell ⟨gb813, 7, none⟩ (.int .i64 t808)).setCell ⟨gb813, 8, none⟩ (.slice Ao41 t809.length co41)) w.heap.size (fun k_ => ((P0_ k_ ∨ P1_ k_) ∨ w.heap.size ≤ k_) ∧ k_ ≠ gb799 ∧ k_ ≠ gb813) (.slice A1 l1.length c1) l1) := ⟨by (with_reducible repeat (first | apply Va_ | apply VN_ | apply V1_)); exact Kd.V_mono (Kd.V_far (p := ⟨gb813, 8, none⟩) (Kd.V_far (p := ⟨gb813, 7, none⟩) (Kd.V_far (p := ⟨gb813, 6, none⟩) (Kd.V_far (p := ⟨gb813, 5, none⟩) (Kd.V_far (p := ⟨gb813, 4, none⟩) (Kd.V_far (p := ⟨gb813, 3, none⟩) (Kd.V_far (p := ⟨gb813, 2, none⟩) (Kd.V_far (p := ⟨gb813, 1, none⟩) (Kd.V_far (p := ⟨gb813, 0, none⟩) (Kd.V_mono HO_1.out (fun k_ hk => (⟨hk, hk.2⟩ : _ ∧ k_ ≠ gb813))) (fun _ hk => hk.2) (.string t801)) (fun _ hk => hk.2) (.string t802)) (fun _ hk => hk.2) (.string t803)) (fun _ hk => hk.2) (.int .u8 t804)) (fun _ hk => hk.2) (.int .i64 t805)) (fun _ hk => hk.2) (.int .i64 t806)) (fun _ hk => hk.2) (.int .i64 t807)) (fun _ hk => hk.2) (.int .i64 t808)) (fun _ hk => hk.2) (.slice Ao41 t809.length co41)) (fun _ hk => ⟨hk.1.1.1, ⟨hk.1.1.2, hk.1.2⟩⟩)⟩
       have n2_ : Aside0 (Kd.V k38 38 (((((((((w38.setCell ⟨gb813, 0, none⟩ (.string t801)).setCell ⟨gb813, 1, none⟩ (.string t802)).setCell ⟨gb813, 2, none⟩ (.string t803)).setCell ⟨gb813, 3, none⟩ (.int .u8 t804)).setCell ⟨gb813, 4, none⟩ (.int .i64 t805)).setCell ⟨gb813, 5, none⟩ (.int .i64 t806)).setCell ⟨gb813, 6, none⟩ (.int .i64 t807)).setCell ⟨gb813, 7, none⟩ (.int .i64 t808)).setCell ⟨gb813, 8, none⟩ (.slice Ao41 t809.length co41)) w.heap.size (fun k_ => ((P0_ k_ ∨ P1_ k_) ∨ w.heap.size ≤ k_) ∧ k_ ≠ gb799 ∧ k_ ≠ gb813) (.slice Ao36 t781.length co36) t781) := ⟨by (with_reducible repeat (first | apply Va_ | apply VN_ | apply V1_)); exact Kd.V_mono (Kd.V_far (p := ⟨gb813, 8, none⟩) (Kd.V_far (p := ⟨gb813, 7, none⟩) (Kd.V_far (p := ⟨gb813, 6, none⟩) (Kd.V_far (p := ⟨gb813, 5, none⟩) (Kd.V_far (p := ⟨gb813, 4, none⟩) (Kd.V_far (p := ⟨gb813, 3, none⟩) (Kd.V_far (p := ⟨gb813, 2, none⟩) (Kd.V_far (p := ⟨gb813, 1, none⟩) (Kd.V_far (p := ⟨gb813, 0, none⟩) (Kd.V_mono HO_5.out (fun k_ hk => (⟨hk, hk.2⟩ : _ ∧ k_ ≠ gb813))) (fun _ hk => hk.2) (.string t801)) (fun _ hk => hk.2) (.string t802)) (fun _ hk => hk.2) (.string t803)) (fun _ hk => hk.2) (.int .u8 t804)) (fun _ hk => hk.2) (.int .i64 t805)) (fun _ hk => hk.2) (.int .i64 t806)) (fun _ hk => hk.2) (.int .i64 t807)) (fun _ hk => hk.2) (.int .i64 t808)) (fun _ hk => hk.2) (.slice Ao41 t809.length co41)) (fun _ hk => ⟨hk.1.1.1, ⟨hk.1.1.2, hk.1.2⟩⟩)⟩
       have n3_ : Aside0 (Kd.V (Kd.int .u8) 5 (((((((((w38.setCell ⟨gb813, 0, none⟩ (.string t801)).setCell ⟨gb813, 1, none⟩ (.string t802)).setCell ⟨gb813, 2, none⟩ (.string t803)).setCell ⟨gb813, 3, none⟩ (.int .u8 t804)).setCell ⟨gb813, 4, none⟩ (.int .i64 t805)).setCell ⟨gb813, 5, none⟩ (.int .i64 t806)).setCell ⟨gb813, 6, none⟩ (.int .i64 t807)).setCell ⟨gb813, 7, none⟩ (.int .i64 t808)).setCell ⟨gb813, 8, none⟩ (.slice Ao41 t809.length co41)) w.heap.size (fun k_ => ((P0_ k_ ∨ P1_ k_) ∨ w.heap.size ≤ k_) ∧ k_ ≠ gb799 ∧ k_ ≠ gb813) (.slice A786_8 ((rd_T38 l0 x8_2).f5).length c786_8) ((rd_T38 l0 x8_2).f5)) := ⟨by (with_reducible repeat (first | apply Va_ | apply VN_ | apply V1_)); exact Kd.V_mono (Kd.V_far (p := ⟨gb813, 8, none⟩) (Kd.V_far (p := ⟨gb813, 7, none⟩) (Kd.V_far (p := ⟨gb813, 6, none⟩) (Kd.V_far (p := ⟨gb813, 5, none⟩) (Kd.V_far (p := ⟨gb813, 4, none⟩) (Kd.V_far (p := ⟨gb813, 3, none⟩) (Kd.V_far (p := ⟨gb813, 2, none⟩) (Kd.V_far (p := ⟨gb813, 1, none⟩) (Kd.V_far (p := ⟨gb813, 0, none⟩) (Kd.V_mono HL786_8.out (fun k_ hk => (⟨hk, hk.2⟩ : _ ∧ k_ ≠ gb813))) (fun _ hk => hk.2) (.string t801)) (fun _ hk => hk.2) (.string t802)) (fun _ hk => hk.2) (.string t803)) (fun _ hk => hk.2) (.int .u8 t804)) (fun _ hk => hk.2) (.int .i64 t805)) (fun _ hk => hk.2) (.int .i64 t806)) (fun _ hk => hk.2) (.int .i64 t807)) (fun _ hk => hk.2) (.int .i64 t808)) (fun _ hk => hk.2) (.slice Ao41 t809.length co41)) (fun _ hk => ⟨hk.1.1.1, ⟨hk.1.1.2, hk.1.2⟩⟩)⟩
       have n4_ : Aside0 (Kd.V (Kd.int .u8) 5 (((((((((w38.setCell ⟨gb813, 0, none⟩ (.string t801)).setCell ⟨gb813, 1, none⟩ (.string t802)).setCell ⟨gb813, 2, none⟩ (.string t803)).setCell ⟨gb813, 3, none⟩ (.int .u8 t804)).setCell ⟨gb813, 4, none⟩ (.int .i64 t805)).setCell ⟨gb813, 5, none⟩ (.int .i64 t806)).setCell ⟨gb813, 6, none⟩ (.int .i64 t807)).setCell ⟨gb813, 7, none⟩ (.int .i64 t808)).setCell ⟨gb813, 8, none⟩ (.slice Ao41 t809.length co41)) w.heap.size (fun k_ => ((P0_ k_ ∨ P1_ k_) ∨ w.heap.size ≤ k_) ∧ k_ ≠ gb799 ∧ k_ ≠ gb813) (.slice Ao34 t795.length co34) t795) := ⟨by (with_reducible repeat (first | apply Va_ | apply VN_ | apply V1_)); exact Kd.V_mono (Kd.V_far (p := ⟨gb813, 8, none⟩) (Kd.V_far (p := ⟨gb813, 7, none⟩) (Kd.V_far (p := ⟨gb813, 6, none⟩) (Kd.V_far (p := ⟨gb813, 5, none⟩) (Kd.V_far (p := ⟨gb813, 4, none⟩) (Kd.V_far (p := ⟨gb813, 3, none⟩) (Kd.V_far (p := ⟨gb813, 2, none⟩) (Kd.V_far (p := ⟨gb813, 1, none⟩) (Kd.V_far (p := ⟨gb813, 0, none⟩) (Kd.V_mono HO797.out (fun k_ hk => (⟨hk, hk.2⟩ : _ ∧ k_ ≠ gb813))) (fun _ hk => hk.2) (.string t801)) (fun _ hk => hk.2) (.string t802)) (fun _ hk => hk.2) (.string t803)) (fun _ hk => hk.2) (.int .u8 t804)) (fun _ hk => hk.2) (.int .i64 t805)) (fun _ hk => hk.2) (.int .i64 t806)) (fun _ hk => hk.2) (.int .i64 t807)) (fun _ hk => hk.2) (.int .i64 t808)) (fun _ hk => hk.2) (.slice Ao41 t809.length co41)) (fun _ hk => ⟨hk.1.1.1, ⟨hk.1.1.2, hk.1.2⟩⟩)⟩
       have n5_ : Aside0 (Kd.V (Kd.int .u8) 5 (((((((((w38.setCell ⟨gb813, 0, none⟩ (.string t801)).setCell ⟨gb813, 1, none⟩ (.string t802)).setCell ⟨gb813, 2, none⟩ (.string t803)).setCell ⟨gb813, 3, none⟩ (.int .u8 t804)).setCell ⟨gb813, 4, none⟩ (.int .i64 t805)).setCell ⟨gb813, 5, none⟩ (.int .i64 t806)).setCell ⟨gb813, 6, none⟩ (.int .i64 t807)).setCell ⟨gb813, 7, none⟩ (.int .i64 t808)).setCell ⟨gb813, 8, none⟩ (.slice Ao41 t809.length co41)) w.heap.size (fun k_ => ((P0_ k_ ∨ P1_ k_) ∨ w.heap.size ≤ k_) ∧ k_ ≠ gb799 ∧ k_ ≠ gb813) (.slice A800_8 ((rd_T38 l0 x8_2).f5).length c800_8) ((rd_T38 l0 x8_2).f5)) := ⟨by (with_reducible repeat (first | apply Va_ | apply VN_ | apply V1_)); exact Kd.V_mono (Kd.V_far (p := ⟨gb813, 8, none⟩) (Kd.V_far (p := ⟨gb813, 7, none⟩) (Kd.V_far (p := ⟨gb813, 6, none⟩) (Kd.V_far (p := ⟨gb813, 5, none⟩) (Kd.V_far (p := ⟨gb813, 4, none⟩) (Kd.V_far (p := ⟨gb813, 3, none⟩) (Kd.V_far (p := ⟨gb813, 2, none⟩) (Kd.V_far (p := ⟨gb813, 1, none⟩) (Kd.V_far (p := ⟨gb813, 0, none⟩) (Kd.V_mono HL800_8.out (fun k_ hk => (⟨hk, hk.2⟩ : _ ∧ k_ ≠ gb813))) (fun _ hk => hk.2) (.string t801)) (fun _ hk => hk.2) (.string t802)) (fun _ hk => hk.2) (.string t803)) (fun _ hk => hk.2) (.int .u8 t804)) (fun _ hk => hk.2) (.int .i64 t805)) (fun _ hk => hk.2) (.int .i64 t806)) (fun _ hk => hk.2) (.int .i64 t807)) (fun _ hk => hk.2) (.int .i64 t808)) (fun _ hk => hk.2) (.slice Ao41 t809.length co41)) (fun _ hk => ⟨hk.1.1.1, ⟨hk.1.1.2, hk.1.2⟩⟩)⟩
       have n6_ : Aside0 (Kd.V (Kd.int .u8) 5 (((((((((w38.setCell ⟨gb813, 0, none⟩ (.string t801)).setCell ⟨gb813, 1, none⟩ (.string t802)).setCell ⟨gb813, 2, none⟩ (.string t803)).setCell ⟨gb813, 3, none⟩ (.int .u8 t804)).setCell ⟨gb813, 4, none⟩ (.int .i64 t805)).setCell ⟨gb813, 5, none⟩ (.int .i64 t806)).setCell ⟨gb813, 6, none⟩ (.int .i64 t807)).setCell ⟨gb813, 7, none⟩ (.int .i64 t808)).setCell ⟨gb813, 8, none⟩ (.slice Ao41 t809.length co41)) w.heap.size (fun k_ => ((P0_ k_ ∨ P1_ k_) ∨ w.heap.size ≤ k_) ∧ k_ ≠ gb799 ∧ k_ ≠ gb813) (.slice Ao41 t809.length co41) t809) := ⟨by (with_reducible repeat (first | apply Va_ | apply VN_ | apply V1_)); exact Kd.V_mono (Kd.V_far (p := ⟨gb813, 8, none⟩) (Kd.V_far (p := ⟨gb813, 7, none⟩) (Kd.V_far (p := ⟨gb813, 6, none⟩) (Kd.V_far (p := ⟨gb813, 5, none⟩) (Kd.V_far (p := ⟨gb813, 4, none⟩) (Kd.V_far (p := ⟨gb813, 3, none⟩) (Kd.V_far (p := ⟨gb813, 2, none⟩) (Kd.V_far (p := ⟨gb813, 1, none⟩) (Kd.V_far (p := ⟨gb813, 0, none⟩) (Kd.V_mono HO811.out (fun k_ hk => (⟨hk, hk.2⟩ : _ ∧ k_ ≠ gb813))) (fun _ hk => hk.2) (.string t801)) (fun _ hk => hk.2) (.string t802)) (fun _ hk => hk.2) (.string t803)) (fun _ hk => hk.2) (.int .u8 t804)) (fun _ hk => hk.2) (.int .i64 t805)) (fun _ hk => hk.2) (.int .i64 t806)) (fun _ hk => hk.2) (.int .i64 t807)) (fun _ hk => hk.2) (.int .i64 t808)) (fun _ hk => hk.2) (.slice Ao41 t809.length co41)) (fun _ hk => ⟨hk.1.1.1, ⟨hk.1.1.2, hk.1.2⟩⟩)⟩
       have n7_ : Aside0 ((((((((((w38.setCell ⟨gb813, 0, none⟩ (.string t801)).setCell ⟨gb813, 1, none⟩ (.string t802)).setCell ⟨gb813, 2, none⟩ (.string t803)).setCell ⟨gb813, 3, none⟩ (.int .u8 t804)).setCell ⟨gb813, 4, none⟩ (.int .i64 t805)).setCell ⟨gb813, 5, none⟩ (.int .i64 t806)).setCell ⟨gb813, 6, none⟩ (.int .i64 t807)).setCell ⟨gb813, 7, none⟩ (.int .i64 t808)).setCell ⟨gb813, 8, none⟩ (.slice Ao41 t809.length co41)).heap[gb799]? = some (.cells #[.string t787, .string t788, .string t789, .int .u8 t790, .int .i64 t791, .int .i64 t792, .int .i64 t793, .int .i64 t794, .slice Ao34 t795.length co34] 38 (0, 0))) := ⟨by (with_reducible repeat (first | refine blk_drewN ?_ _ | refine blk_drew ?_ | refine blk_alloc ?_ _)); refine blk_far ?_ NB799_813.out _; (with_reducible repeat (first | refine blk_drewN ?_ _ | refine blk_drew ?_ | refine blk_alloc ?_ _)); refine blk_far ?_ NB799_813.out _; (with_reducible repeat (first | refine blk_drewN ?_ _ | refine blk_drew ?_ | refine blk_alloc ?_ _)); refine blk_far ?_ NB799_813.out _; (with_reducible repeat (first | refine blk_drewN ?_ _ | refine blk_drew ?_ | refine blk_alloc ?_ _)); refine blk_far ?_ NB799_813.out _; (with_reducible repeat (first | refine blk_drewN ?_ _ | refine blk_drew ?_ | refine blk_alloc ?_ _)); refine blk_far ?_ NB799_813.out _; (with_reducible repeat (first | refine blk_drewN ?_ _ | refine blk_drew ?_ | refine blk_alloc ?_ _)); refine blk_far ?_ NB799_813.out _; (with_reducible repeat (first | refine blk_drewN ?_ _ | refine blk_drew ?_ | refine blk_alloc ?_ _)); refine blk_far ?_ NB799_813.out _; (with_reducible repeat (first | refine blk_drewN ?_ _ | refine blk_drew ?_ | refine blk_alloc ?_ _)); refine blk_far ?_ NB799_813.out _; (with_reducible repeat (first | refine blk_drewN ?_ _ | refine blk_drew ?_ | refine blk_alloc ?_ _)); refine blk_far ?_ NB799_813.out _; (with_reducible repeat (first | refine blk_drewN ?_ _ | refine blk_drew ?_ | refine blk_alloc ?_ _)); exact BK799.out⟩
       have n8_ : Aside0 ((((((((((w38.setCell ⟨gb813, 0, none⟩ (.string t801)).setCell ⟨gb813, 1, none⟩ (.string t802)).setCell ⟨gb813, 2, none⟩ (.string t803)).setCell ⟨gb813, 3, none⟩ (.int .u8 t804)).setCell ⟨gb813, 4, none⟩ (.int .i64 t805)).setCell ⟨gb813, 5, none⟩ (.int .i64 t806)).setCell ⟨gb813, 6, none⟩ (.int .i64 t807)).setCell ⟨gb813, 7, none⟩ (.int .i64 t808)).setCell ⟨gb813, 8, none⟩ (.slice Ao41 t809.length co41)).heap[gb813]? = some (.cells #[.string t801, .string t802, .string t803, .int .u8 t804, .int .i64 t805, .int .i64 t806, .int .i64 t807, .int .i64 t808, .slice Ao41 t809.length co41] 38 (0, 0))) := ⟨by (with_reducible repeat (first | refine blk_drewN ?_ _ | refine blk_drew ?_ | refine blk_alloc ?_ _)); refine blk_put (cs := #[.string t801, .string t802, .string t803, .int .u8 t804, .int .i64 t805, .int .i64 t806, .int .i64 t807, .int .i64 t808, .slice none 0 0]) ?_ 8 _ rfl; (with_reducible repeat (first | refine blk_drewN ?_ _ | refine blk_drew ?_ | refine blk_alloc ?_ _)); refine blk_put (cs := #[.string t801, .string t802, .string t803, .int .u8 t804, .int .i64 t805, .int .i64 t806, .int .i64 t807, .int .i64 0, .slice none 0 0]) ?_ 7 _ rfl; (with_reducible repeat (first | refine blk_drewN ?_ _ | refine blk_drew ?_ | refine blk_alloc ?_ _)); refine blk_put (cs := #[.string t801, .string t802, .string t803, .int .u8 t804, .int .i64 t805, .int .i64 t806, .int .i64 0, .int .i64 0, .slice none 0 0]) ?_ 6 _ rfl; (with_reducible repeat (first | refine blk_drewN ?_ _ | refine blk_drew ?_ | refine blk_alloc ?_ _)); refine blk_put (cs := #[.string t801, .string t802, .string t803, .int .u8 t804, .int .i64 t805, .int .i64 0, .int .i64 0, .int .i64 0, .slice none 0 0]) ?_ 5 _ rfl; (with_reducible repeat (first | refine blk_drewN ?_ _ | refine blk_drew ?_ | refine blk_alloc ?_ _)); refine blk_put (cs := #[.string t801, .string t802, .string t803, .int .u8 t804, .int .i64 0, .int .i64 0, .int .i64 0, .int .i64 0, .slice none 0 0]) ?_ 4 _ rfl; (with_reducible repeat (first | refine blk_drewN ?_ _ | refine blk_drew ?_ | refine blk_alloc ?_ _)); refine blk_put (cs := #[.string t801, .string t802, .string t803, .int .u8 0, .int .i64 0, .int .i64 0, .int .i64 0, .int .i64 0, .slice none 0 0]) ?_ 3 _ rfl; (with_reducible repeat (first | refine blk_drewN ?_ _ | refine blk_drew ?_ | refine blk_alloc ?_ _)); refine blk_put (cs := #[.string t801, .string t802, .string (⟨#[]⟩ : ByteArray), .int .u8 0, .int .i64 0, .int .i64 0, .int .i64 0, .int .i64 0, .slice none 0 0]) ?_ 2 _ rfl; (with_reducible repeat (first | refine blk_drewN ?_ _ | refine blk_drew ?_ | refine blk_alloc ?_ _)); refine blk_put (cs := #[.string t801, .string (⟨#[]⟩ : ByteArray), .string (⟨#[]⟩ : ByteArray), .int .u8 0, .int .i64 0, .int .i64 0, .int .i64 0, .int .i64 0, .slice none 0 0]) ?_ 1 _ rfl; (with_reducible repeat (first | refine blk_drewN ?_ _ | refine blk_drew ?_ | refine blk_alloc ?_ _)); refine blk_put (cs := #[.string (⟨#[]⟩ : ByteArray), .string (⟨#[]⟩ : ByteArray), .string (⟨#[]⟩ : ByteArray), .int .u8 0, .int .i64 0, .int .i64 0, .int .i64 0, .int .i64 0, .slice none 0 0]) ?_ 0 _ rfl; (with_reducible repeat (first | refine blk_drewN ?_ _ | refine blk_drew ?_ | refine blk_alloc ?_ _)); exact BK813.out⟩
       have n9_ : Aside0 (Below w.heap.size w (((((((((w38.setCell ⟨gb813, 0, none⟩ (.string t801)).setCell ⟨gb813, 1, none⟩ (.string t802)).setCell ⟨gb813, 2, none⟩ (.string t803)).setCell ⟨gb813, 3, none⟩ (.int .u8 t804)).setCell ⟨gb813, 4, none⟩ (.int .i64 t805)).setCell ⟨gb813, 5, none⟩ (.int .i64 t806)).setCell ⟨gb813, 6, none⟩ (.int .i64 t807)).setCell ⟨gb813, 7, none⟩ (.int .i64 t808)).setCell ⟨gb813, 8, none⟩ (.slice Ao41 t809.length co41))) := ⟨wb2_ HB.out GE799.out GE813.out⟩
       (try clear HO_0)
       (try clear HO_1)
       (try clear HO_5)
       (try clear HL786_8)
       (try clear HO797)
       (try clear HL800_8)
       (try clear HO811)
       (try clear BK799)
       (try clear BK813)
       (try clear HB)
       generalize (((((((((w38.setCell ⟨gb813, 0, none⟩ (.string t801)).setCell ⟨gb813, 1, none⟩ (.string t802)).setCell ⟨gb813, 2, none⟩ (.string t803)).setCell ⟨gb813, 3, none⟩ (.int .u8 t804)).setCell ⟨gb813, 4, none⟩ (.int .i64 t805)).setCell ⟨gb813, 5, none⟩ (.int .i64 t806)).setCell ⟨gb813, 6, none⟩ (.int .i64 t807)).setCell ⟨gb813, 7, none⟩ (.int .i64 t808)).setCell ⟨gb813, 8, none⟩ (.slice Ao41 t809.length co41)) = w47 at n0_ n1_ n2_ n3_ n4_ n5_ n6_ n7_ n8_ n9_ ⊢
       have HO_0 := n0_
       have HO_1 := n1_
       have HO_5 := n2_
       have HL786_8 := n3_
       have HO797 := n4_
       have HL800_8 := n5_
       have HO811 := n6_
       have BK799 := n7_
       have BK813 := n8_
       have HB := n9_
       clear n0_ n1_ n2_ n3_ n4_ n5_ n6_ n7_ n8_ n9_
       have n0_ := A0_ (V1_ HO_0.out)
       have n1_ := A0_ (V1_ HO_1.out)
       have n2_ := A0_ (V1_ HO_5.out)
       have n3_ := A0_ (V1_ HL786_8.out)
       have n4_ := A0_ (V1_ HO797.out)
       have n5_ := A0_ (V1_ HL800_8.out)
       have n6_ := A0_ (V1_ HO811.out)
       have n7_ := A0_ (blk_drew BK799.out)
       have n8_ := A0_ (blk_drew BK813.out)
       have n9_ := A0_ (b1_ HB.out)
       clear HO_0
       clear HO_1
       clear HO_5
       clear HL786_8
       clear HO797
       clear HL800_8
       clear HO811
       clear BK799
       clear BK813
       clear HB
       have HO_0 := n0_
       have HO_1 := n1_
       have HO_5 := n2_
       have HL786_8 := n3_
       have HO797 := n4_
       have HL800_8 := n5_
       have HO811 := n6_
       have BK799 := n7_
       have BK813 := n8_
       have HB := n9_
       clear n0_ n1_ n2_ n3_ n4_ n5_ n6_ n7_ n8_ n9_
       refine start_ (n := 10) (S := fun w' => True) (ds := []) q12_0 (by kernel_rfl) rfl rfl trivial (fun hHeld => ?_); refine with_tabW bindlelaw20_SubWhole.tab10 bindlelaw20_SubWhole.bits10 (fun HT_ HW_ => ?_)
       generalize w47.drew = w48 at HO_0 HO_1 HO_5 HL786_8 HO797 HL800_8 HO811 BK799 BK813 HB hHeld ⊢
       refine pur_ (i := 0) (N := some 62) q12_1 (any_of HT_.out (by kernel_rfl)) ?_
       refine pur_ (i := 1) (N := some 63) q12_2 (any_of HT_.out (by kernel_rfl)) ?_
       refine puu_ (i := 2) (N := some 64) q12_3 (any_of HT_.out (by kernel_rfl)) ?_
       refine puu_ (i := 3) (N := some 65) q12_4 (any_of HT_.out (by kernel_rfl)) ?_
       refine puu_ (i := 4) (N := some 66) q12_5 (any_of HT_.out (by kernel_rfl)) ?_
       refine puu_ (i := 5) (N := some 67) q12_6 (any_of HT_.out (by kernel_rfl)) ?_
       refine puu_ (i := 6) (N := some 68) q12_7 (any_of HT_.out (by kernel_rfl)) ?_
       refine puu_ (i := 7) (N := some 69) q12_8 (any_of HT_.out (by kernel_rfl)) ?_
       refine pur_ (i := 8) (N := some 70) q12_9 (any_of HT_.out (by kernel_rfl)) ?_
       refine pur_ (i := 9) (N := some 13) q12_10 (any_of HT_.out (by kernel_rfl)) ?_
       refine done_ (done_of HT_.out (by kernel_rfl)) ?_
       try go_wp2
       go_meet
       case rel => exact ⟨_, (false), wr_, H', ⟨by have := HJ2.out; have := HK2.out; first | omega | exact Nat.le_refl _⟩, ⟨wV_ HO_0.out⟩, ⟨wV_ HO_1.out⟩, ⟨wV_ HO_5.out⟩, ⟨wV_ HO797.out⟩, ⟨wV_ HO811.out⟩, ⟨wB_ BK799.out⟩, ⟨wB_ BK813.out⟩, ⟨wb2_ HB.out GE799.out GE813.out⟩⟩
      subst c42
      have H1 : ((bindleref08_Equal.f t787 t788 t789 t790 t791 t792 t793 t794 t795 ((rd_T38 l0 x8_2).f0) ((rd_T38 l0 x8_2).f1) ((rd_T38 l0 x8_2).f2) ((rd_T38 l0 x8_2).f3) ((rd_T38 l0 x8_2).f4.f0) ((rd_T38 l0 x8_2).f4.f1) ((rd_T38 l0 x8_2).f4.f2) ((rd_T38 l0 x8_2).f4.f3) ((rd_T38 l0 x8_2).f5)).bind fun t815 => (bindlelaw20_SubWhole.j2 k2 l0 l1 t781 t784 x7_2 x8_2 t812 t815 t801 t802 t803 t804 t805 t806 t807 t808 t809)) = some r := by rw [if_pos rfl] at H; exact H
      clear H
      have H := H1
      clear H1
      replace H := Option.bind_eq_some_iff.mp H
      obtain ⟨t815, A430, H⟩ := H
      replace H : (bindlelaw20_SubWhole.j2 k2 l0 l1 t781 t784 x7_2 x8_2 t812 t815 t801 t802 t803 t804 t805 t806 t807 t808 t809) = some r := H
      have A43 := A0_ A430
      clear A430
      have H' := A0_ H
      clear H
      try go_wp2
      have n0_ : Aside0 (Kd.V k38 38 (((((((((w38.setCell ⟨gb813, 0, none⟩ (.string t801)).setCell ⟨gb813, 1, none⟩ (.string t802)).setCell ⟨gb813, 2, none⟩ (.string t803)).setCell ⟨gb813, 3, none⟩ (.int .u8 t804)).setCell ⟨gb813, 4, none⟩ (.int .i64 t805)).setCell ⟨gb813, 5, none⟩ (.int .i64 t806)).setCell ⟨gb813, 6, none⟩ (.int .i64 t807)).setCell ⟨gb813, 7, none⟩ (.int .i64 t808)).setCell ⟨gb813, 8, none⟩ (.slice Ao41 t809.length co41)) w.heap.size (fun k_ => ((P0_ k_ ∨ P1_ k_) ∨ w.heap.size ≤ k_) ∧ k_ ≠ gb799 ∧ k_ ≠ gb813) (.slice (some ad786) l0.length c0) l0) := ⟨by (with_reducible repeat (first | apply Va_ | apply VN_ | apply V1_)); exact Kd.V_mono (Kd.V_far (p := ⟨gb813, 8, none⟩) (Kd.V_far (p := ⟨gb813, 7, none⟩) (Kd.V_far (p := ⟨gb813, 6, none⟩) (Kd.V_far (p := ⟨gb813, 5, none⟩) (Kd.V_far (p := ⟨gb813, 4, none⟩) (Kd.V_far (p := ⟨gb813, 3, none⟩) (Kd.V_far (p := ⟨gb813, 2, none⟩) (Kd.V_far (p := ⟨gb813, 1, none⟩) (Kd.V_far (p := ⟨gb813, 0, none⟩) (Kd.V_mono HO_0.out (fun k_ hk => (⟨hk, hk.2⟩ : _ ∧ k_ ≠ gb813))) (fun _ hk => hk.2) (.string t801)) (fun _ hk => hk.2) (.string t802)) (fun _ hk => hk.2) (.string t803)) (fun _ hk => hk.2) (.int .u8 t804)) (fun _ hk => hk.2) (.int .i64 t805)) (fun _ hk => hk.2) (.int .i64 t806)) (fun _ hk => hk.2) (.int .i64 t807)) (fun _ hk => hk.2) (.int .i64 t808)) (fun _ hk => hk.2) (.slice Ao41 t809.length co41)) (fun _ hk => ⟨hk.1.1.1, ⟨hk.1.1.2, hk.1.2⟩⟩)⟩
      have n1_ : Aside0 (Kd.V k38 38 (((((((((w38.setCell ⟨gb813, 0, none⟩ (.string t801)).setCell ⟨gb813, 1, none⟩ (.string t802)).setCell ⟨gb813, 2, none⟩ (.string t803)).setCell ⟨gb813, 3, none⟩ (.int .u8 t804)).setCell ⟨gb813, 4, none⟩ (.int .i64 t805)).setCell ⟨gb813, 5, none⟩ (.int .i64 t806)).setCell ⟨gb813, 6, none⟩ (.int .i64 t807)).setCell ⟨gb813, 7, none⟩ (.int .i64 t808)).setCell ⟨gb813, 8, none⟩ (.slice Ao41 t809.length co41)) w.heap.size (fun k_ => ((P0_ k_ ∨ P1_ k_) ∨ w.heap.size ≤ k_) ∧ k_ ≠ gb799 ∧ k_ ≠ gb813) (.slice A1 l1.length c1) l1) := ⟨by (with_reducible repeat (first | apply Va_ | apply VN_ | apply V1_)); exact Kd.V_mono (Kd.V_far (p := ⟨gb813, 8, none⟩) (Kd.V_far (p := ⟨gb813, 7, none⟩) (Kd.V_far (p := ⟨gb813, 6, none⟩) (Kd.V_far (p := ⟨gb813, 5, none⟩) (Kd.V_far (p := ⟨gb813, 4, none⟩) (Kd.V_far (p := ⟨gb813, 3, none⟩) (Kd.V_far (p := ⟨gb813, 2, none⟩) (Kd.V_far (p := ⟨gb813, 1, none⟩) (Kd.V_far (p := ⟨gb813, 0, none⟩) (Kd.V_mono HO_1.out (fun k_ hk => (⟨hk, hk.2⟩ : _ ∧ k_ ≠ gb813))) (fun _ hk => hk.2) (.string t801)) (fun _ hk => hk.2) (.string t802)) (fun _ hk => hk.2) (.string t803)) (fun _ hk => hk.2) (.int .u8 t804)) (fun _ hk => hk.2) (.int .i64 t805)) (fun _ hk => hk.2) (.int .i64 t806)) (fun _ hk => hk.2) (.int .i64 t807)) (fun _ hk => hk.2) (.int .i64 t808)) (fun _ hk => hk.2) (.slice Ao41 t809.length co41)) (fun _ hk => ⟨hk.1.1.1, ⟨hk.1.1.2, hk.1.2⟩⟩)⟩
      have n2_ : Aside0 (Kd.V k38 38 (((((((((w38.setCell ⟨gb813, 0, none⟩ (.string t801)).setCell ⟨gb813, 1, none⟩ (.string t802)).setCell ⟨gb813, 2, none⟩ (.string t803)).setCell ⟨gb813, 3, none⟩ (.int .u8 t804)).setCell ⟨gb813, 4, none⟩ (.int .i64 t805)).setCell ⟨gb813, 5, none⟩ (.int .i64 t806)).setCell ⟨gb813, 6, none⟩ (.int .i64 t807)).setCell ⟨gb813, 7, none⟩ (.int .i64 t808)).setCell ⟨gb813, 8, none⟩ (.slice Ao41 t809.length co41)) w.heap.size (fun k_ => ((P0_ k_ ∨ P1_ k_) ∨ w.heap.size ≤ k_) ∧ k_ ≠ gb799 ∧ k_ ≠ gb813) (.slice Ao36 t781.length co36) t781) := ⟨by (with_reducible repeat (first | apply Va_ | apply VN_ | apply V1_)); exact Kd.V_mono (Kd.V_far (p := ⟨gb813, 8, none⟩) (Kd.V_far (p := ⟨gb813, 7, none⟩) (Kd.V_far (p := ⟨gb813, 6, none⟩) (Kd.V_far (p := ⟨gb813, 5, none⟩) (Kd.V_far (p := ⟨gb813, 4, none⟩) (Kd.V_far (p := ⟨gb813, 3, none⟩) (Kd.V_far (p := ⟨gb813, 2, none⟩) (Kd.V_far (p := ⟨gb813, 1, none⟩) (Kd.V_far (p := ⟨gb813, 0, none⟩) (Kd.V_mono HO_5.out (fun k_ hk => (⟨hk, hk.2⟩ : _ ∧ k_ ≠ gb813))) (fun _ hk => hk.2) (.string t801)) (fun _ hk => hk.2) (.string t802)) (fun _ hk => hk.2) (.string t803)) (fun _ hk => hk.2) (.int .u8 t804)) (fun _ hk => hk.2) (.int .i64 t805)) (fun _ hk => hk.2) (.int .i64 t806)) (fun _ hk => hk.2) (.int .i64 t807)) (fun _ hk => hk.2) (.int .i64 t808)) (fun _ hk => hk.2) (.slice Ao41 t809.length co41)) (fun _ hk => ⟨hk.1.1.1, ⟨hk.1.1.2, hk.1.2⟩⟩)⟩
      have n3_ : Aside0 (Kd.V (Kd.int .u8) 5 (((((((((w38.setCell ⟨gb813, 0, none⟩ (.string t801)).setCell ⟨gb813, 1, none⟩ (.string t802)).setCell ⟨gb813, 2, none⟩ (.string t803)).setCell ⟨gb813, 3, none⟩ (.int .u8 t804)).setCell ⟨gb813, 4, none⟩ (.int .i64 t805)).setCell ⟨gb813, 5, none⟩ (.int .i64 t806)).setCell ⟨gb813, 6, none⟩ (.int .i64 t807)).setCell ⟨gb813, 7, none⟩ (.int .i64 t808)).setCell ⟨gb813, 8, none⟩ (.slice Ao41 t809.length co41)) w.heap.size (fun k_ => ((P0_ k_ ∨ P1_ k_) ∨ w.heap.size ≤ k_) ∧ k_ ≠ gb799 ∧ k_ ≠ gb813) (.slice A786_8 ((rd_T38 l0 x8_2).f5).length c786_8) ((rd_T38 l0 x8_2).f5)) := ⟨by (with_reducible repeat (first | apply Va_ | apply VN_ | apply V1_)); exact Kd.V_mono (Kd.V_far (p := ⟨gb813, 8, none⟩) (Kd.V_far (p := ⟨gb813, 7, none⟩) (Kd.V_far (p := ⟨gb813, 6, none⟩) (Kd.V_far (p := ⟨gb813, 5, none⟩) (Kd.V_far (p := ⟨gb813, 4, none⟩) (Kd.V_far (p := ⟨gb813, 3, none⟩) (Kd.V_far (p := ⟨gb813, 2, none⟩) (Kd.V_far (p := ⟨gb813, 1, none⟩) (Kd.V_far (p := ⟨gb813, 0, none⟩) (Kd.V_mono HL786_8.out (fun k_ hk => (⟨hk, hk.2⟩ : _ ∧ k_ ≠ gb813))) (fun _ hk => hk.2) (.string t801)) (fun _ hk => hk.2) (.string t802)) (fun _ hk => hk.2) (.string t803)) (fun _ hk => hk.2) (.int .u8 t804)) (fun _ hk => hk.2) (.int .i64 t805)) (fun _ hk => hk.2) (.int .i64 t806)) (fun _ hk => hk.2) (.int .i64 t807)) (fun _ hk => hk.2) (.int .i64 t808)) (fun _ hk => hk.2) (.slice Ao41 t809.length co41)) (fun _ hk => ⟨hk.1.1.1, ⟨hk.1.1.2, hk.1.2⟩⟩)⟩
      have n4_ : Aside0 (Kd.V (Kd.int .u8) 5 (((((((((w38.setCell ⟨gb813, 0, none⟩ (.string t801)).setCell ⟨gb813, 1, none⟩ (.string t802)).setCell ⟨gb813, 2, none⟩ (.string t803)).setCell ⟨gb813, 3, none⟩ (.int .u8 t804)).setCell ⟨gb813, 4, none⟩ (.int .i64 t805)).setCell ⟨gb813, 5, none⟩ (.int .i64 t806)).setCell ⟨gb813, 6, none⟩ (.int .i64 t807)).setCell ⟨gb813, 7, none⟩ (.int .i64 t808)).setCell ⟨gb813, 8, none⟩ (.slice Ao41 t809.length co41)) w.heap.size (fun k_ => ((P0_ k_ ∨ P1_ k_) ∨ w.heap.size ≤ k_) ∧ k_ ≠ gb799 ∧ k_ ≠ gb813) (.slice Ao34 t795.length co34) t795) := ⟨by (with_reducible repeat (first | apply Va_ | apply VN_ | apply V1_)); exact Kd.V_mono (Kd.V_far (p := ⟨gb813, 8, none⟩) (Kd.V_far (p := ⟨gb813, 7, none⟩) (Kd.V_far (p := ⟨gb813, 6, none⟩) (Kd.V_far (p := ⟨gb813, 5, none⟩) (Kd.V_far (p := ⟨gb813, 4, none⟩) (Kd.V_far (p := ⟨gb813, 3, none⟩) (Kd.V_far (p := ⟨gb813, 2, none⟩) (Kd.V_far (p := ⟨gb813, 1, none⟩) (Kd.V_far (p := ⟨gb813, 0, none⟩) (Kd.V_mono HO797.out (fun k_ hk => (⟨hk, hk.2⟩ : _ ∧ k_ ≠ gb813))) (fun _ hk => hk.2) (.string t801)) (fun _ hk => hk.2) (.string t802)) (fun _ hk => hk.2) (.string t803)) (fun _ hk => hk.2) (.int .u8 t804)) (fun _ hk => hk.2) (.int .i64 t805)) (fun _ hk => hk.2) (.int .i64 t806)) (fun _ hk => hk.2) (.int .i64 t807)) (fun _ hk => hk.2) (.int .i64 t808)) (fun _ hk => hk.2) (.slice Ao41 t809.length co41)) (fun _ hk => ⟨hk.1.1.1, ⟨hk.1.1.2, hk.1.2⟩⟩)⟩
      have n5_ : Aside0 (Kd.V (Kd.int .u8) 5 (((((((((w38.setCell ⟨gb813, 0, none⟩ (.string t801)).setCell ⟨gb813, 1, none⟩ (.string t802)).setCell ⟨gb813, 2, none⟩ (.string t803)).setCell ⟨gb813, 3, none⟩ (.int .u8 t804)).setCell ⟨gb813, 4, none⟩ (.int .i64 t805)).setCell ⟨gb813, 5, none⟩ (.int .i64 t806)).setCell ⟨gb813, 6, none⟩ (.int .i64 t807)).setCell ⟨gb813, 7, none⟩ (.int .i64 t808)).setCell ⟨gb813, 8, none⟩ (.slice Ao41 t809.length co41)) w.heap.size (fun k_ => ((P0_ k_ ∨ P1_ k_) ∨ w.heap.size ≤ k_) ∧ k_ ≠ gb799 ∧ k_ ≠ gb813) (.slice A800_8 ((rd_T38 l0 x8_2).f5).length c800_8) ((rd_T38 l0 x8_2).f5)) := ⟨by (with_reducible repeat (first | apply Va_ | apply VN_ | apply V1_)); exact Kd.V_mono (Kd.V_far (p := ⟨gb813, 8, none⟩) (Kd.V_far (p := ⟨gb813, 7, none⟩) (Kd.V_far (p := ⟨gb813, 6, none⟩) (Kd.V_far (p := ⟨gb813, 5, none⟩) (Kd.V_far (p := ⟨gb813, 4, none⟩) (Kd.V_far (p := ⟨gb813, 3, none⟩) (Kd.V_far (p := ⟨gb813, 2, none⟩) (Kd.V_far (p := ⟨gb813, 1, none⟩) (Kd.V_far (p := ⟨gb813, 0, none⟩) (Kd.V_mono HL800_8.out (fun k_ hk => (⟨hk, hk.2⟩ : _ ∧ k_ ≠ gb813))) (fun _ hk => hk.2) (.string t801)) (fun _ hk => hk.2) (.string t802)) (fun _ hk => hk.2) (.string t803)) (fun _ hk => hk.2) (.int .u8 t804)) (fun _ hk => hk.2) (.int .i64 t805)) (fun _ hk => hk.2) (.int .i64 t806)) (fun _ hk => hk.2) (.int .i64 t807)) (fun _ hk => hk.2) (.int .i64 t808)) (fun _ hk => hk.2) (.slice Ao41 t809.length co41)) (fun _ hk => ⟨hk.1.1.1, ⟨hk.1.1.2, hk.1.2⟩⟩)⟩
      have n6_ : Aside0 (Kd.V (Kd.int .u8) 5 (((((((((w38.setCell ⟨gb813, 0, none⟩ (.string t801)).setCell ⟨gb813, 1, none⟩ (.string t802)).setCell ⟨gb813, 2, none⟩ (.string t803)).setCell ⟨gb813, 3, none⟩ (.int .u8 t804)).setCell ⟨gb813, 4, none⟩ (.int .i64 t805)).setCell ⟨gb813, 5, none⟩ (.int .i64 t806)).setCell ⟨gb813, 6, none⟩ (.int .i64 t807)).setCell ⟨gb813, 7, none⟩ (.int .i64 t808)).setCell ⟨gb813, 8, none⟩ (.slice Ao41 t809.length co41)) w.heap.size (fun k_ => ((P0_ k_ ∨ P1_ k_) ∨ w.heap.size ≤ k_) ∧ k_ ≠ gb799 ∧ k_ ≠ gb813) (.slice Ao41 t809.length co41) t809) := ⟨by (with_reducible repeat (first | apply Va_ | apply VN_ | apply V1_)); exact Kd.V_mono (Kd.V_far (p := ⟨gb813, 8, none⟩) (Kd.V_far (p := ⟨gb813, 7, none⟩) (Kd.V_far (p := ⟨gb813, 6, none⟩) (Kd.V_far (p := ⟨gb813, 5, none⟩) (Kd.V_far (p := ⟨gb813, 4, none⟩) (Kd.V_far (p := ⟨gb813, 3, none⟩) (Kd.V_far (p := ⟨gb813, 2, none⟩) (Kd.V_far (p := ⟨gb813, 1, none⟩) (Kd.V_far (p := ⟨gb813, 0, none⟩) (Kd.V_mono HO811.out (fun k_ hk => (⟨hk, hk.2⟩ : _ ∧ k_ ≠ gb813))) (fun _ hk => hk.2) (.string t801)) (fun _ hk => hk.2) (.string t802)) (fun _ hk => hk.2) (.string t803)) (fun _ hk => hk.2) (.int .u8 t804)) (fun _ hk => hk.2) (.int .i64 t805)) (fun _ hk => hk.2) (.int .i64 t806)) (fun _ hk => hk.2) (.int .i64 t807)) (fun _ hk => hk.2) (.int .i64 t808)) (fun _ hk => hk.2) (.slice Ao41 t809.length co41)) (fun _ hk => ⟨hk.1.1.1, ⟨hk.1.1.2, hk.1.2⟩⟩)⟩
      have n7_ : Aside0 ((((((((((w38.setCell ⟨gb813, 0, none⟩ (.string t801)).setCell ⟨gb813, 1, none⟩ (.string t802)).setCell ⟨gb813, 2, none⟩ (.string t803)).setCell ⟨gb813, 3, none⟩ (.int .u8 t804)).setCell ⟨gb813, 4, none⟩ (.int .i64 t805)).setCell ⟨gb813, 5, none⟩ (.int .i64 t806)).setCell ⟨gb813, 6, none⟩ (.int .i64 t807)).setCell ⟨gb813, 7, none⟩ (.int .i64 t808)).setCell ⟨gb813, 8, none⟩ (.slice Ao41 t809.length co41)).heap[gb799]? = some (.cells #[.string t787, .string t788, .string t789, .int .u8 t790, .int .i64 t791, .int .i64 t792, .int .i64 t793, .int .i64 t794, .slice Ao34 t795.length co34] 38 (0, 0))) := ⟨by (with_reducible repeat (first | refine blk_drewN ?_ _ | refine blk_drew ?_ | refine blk_alloc ?_ _)); refine blk_far ?_ NB799_813.out _; (with_reducible repeat (first | refine blk_drewN ?_ _ | refine blk_drew ?_ | refine blk_alloc ?_ _)); refine blk_far ?_ NB799_813.out _; (with_reducible repeat (first | refine blk_drewN ?_ _ | refine blk_drew ?_ | refine blk_alloc ?_ _)); refine blk_far ?_ NB799_813.out _; (with_reducible repeat (first | refine blk_drewN ?_ _ | refine blk_drew ?_ | refine blk_alloc ?_ _)); refine blk_far ?_ NB799_813.out _; (with_reducible repeat (first | refine blk_drewN ?_ _ | refine blk_drew ?_ | refine blk_alloc ?_ _)); refine blk_far ?_ NB799_813.out _; (with_reducible repeat (first | refine blk_drewN ?_ _ | refine blk_drew ?_ | refine blk_alloc ?_ _)); refine blk_far ?_ NB799_813.out _; (with_reducible repeat (first | refine blk_drewN ?_ _ | refine blk_drew ?_ | refine blk_alloc ?_ _)); refine blk_far ?_ NB799_813.out _; (with_reducible repeat (first | refine blk_drewN ?_ _ | refine blk_drew ?_ | refine blk_alloc ?_ _)); refine blk_far ?_ NB799_813.out _; (with_reducible repeat (first | refine blk_drewN ?_ _ | refine blk_drew ?_ | refine blk_alloc ?_ _)); refine blk_far ?_ NB799_813.out _; (with_reducible repeat (first | refine blk_drewN ?_ _ | refine blk_drew ?_ | refine blk_alloc ?_ _)); exact BK799.out⟩
      have n8_ : Aside0 ((((((((((w38.setCell ⟨gb813, 0, none⟩ (.string t801)).setCell ⟨gb813, 1, none⟩ (.string t802)).setCell ⟨gb813, 2, none⟩ (.string t803)).setCell ⟨gb813, 3, none⟩ (.int .u8 t804)).setCell ⟨gb813, 4, none⟩ (.int .i64 t805)).setCell ⟨gb813, 5, none⟩ (.int .i64 t806)).setCell ⟨gb813, 6, none⟩ (.int .i64 t807)).setCell ⟨gb813, 7, none⟩ (.int .i64 t808)).setCell ⟨gb813, 8, none⟩ (.slice Ao41 t809.length co41)).heap[gb813]? = some (.cells #[.string t801, .string t802, .string t803, .int .u8 t804, .int .i64 t805, .int .i64 t806, .int .i64 t807, .int .i64 t808, .slice Ao41 t809.length co41] 38 (0, 0))) := ⟨by (with_reducible repeat (first | refine blk_drewN ?_ _ | refine blk_drew ?_ | refine blk_alloc ?_ _)); refine blk_put (cs := #[.string t801, .string t802, .string t803, .int .u8 t804, .int .i64 t805, .int .i64 t806, .int .i64 t807, .int .i64 t808, .slice none 0 0]) ?_ 8 _ rfl; (with_reducible repeat (first | refine blk_drewN ?_ _ | refine blk_drew ?_ | refine blk_alloc ?_ _)); refine blk_put (cs := #[.string t801, .string t802, .string t803, .int .u8 t804, .int .i64 t805, .int .i64 t806, .int .i64 t807, .int .i64 0, .slice none 0 0]) ?_ 7 _ rfl; (with_reducible repeat (first | refine blk_drewN ?_ _ | refine blk_drew ?_ | refine blk_alloc ?_ _)); refine blk_put (cs := #[.string t801, .string t802, .string t803, .int .u8 t804, .int .i64 t805, .int .i64 t806, .int .i64 0, .int .i64 0, .slice none 0 0]) ?_ 6 _ rfl; (with_reducible repeat (first | refine blk_drewN ?_ _ | refine blk_drew ?_ | refine blk_alloc ?_ _)); refine blk_put (cs := #[.string t801, .string t802, .string t803, .int .u8 t804, .int .i64 t805, .int .i64 0, .int .i64 0, .int .i64 0, .slice none 0 0]) ?_ 5 _ rfl; (with_reducible repeat (first | refine blk_drewN ?_ _ | refine blk_drew ?_ | refine blk_alloc ?_ _)); refine blk_put (cs := #[.string t801, .string t802, .string t803, .int .u8 t804, .int .i64 0, .int .i64 0, .int .i64 0, .int .i64 0, .slice none 0 0]) ?_ 4 _ rfl; (with_reducible repeat (first | refine blk_drewN ?_ _ | refine blk_drew ?_ | refine blk_alloc ?_ _)); refine blk_put (cs := #[.string t801, .string t802, .string t803, .int .u8 0, .int .i64 0, .int .i64 0, .int .i64 0, .int .i64 0, .slice none 0 0]) ?_ 3 _ rfl; (with_reducible repeat (first | refine blk_drewN ?_ _ | refine blk_drew ?_ | refine blk_alloc ?_ _)); refine blk_put (cs := #[.string t801, .string t802, .string (⟨#[]⟩ : ByteArray), .int .u8 0, .int .i64 0, .int .i64 0, .int .i64 0, .int .i64 0, .slice none 0 0]) ?_ 2 _ rfl; (with_reducible repeat (first | refine blk_drewN ?_ _ | refine blk_drew ?_ | refine blk_alloc ?_ _)); refine blk_put (cs := #[.string t801, .string (⟨#[]⟩ : ByteArray), .string (⟨#[]⟩ : ByteArray), .int .u8 0, .int .i64 0, .int .i64 0, .int .i64 0, .int .i64 0, .slice none 0 0]) ?_ 1 _ rfl; (with_reducible repeat (first | refine blk_drewN ?_ _ | refine blk_drew ?_ | refine blk_alloc ?_ _)); refine blk_put (cs := #[.string (⟨#[]⟩ : ByteArray), .string (⟨#[]⟩ : ByteArray), .string (⟨#[]⟩ : ByteArray), .int .u8 0, .int .i64 0, .int .i64 0, .int .i64 0, .int .i64 0, .slice none 0 0]) ?_ 0 _ rfl; (with_reducible repeat (first | refine blk_drewN ?_ _ | refine blk_drew ?_ | refine blk_alloc ?_ _)); exact BK813.out⟩
      have n9_ : Aside0 (Below w.heap.size w (((((((((w38.setCell ⟨gb813, 0, none⟩ (.string t801)).setCell ⟨gb813, 1, none⟩ (.string t802)).setCell ⟨gb813, 2, none⟩ (.string t803)).setCell ⟨gb813, 3, none⟩ (.int .u8 t804)).setCell ⟨gb813, 4, none⟩ (.int .i64 t805)).setCell ⟨gb813, 5, none⟩ (.int .i64 t806)).setCell ⟨gb813, 6, none⟩ (.int .i64 t807)).setCell ⟨gb813, 7, none⟩ (.int .i64 t808)).setCell ⟨gb813, 8, none⟩ (.slice Ao41 t809.length co41))) := ⟨wb2_ HB.out GE799.out GE813.out⟩
      (try clear HO_0)
      (try clear HO_1)
      (try clear HO_5)
      (try clear HL786_8)
      (try clear HO797)
      (try clear HL800_8)
      (try clear HO811)
      (try clear BK799)
      (try clear BK813)
      (try clear HB)
      generalize (((((((((w38.setCell ⟨gb813, 0, none⟩ (.string t801)).setCell ⟨gb813, 1, none⟩ (.string t802)).setCell ⟨gb813, 2, none⟩ (.string t803)).setCell ⟨gb813, 3, none⟩ (.int .u8 t804)).setCell ⟨gb813, 4, none⟩ (.int .i64 t805)).setCell ⟨gb813, 5, none⟩ (.int .i64 t806)).setCell ⟨gb813, 6, none⟩ (.int .i64 t807)).setCell ⟨gb813, 7, none⟩ (.int .i64 t808)).setCell ⟨gb813, 8, none⟩ (.slice Ao41 t809.length co41)) = w44 at n0_ n1_ n2_ n3_ n4_ n5_ n6_ n7_ n8_ n9_ ⊢
      have HO_0 := n0_
      have HO_1 := n1_
      have HO_5 := n2_
      have HL786_8 := n3_
      have HO797 := n4_
      have HL800_8 := n5_
      have HO811 := n6_
      have BK799 := n7_
      have BK813 := n8_
      have HB := n9_
      clear n0_ n1_ n2_ n3_ n4_ n5_ n6_ n7_ n8_ n9_
      have n0_ := A0_ (V1_ HO_0.out)
      have n1_ := A0_ (V1_ HO_1.out)
      have n2_ := A0_ (V1_ HO_5.out)
      have n3_ := A0_ (V1_ HL786_8.out)
      have n4_ := A0_ (V1_ HO797.out)
      have n5_ := A0_ (V1_ HL800_8.out)
      have n6_ := A0_ (V1_ HO811.out)
      have n7_ := A0_ (blk_drew BK799.out)
      have n8_ := A0_ (blk_drew BK813.out)
      have n9_ := A0_ (b1_ HB.out)
      clear HO_0
      clear HO_1
      clear HO_5
      clear HL786_8
      clear HO797
      clear HL800_8
      clear HO811
      clear BK799
      clear BK813
      clear HB
      have HO_0 := n0_
      have HO_1 := n1_
      have HO_5 := n2_
      have HL786_8 := n3_
      have HO797 := n4_
      have HL800_8 := n5_
      have HO811 := n6_
      have BK799 := n7_
      have BK813 := n8_
      have HB := n9_
      clear n0_ n1_ n2_ n3_ n4_ n5_ n6_ n7_ n8_ n9_
      have p814 : 0 ≤ (x8_2 : Int) := wd_
      have q814 : x8_2 < (l0.length : Int) := wd_
      obtain ⟨ad814, A814_8, c814_8, e814, hx814_0, hx814_1, hx814_2, hx814_3, hx814_4, hx814_5, hx814_6, hx814_7, hx814_8, hl814_8, hi814_8⟩ := at_T38 (Kd.V_reads' HO_0.out).2.2 x8_2 p814 q814
      obtain rfl : ad786 = ad814 := (by injection e814)
      obtain ⟨ce814, hce814, hMe814, hcc814⟩ := Kd.V_get HO_0.out z38 x8_2 p814 (by first | exact q814 | exact wd_ | (have e_ := (Kd.V_reads' HO_0.out).1; omega))
      obtain ⟨ua814_8, uc814_8, rfl, ul814_8, ge814_8⟩ := k38_openF hMe814
      have hv814_8 := hcc814 8 _ rfl
      rw [add_field _ _ 8 (by omega)] at hv814_8
      replace hv814_8 := Option.some.inj (hv814_8.symm.trans hx814_8)
      injection hv814_8 with hva_ hvn_ hvc_
      rw [hva_] at ge814_8
      rw [hvc_] at ul814_8
      have HL814_8 := A0_ (show Kd.V (Kd.int .u8) 5 _ w.heap.size _ _ ((rd_T38 l0 x8_2).f5) from Kd.V_mk ul814_8 ge814_8)
      clear hva_ hvn_ hvc_ ge814_8 ul814_8
      clear hcc814 hce814
      have HR814_8 := A0_ hi814_8
      have HC814_8 := A0_ hl814_8
      clear hi814_8 hl814_8
      replace p814 := eq_true p814
      replace q814 := eq_true q814
      refine start_ (n := 10) (S := fun w' => w'.cell? ⟨gb799, 0, none⟩ = some (.string t787) ∧ w'.cell? ⟨gb799, 1, none⟩ = some (.string t788) ∧ w'.cell? ⟨gb799, 2, none⟩ = some (.string t789) ∧ w'.cell? ⟨gb799, 3, none⟩ = some (.int .u8 t790) ∧ w'.cell? ⟨gb799, 4, none⟩ = some (.int .i64 t791) ∧ w'.cell? ⟨gb799, 5, none⟩ = some (.int .i64 t792) ∧ w'.cell? ⟨gb799, 6, none⟩ = some (.int .i64 t793) ∧ w'.cell? ⟨gb799, 7, none⟩ = some (.int .i64 t794) ∧ w'.cell? ⟨gb799, 8, none⟩ = some (.slice Ao34 t795.length co34) ∧ w'.cell? (ad786.add ((x8_2).toNat * 9)) = some (.string ((rd_T38 l0 x8_2).f0)) ∧ w'.cell? ⟨(ad786.add ((x8_2).toNat * 9)).block, (ad786.add ((x8_2).toNat * 9)).off + 1, none⟩ = some (.string ((rd_T38 l0 x8_2).f1)) ∧ w'.cell? ⟨(ad786.add ((x8_2).toNat * 9)).block, (ad786.add ((x8_2).toNat * 9)).off + 2, none⟩ = some (.string ((rd_T38 l0 x8_2).f2)) ∧ w'.cell? ⟨(ad786.add ((x8_2).toNat * 9)).block, (ad786.add ((x8_2).toNat * 9)).off + 3, none⟩ = some (.int .u8 ((rd_T38 l0 x8_2).f3)) ∧ w'.cell? ⟨(ad786.add ((x8_2).toNat * 9)).block, (ad786.add ((x8_2).toNat * 9)).off + 4, none⟩ = some (.int .i64 ((rd_T38 l0 x8_2).f4.f0)) ∧ w'.cell? ⟨(ad786.add ((x8_2).toNat * 9)).block, (ad786.add ((x8_2).toNat * 9)).off + 5, none⟩ = some (.int .i64 ((rd_T38 l0 x8_2).f4.f1)) ∧ w'.cell? ⟨(ad786.add ((x8_2).toNat * 9)).block, (ad786.add ((x8_2).toNat * 9)).off + 6, none⟩ = some (.int .i64 ((rd_T38 l0 x8_2).f4.f2)) ∧ w'.cell? ⟨(ad786.add ((x8_2).toNat * 9)).block, (ad786.add ((x8_2).toNat * 9)).off + 7, none⟩ = some (.int .i64 ((rd_T38 l0 x8_2).f4.f3)) ∧ w'.cell? ⟨(ad786.add ((x8_2).toNat * 9)).block, (ad786.add ((x8_2).toNat * 9)).off + 8, none⟩ = some (.slice A814_8 ((rd_T38 l0 x8_2).f5).length c814_8)) (ds := []) q12_0 (by kernel_rfl) rfl rfl ⟨(bc_ BK799.out 0).trans rfl, (bc_ BK799.out 1).trans rfl, (bc_ BK799.out 2).trans rfl, (bc_ BK799.out 3).trans rfl, (bc_ BK799.out 4).trans rfl, (bc_ BK799.out 5).trans rfl, (bc_ BK799.out 6).trans rfl, (bc_ BK799.out 7).trans rfl, (bc_ BK799.out 8).trans rfl, hx814_0, hx814_1, hx814_2, hx814_3, hx814_4, hx814_5, hx814_6, hx814_7, hx814_8⟩ (fun hHeld => ?_); refine with_tabW bindlelaw20_SubWhole.tab10 bindlelaw20_SubWhole.bits10 (fun HT_ HW_ => ?_)
      generalize w44.drew = w45 at HO_0 HO_1 HO_5 HL786_8 HO797 HL800_8 HO811 BK799 BK813 HB HL814_8 HR814_8 hx814_0 hx814_1 hx814_2 hx814_3 hx814_4 hx814_5 hx814_6 hx814_7 hx814_8 hHeld ⊢
      refine pur_ (i := 0) (N := some 62) q12_1 (any_of HT_.out (by kernel_rfl)) ?_
      refine pur_ (i := 1) (N := some 63) q12_2 (any_of HT_.out (by kernel_rfl)) ?_
      refine pur_ (i := 3) (N := some 65) q12_11 (any_of HT_.out (by kernel_rfl)) ?_
      refine pur_ (i := 4) (N := some 66) q12_12 (any_of HT_.out (by kernel_rfl)) ?_
      refine pur_ (i := 5) (N := some 67) q12_13 (any_of HT_.out (by kernel_rfl)) ?_
      refine take_ (i := 2) (N := some 64) (v := ?_) (a' := ?_) q12_6 rfl rfl (take_ofW HT_.out HW_.out (by kernel_rfl)) (fun _ _ _ h => h) (Or.inl ⟨by rfl, ?_⟩) hHeld ?_ ?_
      rotate_left
      ·rintro w' ⟨s0, s1, s2, s3, s4, s5, s6, s7, s8, s9, s10, s11, s12, s13, s14, s15, s16, s17⟩
       go_simp
       with_reducible rfl
      rotate_left
      ·simp only [Act.put, List.setIfInBounds_toArray, List.set_cons_zero, List.set_cons_succ, i64_w, i32_w]
       rfl
      refine take_ (i := 6) (N := some 68) (v := ?_) (a' := ?_) q12_7 rfl rfl (take_ofW HT_.out HW_.out (by kernel_rfl)) (fun _ _ _ h => h) (Or.inl ⟨by rfl, ?_⟩) hHeld ?_ ?_
      rotate_left
      ·rintro w' ⟨s0, s1, s2, s3, s4, s5, s6, s7, s8, s9, s10, s11, s12, s13, s14, s15, s16, s17⟩
       go_simp
       with_reducible rfl
      rotate_left
      ·simp only [Act.put, List.setIfInBounds_toArray, List.set_cons_zero, List.set_cons_succ, i64_w, i32_w]
       rfl
      refine one_ (i := 7) (N := some 69) q12_8 rfl rfl (one_of HT_.out (by kernel_rfl)) (by decide) (fun K hK => ?_)
      refine goes_ Tryd.func20 (by kernel_rfl) rfl #[.agg #[.string t787, .string t788, .string t789, .int .u8 t790, .int .i64 t791, .int .i64 t792, .int .i64 t793, .int .i64 t794, .slice Ao34 t795.length co34], .agg #[.string ((rd_T38 l0 x8_2).f0), .string ((rd_T38 l0 x8_2).f1), .string ((rd_T38 l0 x8_2).f2), .int .u8 ((rd_T38 l0 x8_2).f3), .int .i64 ((rd_T38 l0 x8_2).f4.f0), .int .i64 ((rd_T38 l0 x8_2).f4.f1), .int .i64 ((rd_T38 l0 x8_2).f4.f2), .int .i64 ((rd_T38 l0 x8_2).f4.f3), .slice A814_8 ((rd_T38 l0 x8_2).f5).length c814_8]] (by rfl) rfl rfl wm_ ?_
      with_reducible refine (bindleref08_Equal.calls t787 t788 t789 t790 t791 t792 t793 t794 _ _ t795 ((rd_T38 l0 x8_2).f0) ((rd_T38 l0 x8_2).f1) ((rd_T38 l0 x8_2).f2) ((rd_T38 l0 x8_2).f3) ((rd_T38 l0 x8_2).f4.f0) ((rd_T38 l0 x8_2).f4.f1) ((rd_T38 l0 x8_2).f4.f2) ((rd_T38 l0 x8_2).f4.f3) _ _ ((rd_T38 l0 x8_2).f5) t815 _ ?side1 ?side2 ?side3 ?side4 A43.out).mono ?_
      (case side1 => exact wc_ (Kd.V_reads' HO797.out).2.2)
      (case side2 => exact (Kd.V_reads' HO797.out).2.1)
      (case side3 => repeat (first | exact (by repeat (first | (with_reducible exact HR814_8.out) | (with_reducible refine Ca_ ?_ _) | (with_reducible refine CN_ ?_ _) | (with_reducible refine C1_ ?_) | exact HR814_8.out)) | (with_reducible refine Ca_ ?_ _) | (with_reducible refine CN_ ?_ _) | (with_reducible refine C1_ ?_)))
      (case side4 => exact HC814_8.out)
      rintro e w46 ⟨rfl, hb⟩
      have HS9_ := (hb.cell (World.block_lt_of_cell? _ _ (hHeld.2.2.2.2.2.2.2.2.2.1))).trans (hHeld.2.2.2.2.2.2.2.2.2.1)
      have HS10_ := (hb.cell (World.block_lt_of_cell? _ _ (hHeld.2.2.2.2.2.2.2.2.2.2.1))).trans (hHeld.2.2.2.2.2.2.2.2.2.2.1)
      have HS11_ := (hb.cell (World.block_lt_of_cell? _ _ (hHeld.2.2.2.2.2.2.2.2.2.2.2.1))).trans (hHeld.2.2.2.2.2.2.2.2.2.2.2.1)
      have HS12_ := (hb.cell (World.block_lt_of_cell? _ _ (hHeld.2.2.2.2.2.2.2.2.2.2.2.2.1))).trans (hHeld.2.2.2.2.2.2.2.2.2.2.2.2.1)
      have HS13_ := (hb.cell (World.block_lt_of_cell? _ _ (hHeld.2.2.2.2.2.2.2.2.2.2.2.2.2.1))).trans (hHeld.2.2.2.2.2.2.2.2.2.2.2.2.2.1)
      have HS14_ := (hb.cell (World.block_lt_of_cell? _ _ (hHeld.2.2.2.2.2.2.2.2.2.2.2.2.2.2.1))).trans (hHeld.2.2.2.2.2.2.2.2.2.2.2.2.2.2.1)
      have HS15_ := (hb.cell (World.block_lt_of_cell? _ _ (hHeld.2.2.2.2.2.2.2.2.2.2.2.2.2.2.2.1))).trans (hHeld.2.2.2.2.2.2.2.2.2.2.2.2.2.2.2.1)
      have HS16_ := (hb.cell (World.block_lt_of_cell? _ _ (hHeld.2.2.2.2.2.2.2.2.2.2.2.2.2.2.2.2.1))).trans (hHeld.2.2.2.2.2.2.2.2.2.2.2.2.2.2.2.2.1)
      have HS17_ := (hb.cell (World.block_lt_of_cell? _ _ (hHeld.2.2.2.2.2.2.2.2.2.2.2.2.2.2.2.2.2))).trans (hHeld.2.2.2.2.2.2.2.2.2.2.2.2.2.2.2.2.2)
      refine ⟨_, rfl, ?_⟩
      have n0_ := A0_ (Vb_ (wV_ HO_0.out) hb)
      have n1_ := A0_ (Vb_ (wV_ HO_1.out) hb)
      have n2_ := A0_ (Vb_ (wV_ HO_5.out) hb)
      have n3_ := A0_ (Vb_ (wV_ HL786_8.out) hb)
      have n4_ := A0_ (Vb_ (wV_ HO797.out) hb)
      have n5_ := A0_ (Vb_ (wV_ HL800_8.out) hb)
      have n6_ := A0_ (Vb_ (wV_ HO811.out) hb)
      have n7_ := A0_ (Vb_ (wV_ HL814_8.out) hb)
      have n8_ := A0_ (blk_below (g := gb799) (o := .cells #[.string t787, .string t788, .string t789, .int .u8 t790, .int .i64 t791, .int .i64 t792, .int .i64 t793, .int .i64 t794, .slice Ao34 t795.length co34] 38 (0, 0)) (wB_ BK799.out) hb)
      have n9_ := A0_ (blk_below (g := gb813) (o := .cells #[.string t801, .string t802, .string t803, .int .u8 t804, .int .i64 t805, .int .i64 t806, .int .i64 t807, .int .i64 t808, .slice Ao41 t809.length co41] 38 (0, 0)) (wB_ BK813.out) hb)
      (first | have n10_ := A0_ (Kd.C_below (by repeat (first | (with_reducible exact HR814_8.out) | (with_reducible refine Ca_ ?_ _) | (with_reducible refine CN_ ?_ _) | (with_reducible refine C1_ ?_) | exact HR814_8.out)) hb) | have n10_ : Aside0 True := ⟨trivial⟩)
      have n11_ := A0_ (below_step (wb2_ HB.out GE799.out GE813.out) hb)
      clear HO_0
      clear HO_1
      clear HO_5
      clear HL786_8
      clear HO797
      clear HL800_8
      clear HO811
      clear HL814_8
      clear BK799
      clear BK813
      clear HR814_8
      clear HB
      have HO_0 := n0_
      have HO_1 := n1_
      have HO_5 := n2_
      have HL786_8 := n3_
      have HO797 := n4_
      have HL800_8 := n5_
      have HO811 := n6_
      have HL814_8 := n7_
      have BK799 := n8_
      have BK813 := n9_
      have HR814_8 := n10_
      have HB := n11_
      clear n0_ n1_ n2_ n3_ n4_ n5_ n6_ n7_ n8_ n9_ n10_ n11_
      (try clear hb)
      (try clear hb2)
      (try clear hk)
      (try clear hi)
      refine hK.out _ _ ⟨(bc_ BK799.out 0).trans rfl, (bc_ BK799.out 1).trans rfl, (bc_ BK799.out 2).trans rfl, (bc_ BK799.out 3).trans rfl, (bc_ BK799.out 4).trans rfl, (bc_ BK799.out 5).trans rfl, (bc_ BK799.out 6).trans rfl, (bc_ BK799.out 7).trans rfl, (bc_ BK799.out 8).trans rfl, HS9_, HS10_, HS11_, HS12_, HS13_, HS14_, HS15_, HS16_, HS17_⟩ (fun hHeld => ?_)
      clear hK K
      refine norm_ (a' := ?_) ?_ ?_
      rotate_left
      ·show Act.put _ (some 69) _ = _
       simp only [Act.put, List.setIfInBounds_toArray, List.set_cons_zero, List.set_cons_succ, i64_w, i32_w]
       rfl
      refine pur_ (i := 8) (N := some 70) q12_9 (any_of HT_.out (by kernel_rfl)) ?_
      refine pur_ (i := 9) (N := some 13) q12_10 (any_of HT_.out (by kernel_rfl)) ?_
      refine done_ (done_of HT_.out (by kernel_rfl)) ?_
      try go_wp2
      go_meet
      case rel => exact ⟨_, (t815), wr_, H', ⟨by have := HJ2.out; have := HK2.out; first | omega | exact Nat.le_refl _⟩, ⟨wV_ HO_0.out⟩, ⟨wV_ HO_1.out⟩, ⟨wV_ HO_5.out⟩, ⟨wV_ HO797.out⟩, ⟨wV_ HO811.out⟩, ⟨wB_ BK799.out⟩, ⟨wB_ BK813.out⟩, ⟨wb2_ HB.out GE799.out GE813.out⟩⟩
     case rest =>
      clear HC30
      try clear c1
      try clear c2
      try clear p2
      try clear c3
      try clear c4
      try clear c5
      try clear c7
      try clear p7
      try clear q7
      try clear hx7
      try clear c8
      try clear p8
      try clear q8
      try clear hx8
      try clear c12
      try clear c19
      try clear c20
      try clear c21
      try clear c26
      try clear c26b0
      try clear c27
      try clear c27b0
      try clear c34
      try clear c35
      try clear c38
      try clear c39
      try clear c42
      try clear hcz33_0
      try clear hcz33_1
      try clear hcz33_2
      try clear hcz33_3
      try clear hcz33_4
      try clear hcz33_5
      try clear hcz33_6
      try clear hcz33_7
      try clear hcz33_8
      try clear hcz40_0
      try clear hcz40_1
      try clear hcz40_2
      try clear hcz40_3
      try clear hcz40_4
      try clear hcz40_5
      try clear hcz40_6
      try clear hcz40_7
      try clear hcz40_8
      try clear hfz33_0
      try clear hfz33_1
      try clear hfz33_2
      try clear hfz33_3
      try clear hfz33_4
      try clear hfz33_5
      try clear hfz33_6
      try clear hfz33_7
      try clear hfz33_8
      try clear hfz40_0
      try clear hfz40_1
      try clear hfz40_2
      try clear hfz40_3
      try clear hfz40_4
      try clear hfz40_5
      try clear hfz40_6
      try clear hfz40_7
      try clear hfz40_8
      try clear hx786_0
      try clear hx786_1
      try clear hx786_2
      try clear hx786_3
      try clear hx786_4
      try clear hx786_5
      try clear hx786_6
      try clear hx786_7
      try clear hx786_8
      try clear hx800_0
      try clear hx800_1
      try clear hx800_2
      try clear hx800_3
      try clear hx800_4
      try clear hx800_5
      try clear hx800_6
      try clear hx800_7
      try clear hx800_8
      try clear hx814_0
      try clear hx814_1
      try clear hx814_2
      try clear hx814_3
      try clear hx814_4
      try clear hx814_5
      try clear hx814_6
      try clear hx814_7
      try clear hx814_8
      try clear p2
      try clear p786
      try clear p800
      try clear p814
      try clear q786
      try clear q800
      try clear q814
      obtain ⟨kq, x13_29, rfl, HA, HJ29, HO_0, HO_1, HO_5, HO_800008, HO_814008, BK799, BK813, HB⟩ := hcut
      cases kq with
      | zero => exact absurd HA.out (by simp [bindlelaw20_SubWhole.j2])
      | succ kj29 =>
       have H := HA.out
       clear HA
       simp only [bindlelaw20_SubWhole.j2] at H
       have HC49 := A0_ H
       clear H
       go_upto_region 11 with (fail)
       go_cut [85] (fun v85 wc => ∃ (kq : Nat) (x85_48 : Bool), v85 = .bool x85_48 ∧ Aside0 (bindlelaw20_SubWhole.j3 kq l0 l1 t781 t784 x7_2 x8_2 t812 x85_48 = some r) ∧ Aside0 (kq ≤ kj29) ∧ Aside0 (Kd.V k38 38 wc w.heap.size (fun k_ => ((P0_ k_ ∨ P1_ k_) ∨ w.heap.size ≤ k_) ∧ k_ ≠ gb799 ∧ k_ ≠ gb813) (.slice (some ad786) l0.length c0) l0) ∧ Aside0 (Kd.V k38 38 wc w.heap.size (fun k_ => ((P0_ k_ ∨ P1_ k_) ∨ w.heap.size ≤ k_) ∧ k_ ≠ gb799 ∧ k_ ≠ gb813) (.slice A1 l1.length c1) l1) ∧ Aside0 (Kd.V k38 38 wc w.heap.size (fun k_ => ((P0_ k_ ∨ P1_ k_) ∨ w.heap.size ≤ k_) ∧ k_ ≠ gb799 ∧ k_ ≠ gb813) (.slice Ao36 t781.length co36) t781) ∧ Aside0 (Kd.V (Kd.int .u8) 5 wc w.heap.size (fun k_ => ((P0_ k_ ∨ P1_ k_) ∨ w.heap.size ≤ k_) ∧ k_ ≠ gb799 ∧ k_ ≠ gb813) (.slice Ao34 t795.length co34) t795) ∧ Aside0 (Kd.V (Kd.int .u8) 5 wc w.heap.size (fun k_ => ((P0_ k_ ∨ P1_ k_) ∨ w.heap.size ≤ k_) ∧ k_ ≠ gb799 ∧ k_ ≠ gb813) (.slice Ao41 t809.length co41) t809) ∧ Aside0 (wc.heap[gb799]? = some (.cells #[.string t787, .string t788, .string t789, .int .u8 t790, .int .i64 t791, .int .i64 t792, .int .i64 t793, .int .i64 t794, (.slice Ao34 t795.length co34)] 38 (0, 0))) ∧ Aside0 (wc.heap[gb813]? = some (.cells #[.string t801, .string t802, .string t803, .int .u8 t804, .int .i64 t805, .int .i64 t806, .int .i64 t807, .int .i64 t808, (.slice Ao41 t809.length co41)] 38 (0, 0))) ∧ Aside0 (Below w.heap.size w wc))
       case first =>
        have H := HC49.out
        clear HC49
        by_cases c50 : (x13_29 == t812) = true
        ·rw [if_pos c50] at H
         have c50b0 : (x13_29 == t812) = true := c50
         (try (have c50b1 : decide (x13_29 = t812) = true := by simpa using c50))
         (try (have c50b2 : (x13_29 == t812) = true := by simpa using c50))
         clear c50
         (first | rw [c50b0] | (simp only [i64_w, i32_w]; rw [c50b0]) | skip)
         have H' := A0_ H
         clear H
         try go_wp2
         have n0_ := A0_ (V1_ HO_0.out)
         have n1_ := A0_ (V1_ HO_1.out)
         have n2_ := A0_ (V1_ HO_5.out)
         have n3_ := A0_ (V1_ HO_800008.out)
         have n4_ := A0_ (V1_ HO_814008.out)
         have n5_ := A0_ (blk_drew BK799.out)
         have n6_ := A0_ (blk_drew BK813.out)
         have n7_ := A0_ (b1_ HB.out)
         clear HO_0
         clear HO_1
         clear HO_5
         clear HO_800008
         clear HO_814008
         clear BK799
         clear BK813
         clear HB
         have HO_0 := n0_
         have HO_1 := n1_
         have HO_5 := n2_
         have HO_800008 := n3_
         have HO_814008 := n4_
         have BK799 := n5_
         have BK813 := n6_
         have HB := n7_
         clear n0_ n1_ n2_ n3_ n4_ n5_ n6_ n7_
         refine start_ (n := 15) (S := fun w' => True) (ds := []) q12_14 (by kernel_rfl) rfl rfl trivial (fun hHeld => ?_); refine with_tabW bindlelaw20_SubWhole.tab11 bindlelaw20_SubWhole.bits11 (fun HT_ HW_ => ?_)
         generalize wc.drew = w51 at HO_0 HO_1 HO_5 HO_800008 HO_814008 BK799 BK813 HB hHeld ⊢
         refine pur_ (i := 0) (N := some 71) q12_15 (any_of HT_.out (by kernel_rfl)) ?_
         refine pur_ (i := 1) (N := some 72) q12_16 (any_of HT_.out (by kernel_rfl)) ?_
         refine pur_ (i := 2) (N := some 73) q12_17 (any_of HT_.out (by kernel_rfl)) ?_
         refine pur_ (i := 3) (N := some 74) q12_18 (any_of HT_.out (by kernel_rfl)) ?_
         refine puu_ (i := 4) (N := some 75) q12_19 (any_of HT_.out (by kernel_rfl)) ?_
         refine puu_ (i := 5) (N := some 76) q12_20 (any_of HT_.out (by kernel_rfl)) ?_
         refine puu_ (i := 6) (N := some 77) q12_21 (any_of HT_.out (by kernel_rfl)) ?_
         refine puu_ (i := 7) (N := some 78) q12_22 (any_of HT_.out (by kernel_rfl)) ?_
         refine puu_ (i := 8) (N := some 79) q12_23 (any_of HT_.out (by kernel_rfl)) ?_
         refine puu_ (i := 9) (N := some 80) q12_24 (any_of HT_.out (by kernel_rfl)) ?_
         refine puu_ (i := 10) (N := some 81) q12_25 (any_of HT_.out (by kernel_rfl)) ?_
         refine puu_ (i := 11) (N := some 82) q12_26 (any_of HT_.out (by kernel_rfl)) ?_
         refine puu_ (i := 12) (N := some 83) q12_27 (any_of HT_.out (by kernel_rfl)) ?_
         refine puu_ (i := 13) (N := some 84) q12_28 (any_of HT_.out (by kernel_rfl)) ?_
         refine pur_ (i := 14) (N := some 85) q12_29 (any_of HT_.out (by kernel_rfl)) ?_
         refine done_ (done_of HT_.out (by kernel_rfl)) ?_
         try go_wp2
         go_meet
         case rel => exact ⟨_, (true), wr_, H', ⟨by have := HJ2.out; have := HK2.out; have := HJ29.out; first | omega | exact Nat.le_refl _⟩, ⟨wV_ HO_0.out⟩, ⟨wV_ HO_1.out⟩, ⟨wV_ HO_5.out⟩, ⟨wV_ HO_800008.out⟩, ⟨wV_ HO_814008.out⟩, ⟨wB_ BK799.out⟩, ⟨wB_ BK813.out⟩, ⟨wb2_ HB.out GE799.out GE813.out⟩⟩
        rw [if_neg c50] at H
        have c50b0 : (x13_29 == t812) = false := by simpa using c50
        (try (have c50b1 : decide (x13_29 = t812) = false := by simpa using c50))
        (try (have c50b2 : (x13_29 == t812) = false := by simpa using c50))
        (try (have c50b3 : ¬ (x13_29 = t812) := by simpa using c50))
        clear c50
        (first | rw [c50b0] | (simp only [i64_w, i32_w]; rw [c50b0]) | skip)
        by_cases c52 : t812 = true
        rotate_left
        ·replace c52 := Bool.eq_false_iff.mpr c52
         subst c52
         have H1 : (bindlelaw20_SubWhole.j3 kj29 l0 l1 t781 t784 x7_2 x8_2 false false) = some r := by rw [if_neg (show ¬ (false = true) by decide)] at H; exact H
         clear H
         have H := H1
         clear H1
         have H' := A0_ H
         clear H
         (first | (have hx_ : x13_29 = true := (by have h_ := c50b0; revert h_; generalize x13_29 = q_; revert q_; decide); subst hx_) | (have hx_ : x13_29 = false := (by have h_ := c50b0; revert h_; generalize x13_29 = q_; revert q_; decide); subst hx_) | skip)
         try go_wp2
         have n0_ := A0_ (V1_ HO_0.out)
         have n1_ := A0_ (V1_ HO_1.out)
         have n2_ := A0_ (V1_ HO_5.out)
         have n3_ := A0_ (V1_ HO_800008.out)
         have n4_ := A0_ (V1_ HO_814008.out)
         have n5_ := A0_ (blk_drew BK799.out)
         have n6_ := A0_ (blk_drew BK813.out)
         have n7_ := A0_ (b1_ HB.out)
         clear HO_0
         clear HO_1
         clear HO_5
         clear HO_800008
         clear HO_814008
         clear BK799
         clear BK813
         clear HB
         have HO_0 := n0_
         have HO_1 := n1_
         have HO_5 := n2_
         have HO_800008 := n3_
         have HO_814008 := n4_
         have BK799 := n5_
         have BK813 := n6_
         have HB := n7_
         clear n0_ n1_ n2_ n3_ n4_ n5_ n6_ n7_
         refine start_ (n := 15) (S := fun w' => True) (ds := []) q12_14 (by kernel_rfl) rfl rfl trivial (fun hHeld => ?_); refine with_tabW bindlelaw20_SubWhole.tab11 bindlelaw20_SubWhole.bits11 (fun HT_ HW_ => ?_)
         generalize wc.drew = w58 at HO_0 HO_1 HO_5 HO_800008 HO_814008 BK799 BK813 HB hHeld ⊢
         refine pur_ (i := 0) (N := some 71) q12_15 (any_of HT_.out (by kernel_rfl)) ?_
         refine pur_ (i := 1) (N := some 72) q12_16 (any_of HT_.out (by kernel_rfl)) ?_
         refine pur_ (i := 2) (N := some 73) q12_17 (any_of HT_.out (by kernel_rfl)) ?_
         refine pur_ (i := 3) (N := some 74) q12_18 (any_of HT_.out (by kernel_rfl)) ?_
         refine pur_ (i := 4) (N := some 75) q12_19 (any_of HT_.out (by kernel_rfl)) ?_
         refine pur_ (i := 5) (N := some 76) q12_20 (any_of HT_.out (by kernel_rfl)) ?_
         refine puu_ (i := 6) (N := some 77) q12_21 (any_of HT_.out (by kernel_rfl)) ?_
         refine puu_ (i := 7) (N := some 78) q12_22 (any_of HT_.out (by kernel_rfl)) ?_
         refine puu_ (i := 8) (N := some 79) q12_23 (any_of HT_.out (by kernel_rfl)) ?_
         refine puu_ (i := 9) (N := some 80) q12_24 (any_of HT_.out (by kernel_rfl)) ?_
         refine puu_ (i := 10) (N := some 81) q12_25 (any_of HT_.out (by kernel_rfl)) ?_
         refine puu_ (i := 11) (N := some 82) q12_26 (any_of HT_.out (by kernel_rfl)) ?_
         refine puu_ (i := 12) (N := some 83) q12_27 (any_of HT_.out (by kernel_rfl)) ?_
         refine pur_ (i := 13) (N := some 84) q12_28 (any_of HT_.out (by kernel_rfl)) ?_
         refine pur_ (i := 14) (N := some 85) q12_29 (any_of HT_.out (by kernel_rfl)) ?_
         refine done_ (done_of HT_.out (by kernel_rfl)) ?_
         (first | (have hx_ : x13_29 = true := (by have h_ := c50b0; revert h_; generalize x13_29 = q_; revert q_; decide); subst hx_) | (have hx_ : x13_29 = false := (by have h_ := c50b0; revert h_; generalize x13_29 = q_; revert q_; decide); subst hx_) | skip)
         try go_wp2
         go_meet
         case rel => exact ⟨_, (false), wr_, H', ⟨by have := HJ2.out; have := HK2.out; have := HJ29.out; first | omega | exact Nat.le_refl _⟩, ⟨wV_ HO_0.out⟩, ⟨wV_ HO_1.out⟩, ⟨wV_ HO_5.out⟩, ⟨wV_ HO_800008.out⟩, ⟨wV_ HO_814008.out⟩, ⟨wB_ BK799.out⟩, ⟨wB_ BK813.out⟩, ⟨wb2_ HB.out GE799.out GE813.out⟩⟩
        subst c52
        have H1 : (if 0 ≤ x8_2 then (if x8_2 < (l0.length : Int) then ((bindleref08_Equal.f t801 t802 t803 t804 t805 t806 t807 t808 t809 ((rd_T38 l0 x8_2).f0) ((rd_T38 l0 x8_2).f1) ((rd_T38 l0 x8_2).f2) ((rd_T38 l0 x8_2).f3) ((rd_T38 l0 x8_2).f4.f0) ((rd_T38 l0 x8_2).f4.f1) ((rd_T38 l0 x8_2).f4.f2) ((rd_T38 l0 x8_2).f4.f3) ((rd_T38 l0 x8_2).f5)).bind fun t817 => (bindlelaw20_SubWhole.j3 kj29 l0 l1 t781 t784 x7_2 x8_2 true (!t817))) else (none)) else (none)) = some r := by rw [if_pos rfl] at H; exact H
        clear H
        have H := H1
        clear H1
        by_cases c53 : 0 ≤ x8_2
        rotate_left
        ·rw [if_neg c53] at H
         exact absurd H (by simp)
        rw [if_pos c53] at H
        have c53b0 : decide (0 ≤ x8_2) = true := decide_eq_true c53
        clear c53
        by_cases c54 : x8_2 < (l0.length : Int)
        rotate_left
        ·rw [if_neg c54] at H
         exact absurd H (by simp)
        rw [if_pos c54] at H
        have c54b0 : decide (x8_2 < (l0.length : Int)) = true := decide_eq_true c54
        clear c54
        replace H := Option.bind_eq_some_iff.mp H
        obtain ⟨t817, A550, H⟩ := H
        replace H : (bindlelaw20_SubWhole.j3 kj29 l0 l1 t781 t784 x7_2 x8_2 true (!t817)) = some r := H
        have A55 := A0_ A550
        clear A550
        have H' := A0_ H
        clear H
        (first | (have hx_ : x13_29 = true := (by have h_ := c50b0; revert h_; generalize x13_29 = q_; revert q_; decide); subst hx_) | (have hx_ : x13_29 = false := (by have h_ := c50b0; revert h_; generalize x13_29 = q_; revert q_; decide); subst hx_) | skip)
        try go_wp2
        have n0_ := A0_ (V1_ HO_0.out)
        have n1_ := A0_ (V1_ HO_1.out)
        have n2_ := A0_ (V1_ HO_5.out)
        have n3_ := A0_ (V1_ HO_800008.out)
        have n4_ := A0_ (V1_ HO_814008.out)
        have n5_ := A0_ (blk_drew BK799.out)
        have n6_ := A0_ (blk_drew BK813.out)
        have n7_ := A0_ (b1_ HB.out)
        clear HO_0
        clear HO_1
        clear HO_5
        clear HO_800008
        clear HO_814008
        clear BK799
        clear BK813
        clear HB
        have HO_0 := n0_
        have HO_1 := n1_
        have HO_5 := n2_
        have HO_800008 := n3_
        have HO_814008 := n4_
        have BK799 := n5_
        have BK813 := n6_
        have HB := n7_
        clear n0_ n1_ n2_ n3_ n4_ n5_ n6_ n7_
        have p816 : 0 ≤ (x8_2 : Int) := wd_
        have q816 : x8_2 < (l0.length : Int) := wd_
        obtain ⟨ad816, A816_8, c816_8, e816, hx816_0, hx816_1, hx816_2, hx816_3, hx816_4, hx816_5, hx816_6, hx816_7, hx816_8, hl816_8, hi816_8⟩ := at_T38 (Kd.V_reads' HO_0.out).2.2 x8_2 p816 q816
        obtain rfl : ad786 = ad816 := (by injection e816)
        obtain ⟨ce816, hce816, hMe816, hcc816⟩ := Kd.V_get HO_0.out z38 x8_2 p816 (by first | exact q816 | exact wd_ | (have e_ := (Kd.V_reads' HO_0.out).1; omega))
        obtain ⟨ua816_8, uc816_8, rfl, ul816_8, ge816_8⟩ := k38_openF hMe816
        have hv816_8 := hcc816 8 _ rfl
        rw [add_field _ _ 8 (by omega)] at hv816_8
        replace hv816_8 := Option.some.inj (hv816_8.symm.trans hx816_8)
        injection hv816_8 with hva_ hvn_ hvc_
        rw [hva_] at ge816_8
        rw [hvc_] at ul816_8
        have HL816_8 := A0_ (show Kd.V (Kd.int .u8) 5 _ w.heap.size _ _ ((rd_T38 l0 x8_2).f5) from Kd.V_mk ul816_8 ge816_8)
        clear hva_ hvn_ hvc_ ge816_8 ul816_8
        clear hcc816 hce816
        have HR816_8 := A0_ hi816_8
        have HC816_8 := A0_ hl816_8
        clear hi816_8 hl816_8
        replace p816 := eq_true p816
        replace q816 := eq_true q816
        refine start_ (n := 15) (S := fun w' => w'.cell? ⟨gb813, 0, none⟩ = some (.string t801) ∧ w'.cell? ⟨gb813, 1, none⟩ = some (.string t802) ∧ w'.cell? ⟨gb813, 2, none⟩ = some (.string t803) ∧ w'.cell? ⟨gb813, 3, none⟩ = some (.int .u8 t804) ∧ w'.cell? ⟨gb813, 4, none⟩ = some (.int .i64 t805) ∧ w'.cell? ⟨gb813, 5, none⟩ = some (.int .i64 t806) ∧ w'.cell? ⟨gb813, 6, none⟩ = some (.int .i64 t807) ∧ w'.cell? ⟨gb813, 7, none⟩ = some (.int .i64 t808) ∧ w'.cell? ⟨gb813, 8, none⟩ = some (.slice Ao41 t809.length co41) ∧ w'.cell? (ad786.add ((x8_2).toNat * 9)) = some (.string ((rd_T38 l0 x8_2).f0)) ∧ w'.cell? ⟨(ad786.add ((x8_2).toNat * 9)).block, (ad786.add ((x8_2).toNat * 9)).off + 1, none⟩ = some (.string ((rd_T38 l0 x8_2).f1)) ∧ w'.cell? ⟨(ad786.add ((x8_2).toNat * 9)).block, (ad786.add ((x8_2).toNat * 9)).off + 2, none⟩ = some (.string ((rd_T38 l0 x8_2).f2)) ∧ w'.cell? ⟨(ad786.add ((x8_2).toNat * 9)).block, (ad786.add ((x8_2).toNat * 9)).off + 3, none⟩ = some (.int .u8 ((rd_T38 l0 x8_2).f3)) ∧ w'.cell? ⟨(ad786.add ((x8_2).toNat * 9)).block, (ad786.add ((x8_2).toNat * 9)).off + 4, none⟩ = some (.int .i64 ((rd_T38 l0 x8_2).f4.f0)) ∧ w'.cell? ⟨(ad786.add ((x8_2).toNat * 9)).block, (ad786.add ((x8_2).toNat * 9)).off + 5, none⟩ = some (.int .i64 ((rd_T38 l0 x8_2).f4.f1)) ∧ w'.cell? ⟨(ad786.add ((x8_2).toNat * 9)).block, (ad786.add ((x8_2).toNat * 9)).off + 6, none⟩ = some (.int .i64 ((rd_T38 l0 x8_2).f4.f2)) ∧ w'.cell? ⟨(ad786.add ((x8_2).toNat * 9)).block, (ad786.add ((x8_2).toNat * 9)).off + 7, none⟩ = some (.int .i64 ((rd_T38 l0 x8_2).f4.f3)) ∧ w'.cell? ⟨(ad786.add ((x8_2).toNat * 9)).block, (ad786.add ((x8_2).toNat * 9)).off + 8, none⟩ = some (.slice A816_8 ((rd_T38 l0 x8_2).f5).length c816_8)) (ds := []) q12_14 (by kernel_rfl) rfl rfl ⟨(bc_ BK813.out 0).trans rfl, (bc_ BK813.out 1).trans rfl, (bc_ BK813.out 2).trans rfl, (bc_ BK813.out 3).trans rfl, (bc_ BK813.out 4).trans rfl, (bc_ BK813.out 5).trans rfl, (bc_ BK813.out 6).trans rfl, (bc_ BK813.out 7).trans rfl, (bc_ BK813.out 8).trans rfl, hx816_0, hx816_1, hx816_2, hx816_3, hx816_4, hx816_5, hx816_6, hx816_7, hx816_8⟩ (fun hHeld => ?_); refine with_tabW bindlelaw20_SubWhole.tab11 bindlelaw20_SubWhole.bits11 (fun HT_ HW_ => ?_)
        generalize wc.drew = w56 at HO_0 HO_1 HO_5 HO_800008 HO_814008 BK799 BK813 HB HL816_8 HR816_8 hx816_0 hx816_1 hx816_2 hx816_3 hx816_4 hx816_5 hx816_6 hx816_7 hx816_8 hHeld ⊢
        refine pur_ (i := 0) (N := some 71) q12_15 (any_of HT_.out (by kernel_rfl)) ?_
        refine pur_ (i := 1) (N := some 72) q12_16 (any_of HT_.out (by kernel_rfl)) ?_
        refine pur_ (i := 2) (N := some 73) q12_17 (any_of HT_.out (by kernel_rfl)) ?_
        refine pur_ (i := 3) (N := some 74) q12_18 (any_of HT_.out (by kernel_rfl)) ?_
        refine pur_ (i := 4) (N := some 75) q12_19 (any_of HT_.out (by kernel_rfl)) ?_
        refine pur_ (i := 5) (N := some 76) q12_20 (any_of HT_.out (by kernel_rfl)) ?_
        refine pur_ (i := 7) (N := some 78) q12_30 (any_of HT_.out (by kernel_rfl)) ?_
        refine pur_ (i := 8) (N := some 79) q12_31 (any_of HT_.out (by kernel_rfl)) ?_
        refine pur_ (i := 9) (N := some 80) q12_32 (any_of HT_.out (by kernel_rfl)) ?_
        refine take_ (i := 6) (N := some 77) (v := ?_) (a' := ?_) q12_24 rfl rfl (take_ofW HT_.out HW_.out (by kernel_rfl)) (fun _ _ _ h => h) (Or.inl ⟨by rfl, ?_⟩) hHeld ?_ ?_
        rotate_left
        ·rintro w' ⟨s0, s1, s2, s3, s4, s5, s6, s7, s8, s9, s10, s11, s12, s13, s14, s15, s16, s17⟩
         go_simp
         with_reducible rfl
        rotate_left
        ·simp only [Act.put, List.setIfInBounds_toArray, List.set_cons_zero, List.set_cons_succ, i64_w, i32_w]
         rfl
        refine take_ (i := 10) (N := some 81) (v := ?_) (a' := ?_) q12_25 rfl rfl (take_ofW HT_.out HW_.out (by kernel_rfl)) (fun _ _ _ h => h) (Or.inl ⟨by rfl, ?_⟩) hHeld ?_ ?_
        rotate_left
        ·rintro w' ⟨s0, s1, s2, s3, s4, s5, s6, s7, s8, s9, s10, s11, s12, s13, s14, s15, s16, s17⟩
         go_simp
         with_reducible rfl
        rotate_left
        ·simp only [Act.put, List.setIfInBounds_toArray, List.set_cons_zero, List.set_cons_succ, i64_w, i32_w]
         rfl
        refine one_ (i := 11) (N := some 82) q12_26 rfl rfl (one_of HT_.out (by kernel_rfl)) (by decide) (fun K hK => ?_)
        refine goes_ Tryd.func20 (by kernel_rfl) rfl #[.agg #[.string t801, .string t802, .string t803, .int .u8 t804, .int .i64 t805, .int .i64 t806, .int .i64 t807, .int .i64 t808, .slice Ao41 t809.length co41], .agg #[.string ((rd_T38 l0 x8_2).f0), .string ((rd_T38 l0 x8_2).f1), .string ((rd_T38 l0 x8_2).f2), .int .u8 ((rd_T38 l0 x8_2).f3), .int .i64 ((rd_T38 l0 x8_2).f4.f0), .int .i64 ((rd_T38 l0 x8_2).f4.f1), .int .i64 ((rd_T38 l0 x8_2).f4.f2), .int .i64 ((rd_T38 l0 x8_2).f4.f3), .slice A816_8 ((rd_T38 l0 x8_2).f5).length c816_8]] (by rfl) rfl rfl wm_ ?_
        with_reducible refine (bindleref08_Equal.calls t801 t802 t803 t804 t805 t806 t807 t808 _ _ t809 ((rd_T38 l0 x8_2).f0) ((rd_T38 l0 x8_2).f1) ((rd_T38 l0 x8_2).f2) ((rd_T38 l0 x8_2).f3) ((rd_T38 l0 x8_2).f4.f0) ((rd_T38 l0 x8_2).f4.f1) ((rd_T38 l0 x8_2).f4.f2) ((rd_T38 l0 x8_2).f4.f3) _ _ ((rd_T38 l0 x8_2).f5) t817 _ ?side1 ?side2 ?side3 ?side4 A55.out).mono ?_
        (case side1 => exact wc_ (Kd.V_reads' HO_814008.out).2.2)
        (case side2 => exact (Kd.V_reads' HO_814008.out).2.1)
        (case side3 => repeat (first | exact (by repeat (first | (with_reducible exact HR816_8.out) | (with_reducible refine Ca_ ?_ _) | (with_reducible refine CN_ ?_ _) | (with_reducible refine C1_ ?_) | exact HR816_8.out)) | (with_reducible refine Ca_ ?_ _) | (with_reducible refine CN_ ?_ _) | (with_reducible refine C1_ ?_)))
        (case side4 => exact HC816_8.out)
        rintro e w57 ⟨rfl, hb⟩
        have HS9_ := (hb.cell (World.block_lt_of_cell? _ _ (hHeld.2.2.2.2.2.2.2.2.2.1))).trans (hHeld.2.2.2.2.2.2.2.2.2.1)
        have HS10_ := (hb.cell (World.block_lt_of_cell? _ _ (hHeld.2.2.2.2.2.2.2.2.2.2.1))).trans (hHeld.2.2.2.2.2.2.2.2.2.2.1)
        have HS11_ := (hb.cell (World.block_lt_of_cell? _ _ (hHeld.2.2.2.2.2.2.2.2.2.2.2.1))).trans (hHeld.2.2.2.2.2.2.2.2.2.2.2.1)
        have HS12_ := (hb.cell (World.block_lt_of_cell? _ _ (hHeld.2.2.2.2.2.2.2.2.2.2.2.2.1))).trans (hHeld.2.2.2.2.2.2.2.2.2.2.2.2.1)
        have HS13_ := (hb.cell (World.block_lt_of_cell? _ _ (hHeld.2.2.2.2.2.2.2.2.2.2.2.2.2.1))).trans (hHeld.2.2.2.2.2.2.2.2.2.2.2.2.2.1)
        have HS14_ := (hb.cell (World.block_lt_of_cell? _ _ (hHeld.2.2.2.2.2.2.2.2.2.2.2.2.2.2.1))).trans (hHeld.2.2.2.2.2.2.2.2.2.2.2.2.2.2.1)
        have HS15_ := (hb.cell (World.block_lt_of_cell? _ _ (hHeld.2.2.2.2.2.2.2.2.2.2.2.2.2.2.2.1))).trans (hHeld.2.2.2.2.2.2.2.2.2.2.2.2.2.2.2.1)
        have HS16_ := (hb.cell (World.block_lt_of_cell? _ _ (hHeld.2.2.2.2.2.2.2.2.2.2.2.2.2.2.2.2.1))).trans (hHeld.2.2.2.2.2.2.2.2.2.2.2.2.2.2.2.2.1)
        have HS17_ := (hb.cell (World.block_lt_of_cell? _ _ (hHeld.2.2.2.2.2.2.2.2.2.2.2.2.2.2.2.2.2))).trans (hHeld.2.2.2.2.2.2.2.2.2.2.2.2.2.2.2.2.2)
        refine ⟨_, rfl, ?_⟩
        have n0_ := A0_ (Vb_ (wV_ HO_0.out) hb)
        have n1_ := A0_ (Vb_ (wV_ HO_1.out) hb)
        have n2_ := A0_ (Vb_ (wV_ HO_5.out) hb)
        have n3_ := A0_ (Vb_ (wV_ HO_800008.out) hb)
        have n4_ := A0_ (Vb_ (wV_ HO_814008.out) hb)
        have n5_ := A0_ (Vb_ (wV_ HL816_8.out) hb)
        have n6_ := A0_ (blk_below (g := gb799) (o := .cells #[.string t787, .string t788, .string t789, .int .u8 t790, .int .i64 t791, .int .i64 t792, .int .i64 t793, .int .i64 t794, .slice Ao34 t795.length co34] 38 (0, 0)) (wB_ BK799.out) hb)
        have n7_ := A0_ (blk_below (g := gb813) (o := .cells #[.string t801, .string t802, .string t803, .int .u8 t804, .int .i64 t805, .int .i64 t806, .int .i64 t807, .int .i64 t808, .slice Ao41 t809.length co41] 38 (0, 0)) (wB_ BK813.out) hb)
        (first | have n8_ := A0_ (Kd.C_below (by repeat (first | (with_reducible exact HR816_8.out) | (with_reducible refine Ca_ ?_ _) | (with_reducible refine CN_ ?_ _) | (with_reducible refine C1_ ?_) | exact HR816_8.out)) hb) | have n8_ : Aside0 True := ⟨trivial⟩)
        have n9_ := A0_ (below_step (wb2_ HB.out GE799.out GE813.out) hb)
        clear HO_0
        clear HO_1
        clear HO_5
        clear HO_800008
        clear HO_814008
        clear HL816_8
        clear BK799
        clear BK813
        clear HR816_8
        clear HB
        have HO_0 := n0_
        have HO_1 := n1_
        have HO_5 := n2_
        have HO_800008 := n3_
        have HO_814008 := n4_
        have HL816_8 := n5_
        have BK799 := n6_
        have BK813 := n7_
        have HR816_8 := n8_
        have HB := n9_
        clear n0_ n1_ n2_ n3_ n4_ n5_ n6_ n7_ n8_ n9_
        (try clear hb)
        (try clear hb2)
        (try clear hk)
        (try clear hi)
        refine hK.out _ _ ⟨(bc_ BK813.out 0).trans rfl, (bc_ BK813.out 1).trans rfl, (bc_ BK813.out 2).trans rfl, (bc_ BK813.out 3).trans rfl, (bc_ BK813.out 4).trans rfl, (bc_ BK813.out 5).trans rfl, (bc_ BK813.out 6).trans rfl, (bc_ BK813.out 7).trans rfl, (bc_ BK813.out 8).trans rfl, HS9_, HS10_, HS11_, HS12_, HS13_, HS14_, HS15_, HS16_, HS17_⟩ (fun hHeld => ?_)
        clear hK K
        refine norm_ (a' := ?_) ?_ ?_
        rotate_left
        ·show Act.put _ (some 82) _ = _
         simp only [Act.put, List.setIfInBounds_toArray, List.set_cons_zero, List.set_cons_succ, i64_w, i32_w]
         rfl
        refine pur_ (i := 12) (N := some 83) q12_27 (any_of HT_.out (by kernel_rfl)) ?_
        refine pur_ (i := 13) (N := some 84) q12_28 (any_of HT_.out (by kernel_rfl)) ?_
        refine pur_ (i := 14) (N := some 85) q12_29 (any_of HT_.out (by kernel_rfl)) ?_
        refine done_ (done_of HT_.out (by kernel_rfl)) ?_
        (first | (have hx_ : x13_29 = true := (by have h_ := c50b0; revert h_; generalize x13_29 = q_; revert q_; decide); subst hx_) | (have hx_ : x13_29 = false := (by have h_ := c50b0; revert h_; generalize x13_29 = q_; revert q_; decide); subst hx_) | skip)
        try go_wp2
        go_meet
        case rel => exact ⟨_, (!t817), wr_, H', ⟨by have := HJ2.out; have := HK2.out; have := HJ29.out; first | omega | exact Nat.le_refl _⟩, ⟨wV_ HO_0.out⟩, ⟨wV_ HO_1.out⟩, ⟨wV_ HO_5.out⟩, ⟨wV_ HO_800008.out⟩, ⟨wV_ HO_814008.out⟩, ⟨wB_ BK799.out⟩, ⟨wB_ BK813.out⟩, ⟨wb2_ HB.out GE799.out GE813.out⟩⟩
       case rest =>
        clear HC49
        try clear c1
        try clear c2
        try clear p2
        try clear c3
        try clear c4
        try clear c5
        try clear p7
        try clear q7
        try clear hx7
        try clear c8
        try clear p8
        try clear q8
        try clear hx8
        try clear c20
        try clear c34
        try clear c35
        try clear c38
        try clear c39
        try clear c42
        try clear c50
        try clear c50b0
        try clear c50b1
        try clear c50b2
        try clear c52
        try clear c53
        try clear c53b0
        try clear c54
        try clear c54b0
        try clear hcz33_0
        try clear hcz33_1
        try clear hcz33_2
        try clear hcz33_3
        try clear hcz33_4
        try clear hcz33_5
        try clear hcz33_6
        try clear hcz33_7
        try clear hcz33_8
        try clear hcz40_0
        try clear hcz40_1
        try clear hcz40_2
        try clear hcz40_3
        try clear hcz40_4
        try clear hcz40_5
        try clear hcz40_6
        try clear hcz40_7
        try clear hcz40_8
        try clear hfz33_0
        try clear hfz33_1
        try clear hfz33_2
        try clear hfz33_3
        try clear hfz33_4
        try clear hfz33_5
        try clear hfz33_6
        try clear hfz33_7
        try clear hfz33_8
        try clear hfz40_0
        try clear hfz40_1
        try clear hfz40_2
        try clear hfz40_3
        try clear hfz40_4
        try clear hfz40_5
        try clear hfz40_6
        try clear hfz40_7
        try clear hfz40_8
        try clear hx786_0
        try clear hx786_1
        try clear hx786_2
        try clear hx786_3
        try clear hx786_4
        try clear hx786_5
        try clear hx786_6
        try clear hx786_7
        try clear hx786_8
        try clear hx800_0
        try clear hx800_1
        try clear hx800_2
        try clear hx800_3
        try clear hx800_4
        try clear hx800_5
        try clear hx800_6
        try clear hx800_7
        try clear hx800_8
        try clear hx814_0
        try clear hx814_1
        try clear hx814_2
        try clear hx814_3
        try clear hx814_4
        try clear hx814_5
        try clear hx814_6
        try clear hx814_7
        try clear hx814_8
        try clear hx816_0
        try clear hx816_1
        try clear hx816_2
        try clear hx816_3
        try clear hx816_4
        try clear hx816_5
        try clear hx816_6
        try clear hx816_7
        try clear hx816_8
        try clear p2
        try clear p786
        try clear p800
        try clear p814
        try clear p816
        try clear q786
        try clear q800
        try clear q814
        try clear q816
        obtain ⟨kq, x85_48, rfl, HA, HJ48, HO_0, HO_1, HO_5, HO_800008, HO_814008, BK799, BK813, HB⟩ := hcut
        cases kq with
        | zero => exact absurd HA.out (by simp [bindlelaw20_SubWhole.j3])
        | succ kj48 =>
         have H := HA.out
         clear HA
         simp only [bindlelaw20_SubWhole.j3] at H
         by_cases c59 : x85_48 = true
         ·subst c59
          have H1 : (some false) = some r := by rw [if_pos rfl] at H; exact H
          clear H
          have H := H1
          clear H1
          obtain rfl := Option.some.inj H
          go_wp2
          go_ret
          exact ⟨we_, wb2_ HB.out GE799.out GE813.out⟩
         replace c59 := Bool.eq_false_iff.mpr c59
         subst c59
         have H1 : (if t812 = true then (bindlelaw20_SubWhole.l0 kj48 l0 l1 t781 t784 (wrap64 (x7_2 + 1)) (wrap64 (x8_2 + 1))) else (bindlelaw20_SubWhole.l0 kj48 l0 l1 t781 t784 x7_2 (wrap64 (x8_2 + 1)))) = some r := by rw [if_neg (show ¬ (false = true) by decide)] at H; exact H
         clear H
         have H := H1
         clear H1
         by_cases c60 : t812 = true
         ·subst c60
          have H1 : (bindlelaw20_SubWhole.l0 kj48 l0 l1 t781 t784 (wrap64 (x7_2 + 1)) (wrap64 (x8_2 + 1))) = some r := by rw [if_pos rfl] at H; exact H
          clear H
          have H := H1
          clear H1
          have H' := A0_ H
          clear H
          go_wp2
          go_roundg kj48
          case measure => have := HJ2.out; have := HK2.out; have := HJ29.out; have := HJ48.out; omega
          case rel => exact ⟨(wrap64 (x7_2 + 1)), (wrap64 (x8_2 + 1)), wr_, wr_, H', ⟨by have := HJ2.out; have := HK2.out; have := HJ29.out; have := HJ48.out; omega⟩, ⟨by (with_reducible repeat (first | apply Va_ | apply VN_ | apply V1_)); exact Kd.V_mono HO_0.out (fun _ hk => hk.1)⟩, ⟨by (with_reducible repeat (first | apply Va_ | apply VN_ | apply V1_)); exact Kd.V_mono HO_1.out (fun _ hk => hk.1)⟩, ⟨by (with_reducible repeat (first | apply Va_ | apply VN_ | apply V1_)); exact Kd.V_mono HO_5.out (fun _ hk => hk.1)⟩, ⟨wb2_ HB.out GE799.out GE813.out⟩⟩
         replace c60 := Bool.eq_false_iff.mpr c60
         subst c60
         have H1 : (bindlelaw20_SubWhole.l0 kj48 l0 l1 t781 t784 x7_2 (wrap64 (x8_2 + 1))) = some r := by rw [if_neg (show ¬ (false = true) by decide)] at H; exact H
         clear H
         have H := H1
         clear H1
         have H' := A0_ H
         clear H
         go_wp2
         go_roundg kj48
         case measure => have := HJ2.out; have := HK2.out; have := HJ29.out; have := HJ48.out; omega
         case rel => exact ⟨(x7_2), (wrap64 (x8_2 + 1)), wr_, wr_, H', ⟨by have := HJ2.out; have := HK2.out; have := HJ29.out; have := HJ48.out; omega⟩, ⟨by (with_reducible repeat (first | apply Va_ | apply VN_ | apply V1_)); exact Kd.V_mono HO_0.out (fun _ hk => hk.1)⟩, ⟨by (with_reducible repeat (first | apply Va_ | apply VN_ | apply V1_)); exact Kd.V_mono HO_1.out (fun _ hk => hk.1)⟩, ⟨by (with_reducible repeat (first | apply Va_ | apply VN_ | apply V1_)); exact Kd.V_mono HO_5.out (fun _ hk => hk.1)⟩, ⟨wb2_ HB.out GE799.out GE813.out⟩⟩
end Go.Proofs.YtfmphccoeinhcaaDoor.Print

namespace Go.Proofs.YtfmphccoeinhcaaDoor
open Go.RowKit Go.Proofs.YtfmphccoeinhcaaDoor.Print Go.Proofs.YtfmphccoeinhcaaDoorW.PrintWords
set_option linter.unusedVariables false
theorem whole_at {a b : List Node} (ga : goodTree a = true) (gb : goodTree b = true) (w : Bool) {x : Node} (hx : x ∈ a) : (leftB b w x = true → ∃ y, findF (subF a b w).1 x.f0 = some y ∧ equalB y x = true) ∧ (leftB b w x = false → findF (subF a b w).1 x.f0 = none) := by
 have h := (sub_from ga gb w).2
 have hf := findF_here (good_parts ga).1 hx
 have hi := sub_in (good_parts ga).1 b w hf
 have hs : srcT a x.f0 = some (x.f2, x) := by unfold srcT; rw [hf]; rfl
 constructor
 ·intro hl
  exact h.yes x.f0 x.f2 x (by unfold onlyS; rw [hi, hl, if_pos rfl, hs])
 ·intro hl
  exact h.no x.f0 (by unfold onlyS; rw [hi, hl, if_neg (by decide)])
theorem sub_count {a b : List Node} (ga : goodTree a = true) (gb : goodTree b = true) (w : Bool) : (subF a b w).1.length = (a.filter (leftB b w)).length := by
 have h := congrArg List.length (only_paths ga (sub_from ga gb w).2)
 rw [List.length_map, List.length_map] at h
 rw [h]
 congr 1
 refine List.filter_congr (fun x hx => ?_)
 exact sub_in (good_parts ga).1 b w (findF_here (good_parts ga).1 hx)
theorem whole_ans (a b : List Node) : Ev (fun k => bindlelaw20_SubWhole.j0 k a b true) true :=
 Ev.step (f := fun _ => some true) (fun k => by rw [bindlelaw20_SubWhole.j0, if_pos rfl, bindlelaw20_answers.val]; rfl) (Ev.now _)
theorem whole_j3 {a b t : List Node} {n i : Int} {left : Bool} (h : Ev (fun k => bindlelaw20_SubWhole.l0 k a b t 0 (if left = true then wrap64 (n + 1) else n) (wrap64 (i + 1))) true) : Ev (fun k => bindlelaw20_SubWhole.j3 k a b t 0 n i left false) true := by
 refine Ev.step (fun k => ?_) h
 rw [bindlelaw20_SubWhole.j3, if_neg (by decide)]
 cases left <;> simp
theorem whole_loop {a b : List Node} (ga : goodTree a = true) (gb : goodTree b = true) (hla : a.length ≤ 60) (hlb : b.length ≤ 60) : ∀ (d i : Nat), i + d = a.length → Ev (fun k => bindlelaw20_SubWhole.l0 k a b (subF a b true).1 0 (((a.take i).filter (leftB b true)).length : Int) (i : Int)) true := by
 have hlt : (subF a b true).1.length ≤ 60 := by rw [sub_count ga gb true]; exact Nat.le_trans (List.length_filter_le _ _) hla
 intro d
 induction d with
 | zero =>
  intro i hi
  refine Ev.step (f := fun _ => some true) (fun k => ?_) (Ev.now true)
  rw [bindlelaw20_SubWhole.l0, if_neg (by omega), bindlelaw20_answers.val, Option.bind_some, if_pos rfl, if_pos rfl, List.take_of_length_le (by omega), ← sub_count ga gb true]
  simp
 | succ d ih =>
  intro i hi
  have hia : i < a.length := by omega
  have hxm : a[i] ∈ a := List.getElem_mem hia
  obtain ⟨w1, w2⟩ := whole_at ga gb true hxm
  have hnext : Ev (fun k => bindlelaw20_SubWhole.l0 k a b (subF a b true).1 0 (if leftB b true a[i] = true then wrap64 ((((a.take i).filter (leftB b true)).length : Int) + 1) else (((a.take i).filter (leftB b true)).length : Int)) (wrap64 ((i : Int) + 1))) true := by
   have h := ih (i + 1) (by omega)
   rw [List.take_succ_eq_append_getElem hia, List.filter_append, List.length_append] at h
   rw [w_one i (by omega)]
   have hle : ((a.take i).filter (leftB b true)).length ≤ 60 := Nat.le_trans (List.length_filter_le _ _) (by rw [List.length_take]; omega)
   cases hL : leftB b true a[i] with
   | true =>
    rw [if_pos rfl, w_one _ (by omega)]
    rw [List.filter_cons_of_pos hL] at h
    exact h
   | false =>
    rw [if_neg (by decide)]
    rw [List.filter_cons_of_neg (by rw [hL]; decide)] at h
    exact h
  refine Ev.step (f := fun k => (bindleref08_Find.f k b a[i].f0).bind fun bt => _) (fun k => by rw [bindlelaw20_SubWhole.l0, if_pos (by omega), if_pos (by omega), rdN_n a i hia]) ?_
  refine Ev.bind (rfind_eq b a[i].f0 (by omega)) ?_
  refine Ev.bind (rfind_eq (subF a b true).1 a[i].f0 (by omega)) ?_
  have hgone : ∀ y, findF b a[i].f0 = some y → leftB b true a[i] = !equalB y a[i] := fun y hy => by
   unfold leftB
   rw [hy]
   have : equalB a[i] y = equalB y a[i] := by
    rw [Bool.eq_iff_iff]
    exact ⟨equalB_symm, equalB_symm⟩
   show (true && !equalB a[i] y) = _
   rw [this, Bool.true_and]
  have hnone : findF b a[i].f0 = none → leftB b true a[i] = true := fun h => by unfold leftB; rw [h]
  generalize hn : (((a.take i).filter (leftB b true)).length : Int) = n at hnext
  have hj2 : ∀ (g : Bool) (q : Node), g = !leftB b true a[i] → (leftB b true a[i] = true → equalB q a[i] = true) → Ev (fun k => bindlelaw20_SubWhole.j2 k a b (subF a b true).1 0 n (i : Int) (leftB b true a[i]) g q.f0 q.f1 q.f2 q.f3 q.f4.f0 q.f4.f1 q.f4.f2 q.f4.f3 q.f5) true := by
   intro g q hg hq
   cases hL : leftB b true a[i] with
   | true =>
    rw [hL] at hg hnext
    subst hg
    refine Ev.step (fun k => ?_) (whole_j3 hnext)
    rw [bindlelaw20_SubWhole.j2, if_neg (by decide), if_pos rfl, if_pos (by omega), if_pos (by omega), rdN_n a i hia, requal_f, hq hL, Option.bind_some]
    rfl
   | false =>
    rw [hL] at hg hnext
    subst hg
    refine Ev.step (fun k => ?_) (whole_j3 hnext)
    rw [bindlelaw20_SubWhole.j2, if_neg (by decide), if_neg (by decide)]
  have hq : ∃ q : Node, tupN (findF (subF a b true).1 a[i].f0) = (q.f0, q.f1, q.f2, q.f3, q.f4.f0, q.f4.f1, q.f4.f2, q.f4.f3, q.f5, leftB b true a[i]) ∧ (leftB b true a[i] = true → equalB q a[i] = true) := by
   cases hL : leftB b true a[i] with
   | true =>
    obtain ⟨y, hy, he⟩ := w1 hL
    exact ⟨y, by rw [hy]; rfl, fun _ => he⟩
   | false => exact ⟨z38, by rw [w2 hL]; rfl, fun h => by cases h⟩
  obtain ⟨q, hq1, hq2⟩ := hq
  rw [hq1]
  cases hfb : findF b a[i].f0 with
  | none =>
   refine Ev.congr (fun k => ?_) (hj2 false q (by rw [hnone hfb]; rfl) hq2)
   rw [if_neg (by simp [tupN])]
  | some y =>
   refine Ev.congr (fun k => ?_) (hj2 (equalB y a[i]) q (by rw [hgone y hfb]; simp) hq2)
   rw [if_pos (by rfl)]
   show (bindleref08_Equal.f y.f0 y.f1 y.f2 y.f3 y.f4.f0 y.f4.f1 y.f4.f2 y.f4.f3 y.f5 _ _ _ _ _ _ _ _ _).bind _ = _
   rw [requal_f, Option.bind_some]
theorem SubWhole_true (a b : List Node) (ha : ∀ x ∈ a, NodeZ x) (hb : ∀ x ∈ b, NodeZ x) : Ev (fun k => bindlelaw20_SubWhole.f k a b) true := by
 have hzs := all2 ha hb
 obtain ⟨r, h1, h2⟩ := light20_eq [a, b] (by simp) hzs
 unfold bindlelaw20_SubWhole.f
 refine Ev.bind h1 ?_
 cases r with
 | false => exact Ev.congr (fun k => by rw [if_neg (by decide)]) (whole_ans a b)
 | true =>
  have hz := okl_z (h2 rfl) hzs
  have za := hz a (by simp)
  have zb := hz b (by simp)
  refine Ev.congr (fun k => by rw [if_pos rfl, rgood_f za.1, Option.bind_some]) ?_
  cases ga : goodTree a with
  | false => exact Ev.congr (fun k => by rw [if_neg (by decide)]) (whole_ans a b)
  | true =>
   refine Ev.congr (fun k => by rw [if_pos rfl, rgood_f zb.1, Option.bind_some]) ?_
   cases gb : goodTree b with
   | false => exact whole_ans a b
   | true =>
    refine Ev.step (fun k => ?_) (whole_loop ga gb za.2 zb.2 a.length 0 (by omega))
    rw [bindlelaw20_SubWhole.j0, if_neg (by decide), sub_f za.1 zb.1, Option.bind_some, (sub_from ga gb true).1]
    rfl
end Go.Proofs.YtfmphccoeinhcaaDoor

namespace Go.Proofs.YtfmphccoeinhcaaDoor
open Go.RowKit Go.Lib Go.Proofs.YtfmphccoeinhcaaDoorW.PrintWords
theorem laidOut : laidOutB Tryd.prog = true := by kernel_rfl
end Go.Proofs.YtfmphccoeinhcaaDoor

namespace Go.Proofs.YtfmphccoeinhcaaDoor
open Go.ChangeShapes Go.WideShapes Go.RowKit Go.Proofs.YtfmphccoeinhcaaDoorW.PrintWords
structure Opens {α : Type} (P : Program) (d : Kd α) (t : TypeId) (B : α → Prop) : Prop where
 sz : P.cellsOf t = d.sz
 get : ∀ {H : Type} {enc : TypeId × Value → H} {W : World} {fuel : Nat} {cs : List Value} {x : DataW H × List MemPlace},
  DataW.trod enc P W 0 (fun _ => true) true fuel t cs = some x → (∀ n ∈ x.1.weights P t, n ≤ reachBytes) → ∃ a, d.K W a cs ∧ B a
theorem Opens.int {P : Program} {t : TypeId} {k : IntKind} (ht : P.underlying t = some (.int k)) (hc : P.cellsOf t = 1) : Opens P (Kd.int k) t (fun n => (Lit.int k n).wf = true) :=
 ⟨hc, fun h _ => by
  obtain ⟨n, rfl, rfl, hw⟩ := DataW.trod_int ht h
  exact ⟨n, rfl, hw⟩⟩
theorem Opens.bool {P : Program} {t : TypeId} (ht : P.underlying t = some .bool) (hc : P.cellsOf t = 1) : Opens P Kd.bool t (fun _ => True) :=
 ⟨hc, fun h _ => by
  obtain ⟨n, rfl, rfl⟩ := DataW.trod_bool ht h
  exact ⟨n, rfl, trivial⟩⟩
theorem Opens.string {P : Program} {t : TypeId} (ht : P.underlying t = some .string) (hc : P.cellsOf t = 1) : Opens P Kd.string t (fun s => s.size ≤ 140737488351232) :=
 ⟨hc, fun h hw => by
  obtain ⟨s, rfl, rfl, _⟩ := DataW.trod_string ht h
  refine ⟨s, rfl, ?_⟩
  have := hw s.data.toList.length (by simp [DataW.weights])
  have e : s.data.toList.length = s.size := by simp
  rw [e] at this
  exact this⟩
theorem each_list {α : Type} {Q : Nat → α → Prop} : ∀ n : Nat, (∀ i, i < n → ∃ x, Q i x) → ∃ xs : List α, xs.length = n ∧ ∀ i x, xs[i]? = some x → Q i x := by
 intro n
 induction n with
 | zero => exact fun _ => ⟨[], rfl, fun i x h => by simp at h⟩
 | succ n ih =>
  intro h
  obtain ⟨xs, hl, hx⟩ := ih (fun i hi => h i (by omega))
  obtain ⟨y, hy⟩ := h n (by omega)
  refine ⟨xs ++ [y], by simp [hl], fun i x hi => ?_⟩
  rcases Nat.lt_or_ge i n with h1 | h1
  ·rw [List.getElem?_append_left (by omega)] at hi
   exact hx i x hi
  ·rw [List.getElem?_append_right (by omega)] at hi
   have h0 : i - xs.length = 0 := by
    have := (List.getElem?_eq_some_iff.1 hi).1
    simp at this
    omega
   rw [h0] at hi
   simp at hi
   subst hi
   obtain rfl : i = n := by omega
   exact hy
theorem weights_all {H : Type} {P : Program} {e : TypeId} : ∀ {l : List (DataW H)} {y : DataW H}, y ∈ l → ∀ n ∈ y.weights P e, n ∈ DataW.weightsAll P e l
 | z :: r, y, hy, n, hn => by
  simp only [DataW.weightsAll, List.mem_append]
  rcases List.mem_cons.1 hy with rfl | hy
  ·exact .inl hn
  ·exact .inr (weights_all hy n hn)
theorem add_add (a : Addr) (x y : Nat) : (a.add x).add y = a.add (x + y) := by
 unfold Addr.add
 split
 ·rename_i h
  subst h
  simp
 ·rename_i h
  split
  ·rename_i h2
   subst h2
   simp [h]
  ·rw [if_neg (by omega)]
   simp [Nat.add_assoc]
theorem Opens.slice {α : Type} {P : Program} {d : Kd α} {B : α → Prop} {t e : TypeId} (ht : P.underlying t = some (.slice e)) (hc : P.cellsOf t = 1) (h : Opens P d e B) :
  Opens P (Kd.slice e d) t (fun xs => xs.length * P.bytesOf e ≤ 140737488351232 ∧ ∀ x ∈ xs, B x) :=
 ⟨hc, fun {H enc W fuel cs x} hf hw => by
  rcases DataW.trod_slice ht hf with ⟨rfl, rfl⟩ | ⟨a, len, cap, elems, rest, n, _, rfl, rfl, hb, hl, hm, hlen, hel, hsp, hns⟩
  ·exact ⟨[], ⟨none, 0, rfl, Nat.le_refl _, Kd.C_nil d W⟩, by simp, fun x hx => by cases hx⟩
  ·simp only [DataW.weights, ht] at hw
   have each : ∀ i, i < len → ∃ z : α, B z ∧ ∃ c, c.length = d.sz ∧ d.K W z c ∧ ∀ j u, c[j]? = some u → W.cell? (a.add (i * d.sz + j)) = some u := by
    intro i hi
    have h1 := hel i hi
    have hi' : i < elems.length := by omega
    rw [List.getElem?_eq_getElem hi', Option.bind_eq_some_iff] at h1
    obtain ⟨c, hcs, hy⟩ := h1
    obtain ⟨-, h2, h3⟩ := World.cells?_some hcs
    obtain ⟨z, hz, hB⟩ := h.get hy (fun n hn => hw n (by
     simp only [List.mem_cons, List.mem_append]
     exact .inr (.inl (weights_all (List.mem_map.2 ⟨_, List.getElem_mem hi', rfl⟩) n hn))))
    refine ⟨z, hB, c, by rw [h2, h.sz], hz, fun j u hj => ?_⟩
    have hj' : j < P.cellsOf e := by
     have := (List.getElem?_eq_some_iff.1 hj).1
     omega
    have h4 := h3 j hj'
    rw [add_add, h.sz] at h4
    rw [h4, hj]
   obtain ⟨xs, hxl, hxs⟩ := each_list len each
   subst hxl
   have hz := hw _ (List.mem_cons_self ..)
   simp only [List.length_map] at hz
   have h5 : xs.length * P.bytesOf e ≤ (elems.length + rest.length) * P.bytesOf e := Nat.mul_le_mul_right _ (by omega)
   have h6 : reachBytes = 140737488351232 := rfl
   refine ⟨xs, ⟨some a, cap, rfl, hl, rfl, ?_, fun _ => ⟨a, rfl, fun j p hj => (hxs j p hj).2⟩⟩, by omega, fun x hx => ?_⟩
   ·have : maxLen = 9223372036854775807 := rfl
    omega
   ·obtain ⟨i, hi⟩ := List.getElem?_of_mem hx
    exact (hxs i x hi).1⟩
structure OpensF {α : Type} (P : Program) (d : Kd α) (fs : List Field) (o : Nat) (B : α → Prop) : Prop where
 get : ∀ {H : Type} {enc : TypeId × Value → H} {W : World} {n : Nat} {cs : List Value} {xs : List (DataW H × List MemPlace)}, xs.length = fs.length →
  (∀ (i : Nat) (f : Field), fs[i]? = some f → DataW.trod enc P W 0 (fun _ => true) true n f.type ((cs.drop f.offset).take (P.cellsOf f.type)) = xs[i]?) →
  (∀ m ∈ DataW.weightsEach P (fs.map (·.type)) (xs.map (·.1)), m ≤ reachBytes) → ∃ a, d.K W a ((cs.drop o).take d.sz) ∧ B a
theorem OpensF.one {α : Type} {P : Program} {d : Kd α} {B : α → Prop} {f : Field} {o : Nat} (ho : f.offset = o) (h : Opens P d f.type B) : OpensF P d [f] o B := by
 refine ⟨fun {H enc W n cs xs} hl hx hw => ?_⟩
 match xs, hl with
 | [x], _ =>
  have h0 := hx 0 f rfl
  rw [h.sz, ho] at h0
  simp only [List.getElem?_cons_zero] at h0
  exact h.get h0 (fun m hm => hw m (by simp only [List.map_cons, List.map_nil, DataW.weightsEach, List.mem_append]; exact .inl hm))
theorem OpensF.cons {α β : Type} {P : Program} {d : Kd α} {d' : Kd β} {B : α → Prop} {B' : β → Prop} {f : Field} {fs : List Field} {o : Nat} (ho : f.offset = o) (h : Opens P d f.type B) (h' : OpensF P d' fs (o + d.sz) B') :
  OpensF P (Kd.pair d d') (f :: fs) o (fun x => B x.1 ∧ B' x.2) := by
 refine ⟨fun {H enc W n cs xs} hl hx hw => ?_⟩
 match xs, hl with
 | x :: xs, hl =>
  have h0 := hx 0 f rfl
  rw [h.sz, ho] at h0
  simp only [List.getElem?_cons_zero] at h0
  obtain ⟨a, ha, hB⟩ := h.get h0 (fun m hm => hw m (by simp only [List.map_cons, DataW.weightsEach, List.mem_append]; exact .inl hm))
  obtain ⟨b, hb, hB'⟩ := h'.get (enc := enc) (W := W) (n := n) (cs := cs) (xs := xs) (by simpa using hl) (fun i g hg => by have := hx (i + 1) g (by simpa using hg); simpa using this)
   (fun m hm => hw m (by simp only [List.map_cons, DataW.weightsEach, List.mem_append]; exact .inr hm))
  refine ⟨(a, b), ⟨_, _, ?_, ha, hb⟩, hB, hB'⟩
  show (cs.drop o).take (d.sz + d'.sz) = _
  rw [List.take_add, List.drop_drop]
theorem Opens.struct {α β : Type} {P : Program} {d : Kd α} {B : α → Prop} {t : TypeId} {fs : Array Field} (ht : P.underlying t = some (.struct fs)) (hc : P.cellsOf t = d.sz) (h : OpensF P d fs.toList 0 B) (f : β → α) (g : α → β) (hg : ∀ a, f (g a) = a) :
  Opens P (Kd.iso d f) t (fun x => B (f x)) :=
 ⟨hc, fun {H enc W fuel cs x} hf hw => by
  obtain ⟨xs, n, _, rfl, hl, hlen, hx⟩ := DataW.trod_struct ht hf
  simp only [DataW.weights, ht] at hw
  obtain ⟨a, ha, hB⟩ := h.get (enc := enc) (W := W) (n := n) (cs := cs) (xs := xs) (by simpa using hlen) (fun i g hg => hx i g (by simpa using hg)) hw
  refine ⟨g a, ?_, by rw [hg]; exact hB⟩
  show d.K W (f (g a)) cs
  rw [hg]
  rw [List.drop_zero, List.take_of_length_le (by omega)] at ha
  exact ha⟩
theorem Opens.imp {α : Type} {P : Program} {d : Kd α} {t : TypeId} {B B' : α → Prop} (h : Opens P d t B) (hB : ∀ a, B a → B' a) : Opens P d t B' :=
 ⟨h.sz, fun hf hw => by obtain ⟨a, ha, hb⟩ := h.get hf hw; exact ⟨a, ha, hB a hb⟩⟩
theorem Opens.param {α : Type} {P : Program} {d : Kd α} {t : TypeId} {B : α → Prop} (h : Opens P d t B) {H : Type} {enc : TypeId × Value → H} {W : World} {v : Value} {x : DataW H} {p : List MemPlace} {ts : List TypeId} {ds : List (DataW H)} {j : Nat}
  (hsz : (DataW.weightsEach P ts ds).all (· ≤ reachBytes) = true) (hj : ts[j]? = some t) (hd : ds[j]? = some x) (ht : DataW.Trod enc P W 0 (fun _ => true) true t v x p) : ∃ a, d.K W a v.cells.toList ∧ B a := by
 obtain ⟨fuel, hf⟩ := ht
 exact h.get hf (fun n hn => by simpa using List.all_eq_true.1 hsz _ (DataW.weights_mem_each hj hd n hn))
theorem Opens.row {α : Type} {P : Program} {d : Kd α} {t e : TypeId} {B : List α → Prop} (h : Opens P (Kd.slice e d) t B) {H : Type} {enc : TypeId × Value → H} {W : World} {A : Option Addr} {n c : Nat} {x : DataW H} {p : List MemPlace} {ts : List TypeId} {ds : List (DataW H)} {j : Nat}
  (hsz : (DataW.weightsEach P ts ds).all (· ≤ reachBytes) = true) (hj : ts[j]? = some t) (hd : ds[j]? = some x) (ht : DataW.Trod enc P W 0 (fun _ => true) true t (.slice A n c) x p) :
  ∃ xs : List α, xs.length = n ∧ d.C W A n xs ∧ n ≤ c ∧ B xs := by
 obtain ⟨xs, ⟨A', c', he, hl, hC⟩, hB⟩ := h.param hsz hj hd ht
 simp [Value.cells] at he
 obtain ⟨rfl, rfl, rfl⟩ := he
 exact ⟨xs, rfl, hC, hl, hB⟩
end Go.Proofs.YtfmphccoeinhcaaDoor

namespace Go.Proofs.YtfmphccoeinhcaaDoor
open Go.RowKit Go.Proofs.YtfmphccoeinhcaaDoor.Print Go.Proofs.YtfmphccoeinhcaaDoorW.PrintWords
theorem o_str : Opens Tryd.prog Kd.string 9 (fun s => s.size ≤ 140737488351232) := Opens.string Tryd.underlying9 (by kernel_rfl)
theorem o_u8 : Opens Tryd.prog (Kd.int .u8) 5 (fun n => (Lit.int .u8 n).wf = true) := Opens.int Tryd.underlying5 (by kernel_rfl)
theorem o_int : Opens Tryd.prog (Kd.int .i64) 3 (fun n => (Lit.int .i64 n).wf = true) := Opens.int Tryd.underlying3 (by kernel_rfl)
theorem o_bytes : Opens Tryd.prog (Kd.slice 5 (Kd.int .u8)) 25 (fun xs => xs.length ≤ 140737488351232) :=
 (Opens.slice Tryd.underlying25 (by kernel_rfl) o_u8).imp (fun xs h => by
  have hb : Tryd.prog.bytesOf 5 = 1 := by kernel_rfl
  have h1 := h.1
  rw [hb] at h1
  omega)
theorem o_meta : Opens Tryd.prog k24 24 (fun _ => True) := by
 have h := Opens.struct Tryd.underlying24 (by kernel_rfl) (OpensF.cons rfl o_int (OpensF.cons rfl o_int (OpensF.cons rfl o_int (OpensF.one rfl o_int)))) (fun x : S24 => (x.f0, x.f1, x.f2, x.f3)) (fun p => ⟨p.1, p.2.1, p.2.2.1, p.2.2.2⟩) (fun _ => rfl)
 exact Opens.imp h (fun _ _ => trivial)
theorem o_node : Opens Tryd.prog k38 38 NodeZ := by
 have h := Opens.struct Tryd.underlying38 (by kernel_rfl) (OpensF.cons rfl o_str (OpensF.cons rfl o_str (OpensF.cons rfl o_str (OpensF.cons rfl o_u8 (OpensF.cons rfl o_meta (OpensF.one rfl o_bytes)))))) (fun x : S38 => (x.f0, x.f1, x.f2, x.f3, x.f4, x.f5)) (fun p => ⟨p.1, p.2.1, p.2.2.1, p.2.2.2.1, p.2.2.2.2.1, p.2.2.2.2.2⟩) (fun _ => rfl)
 exact Opens.imp h (fun _ hx => ⟨hx.1, hx.2.1, hx.2.2.1, hx.2.2.2.2.2⟩)
theorem o_nodes : Opens Tryd.prog (Kd.slice 38 k38) 31 (fun xs => (∀ x ∈ xs, NodeZ x) ∧ xs.length ≤ 140737488351232) :=
 (Opens.slice Tryd.underlying31 (by kernel_rfl) o_node).imp (fun xs h => ⟨h.2, by
  have hb : Tryd.prog.bytesOf 38 = 112 := by kernel_rfl
  have h1 := h.1
  rw [hb] at h1
  omega⟩)
end Go.Proofs.YtfmphccoeinhcaaDoor
