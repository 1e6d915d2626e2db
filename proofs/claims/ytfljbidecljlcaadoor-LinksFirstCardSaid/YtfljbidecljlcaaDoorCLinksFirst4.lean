/-
  Part of the proof that LinksFirst answers true: texts put together (wip/bundle.py).
-/
import Derived.Test.YtfljbidecljlcaaDoorCLinksFirst3
import Derived.SizedLaws
import Derived.ChangeSlices
import Derived.OpenShut
namespace Go.Proofs.YtfljbidecljlcaaDoor.Print
open Go.RowKit Go.Proofs.YtfljbidecljlcaaDoorW.PrintWords Go.Proofs.YtfljbidecljlcaaDoorW.PrintLast Go.Proofs.YtfljbidecljlcaaDoorW.PrintMore
attribute [local go_sem] max2_int min2_int max_two min_two max_three min_three max_four min_four   -- for this text's walks alone
set_option linter.unusedVariables false
set_option linter.unusedSimpArgs false
mutual
def bindlelaw11_LinksFirst.j0 : Nat → List (S40) → List (S45) → Bool → Option (Bool)
 | 0, _, _, _ => none
 | k + 1, x0, x5, x34 => if x34 = true then (some false) else (bindlelaw11_LinksFirst.l0 k x0 x5 0)
def bindlelaw11_LinksFirst.l0 : Nat → List (S40) → List (S45) → Int → Option (Bool)
 | 0, _, _, _ => none
 | k + 1, x0, x5, x7 => if x7 < (x5.length : Int) then (if 0 ≤ x7 then ((bindleref08_Find.f k x0 ((rd_T45 x5 x7).f0)).bind fun bt343 => (bindlelaw11_LinksFirst.l1 k x0 x5 x7 x7 (wrap64 (x7 - 1)) bt343.1 bt343.2.1 bt343.2.2.1 bt343.2.2.2.1 bt343.2.2.2.2.1 bt343.2.2.2.2.2.1 bt343.2.2.2.2.2.2.1 bt343.2.2.2.2.2.2.2.1 bt343.2.2.2.2.2.2.2.2.1)) else (none)) else ((bindlelaw11_answers.f).bind fun t341 => (some t341))
def bindlelaw11_LinksFirst.l1 : Nat → List (S40) → List (S45) → Int → Int → Int → ByteArray → ByteArray → ByteArray → Int → Int → Int → Int → Int → List Int → Option (Bool)
 | 0, _, _, _, _, _, _, _, _, _, _, _, _, _, _ => none
 | k + 1, x0, x5, x7, x10, x11, x356000, x356001, x356002, x356003, x356004, x356005, x356006, x356007, x356008 => if x11 ≥ 0 then (if 0 ≤ x11 then (if x11 < (x5.length : Int) then ((bindleref08_Find.f k x0 ((rd_T45 x5 x11).f0)).bind fun bt357 => (if x356003 = 48 then (if bt357.2.2.2.1 = 48 then (if bt357.2.2.1.toList = x356002.toList then (bindlelaw11_LinksFirst.l1 k x0 x5 x7 x11 (wrap64 (x11 - 1)) x356000 x356001 x356002 x356003 x356004 x356005 x356006 x356007 x356008) else (bindlelaw11_LinksFirst.l1 k x0 x5 x7 x10 (wrap64 (x11 - 1)) x356000 x356001 x356002 x356003 x356004 x356005 x356006 x356007 x356008)) else (bindlelaw11_LinksFirst.l1 k x0 x5 x7 x10 (wrap64 (x11 - 1)) x356000 x356001 x356002 x356003 x356004 x356005 x356006 x356007 x356008)) else (bindlelaw11_LinksFirst.l1 k x0 x5 x7 x10 (wrap64 (x11 - 1)) x356000 x356001 x356002 x356003 x356004 x356005 x356006 x356007 x356008))) else (none)) else (none)) else (if x10 < x7 then (if 0 ≤ x7 then (if x7 < (x5.length : Int) then (if ((rd_T45 x5 x7).f2) = 49 then (if 0 ≤ x10 then (if x10 < (x5.length : Int) then (if ((rd_T45 x5 x7).f1).toList = ((rd_T45 x5 x10).f0).toList then (if (((rd_T45 x5 x7).f4).length : Int) > 0 then (some false) else (if x10 = x7 then (if ((rd_T45 x5 x7).f2) = x356003 then (bindlelaw11_LinksFirst.l0 k x0 x5 (wrap64 (x7 + 1))) else (some false)) else (bindlelaw11_LinksFirst.l0 k x0 x5 (wrap64 (x7 + 1))))) else (some false)) else (none)) else (none)) else (some false)) else (none)) else (none)) else (if x10 = x7 then (if 0 ≤ x7 then (if x7 < (x5.length : Int) then (if ((rd_T45 x5 x7).f2) = x356003 then (bindlelaw11_LinksFirst.l0 k x0 x5 (wrap64 (x7 + 1))) else (some false)) else (none)) else (none)) else (bindlelaw11_LinksFirst.l0 k x0 x5 (wrap64 (x7 + 1)))))
end
def bindlelaw11_LinksFirst.f (k : Nat) (l0 : List (S40)) (l1 : List Int) : Option (Bool) := (bindlelaw11_light.f k l0).bind fun t332 => (if t332 = true then ((bindlelaw11_mixed.f k l0 l1).bind fun t334 => ((links_Members.f l0 t334).bind fun bt337 => (if bt337.2 = 0 then (bindlelaw11_LinksFirst.j0 k l0 bt337.1 ((bt337.1.length : Int) != (l0.length : Int))) else (bindlelaw11_LinksFirst.j0 k l0 bt337.1 true)))) else ((bindlelaw11_answers.f).bind fun t333 => (some t333)))
set_option maxHeartbeats 8000000 in
set_option maxRecDepth 100000 in
theorem bindlelaw11_LinksFirst.calls (k : Nat) (A0 : Option Addr) (c0 : Nat) (l0 : List (S40)) (A1 : Option Addr) (c1 : Nat) (l1 : List Int) (r : Bool) (w : World) (hT : Aside0 (Tabs w)) (hr0 : Kd.C k40 w A0 l0.length l0) (hc0 : l0.length ≤ c0) (hr1 : Kd.C (Kd.int .u8) w A1 l1.length l1) (hc1 : l1.length ≤ c1) (h : bindlelaw11_LinksFirst.f k l0 l1 = some r) (hTRUE_ : Aside0 (r = true)) :
  Calls Tryd.prog 7 #[.slice A0 l0.length c0, .slice A1 l1.length c1] w fun e w' => e = .returned (.bool r) ∧ Below w.heap.size w w' := by
 have hu40 := Tryd.underlying40
 have HR0 := A0_ hr0
 have HC0 := A0_ hc0
 clear hr0 hc0
 have HR1 := A0_ hr1
 have HC1 := A0_ hc1
 clear hr1 hc1
 have HB := A0_ (Below.refl w.heap.size w)
 have H : ((bindlelaw11_light.f k l0).bind fun t332 => (if t332 = true then ((bindlelaw11_mixed.f k l0 l1).bind fun t334 => ((links_Members.f l0 t334).bind fun bt337 => (if bt337.2 = 0 then (bindlelaw11_LinksFirst.j0 k l0 bt337.1 ((bt337.1.length : Int) != (l0.length : Int))) else (bindlelaw11_LinksFirst.j0 k l0 bt337.1 true)))) else ((bindlelaw11_answers.f).bind fun t333 => (some t333)))) = some r := h
 clear h
 replace H := Option.bind_eq_some_iff.mp H
 obtain ⟨t332, A30, H⟩ := H
 replace H : (if t332 = true then ((bindlelaw11_mixed.f k l0 l1).bind fun t334 => ((links_Members.f l0 t334).bind fun bt337 => (if bt337.2 = 0 then (bindlelaw11_LinksFirst.j0 k l0 bt337.1 ((bt337.1.length : Int) != (l0.length : Int))) else (bindlelaw11_LinksFirst.j0 k l0 bt337.1 true)))) else ((bindlelaw11_answers.f).bind fun t333 => (some t333))) = some r := H
 have A3 := A0_ A30
 clear A30
 by_cases c4 : t332 = true
 rotate_left
 ·replace c4 := Bool.eq_false_iff.mpr c4
  subst c4
  have H1 : ((bindlelaw11_answers.f).bind fun t333 => (some t333)) = some r := by rw [if_neg (show ¬ (false = true) by decide)] at H; exact H
  clear H
  have H := H1
  clear H1
  replace H := Option.bind_eq_some_iff.mp H
  obtain ⟨t333, A750, H⟩ := H
  replace H : (some t333) = some r := H
  have A75 := A0_ A750
  clear A750
  obtain rfl := Option.some.inj H
  go_enter Tryd.func7, Tryd.ntmps7
  go_wp2_with (first | (go_at_call 14; (with_reducible refine (bindlelaw11_light.calls k _ _ l0 false _ ?side1 ?side2 A3.out).mono ?_); (case side1 => exact wc_ HR0.out); (case side2 => exact HC0.out); rintro e w76 ⟨rfl, hb⟩; have n0_ := A0_ (below_step (wb_ HB.out) hb); clear HB; have HB := n0_; clear n0_; (try clear hb); (try clear hb2); (try clear hk); (try clear hi)) | (go_at_call 15; (with_reducible refine (bindlelaw11_answers.calls  t333 _ ?side1 A75.out).mono ?_); (case side1 => exact A0_ (Tabs.below hT.out (wb_ HB.out))); rintro e w77 ⟨rfl, hb⟩; have n0_ := A0_ (below_step (wb_ HB.out) hb); clear HB; have HB := n0_; clear n0_; (try clear hb); (try clear hb2); (try clear hk); (try clear hi)))
  repeat (go_quiet (first | (go_at_call 14; (with_reducible refine (bindlelaw11_light.calls k _ _ l0 false _ ?side1 ?side2 A3.out).mono ?_); (case side1 => exact wc_ HR0.out); (case side2 => exact HC0.out); rintro e w76 ⟨rfl, hb⟩; have n0_ := A0_ (below_step (wb_ HB.out) hb); clear HB; have HB := n0_; clear n0_; (try clear hb); (try clear hb2); (try clear hk); (try clear hi)) | (go_at_call 15; (with_reducible refine (bindlelaw11_answers.calls  t333 _ ?side1 A75.out).mono ?_); (case side1 => exact A0_ (Tabs.below hT.out (wb_ HB.out))); rintro e w77 ⟨rfl, hb⟩; have n0_ := A0_ (below_step (wb_ HB.out) hb); clear HB; have HB := n0_; clear n0_; (try clear hb); (try clear hb2); (try clear hk); (try clear hi))); try go_wp2_with (first | (go_at_call 14; (with_reducible refine (bindlelaw11_light.calls k _ _ l0 false _ ?side1 ?side2 A3.out).mono ?_); (case side1 => exact wc_ HR0.out); (case side2 => exact HC0.out); rintro e w76 ⟨rfl, hb⟩; have n0_ := A0_ (below_step (wb_ HB.out) hb); clear HB; have HB := n0_; clear n0_; (try clear hb); (try clear hb2); (try clear hk); (try clear hi)) | (go_at_call 15; (with_reducible refine (bindlelaw11_answers.calls  t333 _ ?side1 A75.out).mono ?_); (case side1 => exact A0_ (Tabs.below hT.out (wb_ HB.out))); rintro e w77 ⟨rfl, hb⟩; have n0_ := A0_ (below_step (wb_ HB.out) hb); clear HB; have HB := n0_; clear n0_; (try clear hb); (try clear hb2); (try clear hk); (try clear hi))))
  go_ret
  exact ⟨we_, wb_ HB.out⟩
 subst c4
 have H1 : ((bindlelaw11_mixed.f k l0 l1).bind fun t334 => ((links_Members.f l0 t334).bind fun bt337 => (if bt337.2 = 0 then (bindlelaw11_LinksFirst.j0 k l0 bt337.1 ((bt337.1.length : Int) != (l0.length : Int))) else (bindlelaw11_LinksFirst.j0 k l0 bt337.1 true)))) = some r := by rw [if_pos rfl] at H; exact H
 clear H
 have H := H1
 clear H1
 replace H := Option.bind_eq_some_iff.mp H
 obtain ⟨t334, A50, H⟩ := H
 replace H : ((links_Members.f l0 t334).bind fun bt337 => (if bt337.2 = 0 then (bindlelaw11_LinksFirst.j0 k l0 bt337.1 ((bt337.1.length : Int) != (l0.length : Int))) else (bindlelaw11_LinksFirst.j0 k l0 bt337.1 true))) = some r := H
 have A5 := A0_ A50
 clear A50
 replace H := Option.bind_eq_some_iff.mp H
 obtain ⟨⟨t337, t340⟩, A60, H⟩ := H
 replace H : (if t340 = 0 then (bindlelaw11_LinksFirst.j0 k l0 t337 ((t337.length : Int) != (l0.length : Int))) else (bindlelaw11_LinksFirst.j0 k l0 t337 true)) = some r := H
 have A6 := A0_ A60
 clear A60
 have HC7 := A0_ H
 clear H
 go_enter Tryd.func7, Tryd.ntmps7
 go_upto_region 4 with (first | (go_at_call 14; (with_reducible refine (bindlelaw11_light.calls k _ _ l0 true _ ?side1 ?side2 A3.out).mono ?_); (case side1 => exact wc_ HR0.out); (case side2 => exact HC0.out); rintro e w8 ⟨rfl, hb⟩; have n0_ := A0_ (below_step (wb_ HB.out) hb); clear HB; have HB := n0_; clear n0_; (try clear hb); (try clear hb2); (try clear hk); (try clear hi)) | (go_at_call 16; (with_reducible refine (bindlelaw11_mixed.calls k _ _ l0 _ _ l1 t334 _ ?side1 ?side2 ?side3 ?side4 A5.out).mono ?_); (case side1 => exact wc_ (Kd.C_below HR0.out HB.out)); (case side2 => exact HC0.out); (case side3 => exact wc_ (Kd.C_below HR1.out HB.out)); (case side4 => exact HC1.out); rintro e w9 ⟨v335, rfl, ho0, hb⟩; have n0_ := A0_ (Kd.R_lower ho0 (below_size (wb_ HB.out))); have n1_ := A0_ (below_step (wb_ HB.out) hb); clear HB; have HO336 := n0_; have HB := n1_; clear n0_ n1_; (try clear hb); (try clear hb2); (try clear hk); (try clear hi); (try clear ho0); obtain ⟨Ao10, co10, eo10⟩ := Kd.R_slice HO336.out; subst eo10) | (go_at_call 17; (with_reducible refine (links_Members.calls _ _ l0 _ _ t334 t337 t340 _ ?side1 ?side2 ?side3 ?side4 A6.out).mono ?_); (case side1 => exact wc_ (Kd.C_below HR0.out HB.out)); (case side2 => exact HC0.out); (case side3 => exact wc_ (Kd.R_reads' HO336.out).2.2); (case side4 => exact (Kd.R_reads' HO336.out).2.1); rintro e w11 ⟨v338, rfl, ho0, hb⟩; have n0_ := A0_ (Rb_ (wR_ HO336.out) hb); have n1_ := A0_ (Kd.V_lower (Kd.V_mono (ok' := fun k_ => some k_ ≠ (.slice Ao10 t334.length co10 : Value).ownBlock) ho0 (fun k_ hk_ => (Kd.fresh' (Kd.R_lt (wR_ HO336.out)) k_ hk_))) (below_size (wb_ HB.out))); have n2_ := A0_ (below_step (wb_ HB.out) hb); clear HO336; clear HB; have HO336 := n0_; have HO339 := n1_; have HB := n2_; clear n0_ n1_ n2_; (try clear hb); (try clear hb2); (try clear hk); (try clear hi); (try clear ho0)))
 repeat (go_quiet (first | (go_at_call 14; (with_reducible refine (bindlelaw11_light.calls k _ _ l0 true _ ?side1 ?side2 A3.out).mono ?_); (case side1 => exact wc_ HR0.out); (case side2 => exact HC0.out); rintro e w8 ⟨rfl, hb⟩; have n0_ := A0_ (below_step (wb_ HB.out) hb); clear HB; have HB := n0_; clear n0_; (try clear hb); (try clear hb2); (try clear hk); (try clear hi)) | (go_at_call 16; (with_reducible refine (bindlelaw11_mixed.calls k _ _ l0 _ _ l1 t334 _ ?side1 ?side2 ?side3 ?side4 A5.out).mono ?_); (case side1 => exact wc_ (Kd.C_below HR0.out HB.out)); (case side2 => exact HC0.out); (case side3 => exact wc_ (Kd.C_below HR1.out HB.out)); (case side4 => exact HC1.out); rintro e w9 ⟨v335, rfl, ho0, hb⟩; have n0_ := A0_ (Kd.R_lower ho0 (below_size (wb_ HB.out))); have n1_ := A0_ (below_step (wb_ HB.out) hb); clear HB; have HO336 := n0_; have HB := n1_; clear n0_ n1_; (try clear hb); (try clear hb2); (try clear hk); (try clear hi); (try clear ho0); obtain ⟨Ao10, co10, eo10⟩ := Kd.R_slice HO336.out; subst eo10) | (go_at_call 17; (with_reducible refine (links_Members.calls _ _ l0 _ _ t334 t337 t340 _ ?side1 ?side2 ?side3 ?side4 A6.out).mono ?_); (case side1 => exact wc_ (Kd.C_below HR0.out HB.out)); (case side2 => exact HC0.out); (case side3 => exact wc_ (Kd.R_reads' HO336.out).2.2); (case side4 => exact (Kd.R_reads' HO336.out).2.1); rintro e w11 ⟨v338, rfl, ho0, hb⟩; have n0_ := A0_ (Rb_ (wR_ HO336.out) hb); have n1_ := A0_ (Kd.V_lower (Kd.V_mono (ok' := fun k_ => some k_ ≠ (.slice Ao10 t334.length co10 : Value).ownBlock) ho0 (fun k_ hk_ => (Kd.fresh' (Kd.R_lt (wR_ HO336.out)) k_ hk_))) (below_size (wb_ HB.out))); have n2_ := A0_ (below_step (wb_ HB.out) hb); clear HO336; clear HB; have HO336 := n0_; have HO339 := n1_; have HB := n2_; clear n0_ n1_ n2_; (try clear hb); (try clear hb2); (try clear hk); (try clear hi); (try clear ho0))); go_upto_region 4 with (first | (go_at_call 14; (with_reducible refine (bindlelaw11_light.calls k _ _ l0 true _ ?side1 ?side2 A3.out).mono ?_); (case side1 => exact wc_ HR0.out); (case side2 => exact HC0.out); rintro e w8 ⟨rfl, hb⟩; have n0_ := A0_ (below_step (wb_ HB.out) hb); clear HB; have HB := n0_; clear n0_; (try clear hb); (try clear hb2); (try clear hk); (try clear hi)) | (go_at_call 16; (with_reducible refine (bindlelaw11_mixed.calls k _ _ l0 _ _ l1 t334 _ ?side1 ?side2 ?side3 ?side4 A5.out).mono ?_); (case side1 => exact wc_ (Kd.C_below HR0.out HB.out)); (case side2 => exact HC0.out); (case side3 => exact wc_ (Kd.C_below HR1.out HB.out)); (case side4 => exact HC1.out); rintro e w9 ⟨v335, rfl, ho0, hb⟩; have n0_ := A0_ (Kd.R_lower ho0 (below_size (wb_ HB.out))); have n1_ := A0_ (below_step (wb_ HB.out) hb); clear HB; have HO336 := n0_; have HB := n1_; clear n0_ n1_; (try clear hb); (try clear hb2); (try clear hk); (try clear hi); (try clear ho0); obtain ⟨Ao10, co10, eo10⟩ := Kd.R_slice HO336.out; subst eo10) | (go_at_call 17; (with_reducible refine (links_Members.calls _ _ l0 _ _ t334 t337 t340 _ ?side1 ?side2 ?side3 ?side4 A6.out).mono ?_); (case side1 => exact wc_ (Kd.C_below HR0.out HB.out)); (case side2 => exact HC0.out); (case side3 => exact wc_ (Kd.R_reads' HO336.out).2.2); (case side4 => exact (Kd.R_reads' HO336.out).2.1); rintro e w11 ⟨v338, rfl, ho0, hb⟩; have n0_ := A0_ (Rb_ (wR_ HO336.out) hb); have n1_ := A0_ (Kd.V_lower (Kd.V_mono (ok' := fun k_ => some k_ ≠ (.slice Ao10 t334.length co10 : Value).ownBlock) ho0 (fun k_ hk_ => (Kd.fresh' (Kd.R_lt (wR_ HO336.out)) k_ hk_))) (below_size (wb_ HB.out))); have n2_ := A0_ (below_step (wb_ HB.out) hb); clear HO336; clear HB; have HO336 := n0_; have HO339 := n1_; have HB := n2_; clear n0_ n1_ n2_; (try clear hb); (try clear hb2); (try clear hk); (try clear hi); (try clear ho0))))
 (try simp only [Act.put, List.setIfInBounds_toArray, List.set_cons_zero, List.set_cons_succ])
 go_cut [34] (fun v34 wc => ∃ (kq : Nat) (x34_6 : Bool), v34 = .bool x34_6 ∧ Aside0 (bindlelaw11_LinksFirst.j0 kq l0 t337 x34_6 = some r) ∧ Aside0 (kq ≤ k) ∧ Aside0 (Kd.V k45 45 wc w.heap.size (fun _ => True) v338 t337) ∧ Aside0 (Below w.heap.size w wc))
 case first =>
  have H := HC7.out
  clear HC7
  by_cases c12 : t340 = 0
  rotate_left
  ·rw [if_neg c12] at H
   have c12b0 : (t340 == 0) = false := beq_eq_false_iff_ne.mpr c12
   have c12b1 : (t340 != 0) = true := bne_iff_ne.mpr c12
   (first | rw [c12b0] | (simp only [i64_w, i32_w]; rw [c12b0]) | skip)
   have H' := A0_ H
   clear H
   go_wp2
   repeat (go_quiet (fail); try go_wp2)
   go_meet
   case rel => exact ⟨_, (true), wr_, H', ⟨by first | omega | exact Nat.le_refl _⟩, ⟨by (with_reducible repeat (first | apply Va_ | apply VN_ | apply V1_)); exact Kd.V_mono HO339.out (fun _ hk => trivial)⟩, ⟨wb_ HB.out⟩⟩
  rw [if_pos c12] at H
  have c12b0 : (t340 == 0) = true := beq_iff_eq.mpr c12
  have c12b1 : (t340 != 0) = false := bne_eq_false_iff_eq.mpr c12
  clear c12
  (first | rw [c12b0] | (simp only [i64_w, i32_w]; rw [c12b0]) | skip)
  have H' := A0_ H
  clear H
  obtain ⟨Ao13, co13, eo13⟩ := Kd.V_slice HO339.out
  subst eo13
  go_wp2
  repeat (go_quiet (fail); try go_wp2)
  go_meet
  case rel => exact ⟨_, (((t337.length : Int) != (l0.length : Int))), wr_, H', ⟨by first | omega | exact Nat.le_refl _⟩, ⟨by (with_reducible repeat (first | apply Va_ | apply VN_ | apply V1_)); exact Kd.V_mono HO339.out (fun _ hk => trivial)⟩, ⟨wb_ HB.out⟩⟩
 case rest =>
  clear HC7
  try clear c1
  try clear p2
  try clear c4
  try clear c7
  try clear c12
  try clear c12b0
  try clear c12b1
  obtain ⟨kq, x34_6, rfl, HA, HJ6, HO_5, HB⟩ := hcut
  cases kq with
  | zero => exact absurd HA.out (by simp [bindlelaw11_LinksFirst.j0])
  | succ kj6 =>
   have H := HA.out
   clear HA
   simp only [bindlelaw11_LinksFirst.j0] at H
   by_cases c14 : x34_6 = true
   ·subst c14
    have H1 : (some false) = some r := by rw [if_pos rfl] at H; exact H
    clear H
    have H := H1
    clear H1
    exact absurd ((Option.some.inj H).trans hTRUE_.out) (by decide)
   replace c14 := Bool.eq_false_iff.mpr c14
   subst c14
   have H1 : (bindlelaw11_LinksFirst.l0 kj6 l0 t337 0) = some r := by rw [if_neg (show ¬ (false = true) by decide)] at H; exact H
   clear H
   have H := H1
   clear H1
   have H' := A0_ H
   clear H
   go_wp2
   repeat (go_quiet (fail); try go_wp2)
   go_loopg [7] kj6 (fun kq v7 w' => ∃ (x7_2 : Int), v7 = .int .i64 x7_2 ∧ Aside0 (bindlelaw11_LinksFirst.l0 kq l0 t337 x7_2 = some r) ∧ Aside0 (kq ≤ kj6) ∧ Aside0 (Kd.V k45 45 w' w.heap.size (fun _ => True) v338 t337) ∧ Aside0 (Below w.heap.size w w'))
   case atStart => exact ⟨(0), wr_, H', ⟨Nat.le_refl _⟩, ⟨wV_ HO_5.out⟩, ⟨wb_ HB.out⟩⟩
   case round =>
    clear H'
    try clear c1
    try clear p2
    try clear c4
    try clear c7
    try clear c12
    try clear c12b0
    try clear c12b1
    try clear c14
    try clear p2
    obtain ⟨x7_2, rfl, HA, HK2, HO_5, HB⟩ := hrel
    cases gk with
    | zero => exact absurd HA.out (by simp [bindlelaw11_LinksFirst.l0])
    | succ k2 =>
     have H := HA.out
     clear HA
     simp only [bindlelaw11_LinksFirst.l0] at H
     by_cases c15 : x7_2 < (t337.length : Int)
     rotate_left
     ·rw [if_neg c15] at H
      have c15b0 : decide (x7_2 < (t337.length : Int)) = false := decide_eq_false c15
      clear c15
      replace H := Option.bind_eq_some_iff.mp H
      obtain ⟨t341, A720, H⟩ := H
      replace H : (some t341) = some r := H
      have A72 := A0_ A720
      clear A720
      obtain rfl := Option.some.inj H
      obtain ⟨Ao73, co73, eo73⟩ := Kd.V_slice HO_5.out
      subst eo73
      go_wp2_with (first | (go_at_call 15; (with_reducible refine (bindlelaw11_answers.calls  t341 _ ?side1 A72.out).mono ?_); (case side1 => exact A0_ (Tabs.below hT.out (wb_ HB.out))); rintro e w74 ⟨rfl, hb⟩; have n0_ := A0_ (Vb_ (wV_ HO_5.out) hb); have n1_ := A0_ (below_step (wb_ HB.out) hb); clear HO_5; clear HB; have HO_5 := n0_; have HB := n1_; clear n0_ n1_; (try clear hb); (try clear hb2); (try clear hk); (try clear hi)))
      repeat (go_quiet (first | (go_at_call 15; (with_reducible refine (bindlelaw11_answers.calls  t341 _ ?side1 A72.out).mono ?_); (case side1 => exact A0_ (Tabs.below hT.out (wb_ HB.out))); rintro e w74 ⟨rfl, hb⟩; have n0_ := A0_ (Vb_ (wV_ HO_5.out) hb); have n1_ := A0_ (below_step (wb_ HB.out) hb); clear HO_5; clear HB; have HO_5 := n0_; have HB := n1_; clear n0_ n1_; (try clear hb); (try clear hb2); (try clear hk); (try clear hi))); try go_wp2_with (first | (go_at_call 15; (with_reducible refine (bindlelaw11_answers.calls  t341 _ ?side1 A72.out).mono ?_); (case side1 => exact A0_ (Tabs.below hT.out (wb_ HB.out))); rintro e w74 ⟨rfl, hb⟩; have n0_ := A0_ (Vb_ (wV_ HO_5.out) hb); have n1_ := A0_ (below_step (wb_ HB.out) hb); clear HO_5; clear HB; have HO_5 := n0_; have HB := n1_; clear n0_ n1_; (try clear hb); (try clear hb2); (try clear hk); (try clear hi))))
      go_ret
      exact ⟨we_, wb_ HB.out⟩
     rw [if_pos c15] at H
     have c15b0 : decide (x7_2 < (t337.length : Int)) = true := decide_eq_true c15
     clear c15
     by_cases c16 : 0 ≤ x7_2
     rotate_left
     ·rw [if_neg c16] at H
      exact absurd H (by simp)
     rw [if_pos c16] at H
     have c16b0 : decide (0 ≤ x7_2) = true := decide_eq_true c16
     clear c16
     replace H := Option.bind_eq_some_iff.mp H
     obtain ⟨⟨t343, t344, t345, t346, t347, t348, t349, t350, t351, t354⟩, A170, H⟩ := H
     replace H : (bindlelaw11_LinksFirst.l1 k2 l0 t337 x7_2 x7_2 (wrap64 (x7_2 - 1)) t343 t344 t345 t346 t347 t348 t349 t350 t351) = some r := H
     have A17 := A0_ A170
     clear A170
     have H' := A0_ H
     clear H
     obtain ⟨Ao18, co18, eo18⟩ := Kd.V_slice HO_5.out
     subst eo18
     have p342 : 0 ≤ (x7_2 : Int) := wd_
     have q342 : x7_2 < (t337.length : Int) := wd_
     obtain ⟨ad342, A342_7, c342_7, e342, hx342_0, hx342_1, hx342_2, hx342_3, hx342_4, hx342_5, hx342_6, hx342_7, hl342_7, hi342_7⟩ := at_T45 (Kd.V_reads' HO_5.out).2.2 x7_2 p342 q342
     cases e342
     obtain ⟨ce342, hce342, hMe342, hcc342⟩ := Kd.V_get HO_5.out z45 x7_2 p342 (by first | exact q342 | exact wd_ | (have e_ := (Kd.V_reads' HO_5.out).1; omega))
     obtain ⟨ua342_7, uc342_7, rfl, ul342_7, ge342_7⟩ := k45_openF hMe342
     have hv342_7 := hcc342 7 _ rfl
     rw [add_field _ _ 7 (by omega)] at hv342_7
     replace hv342_7 := Option.some.inj (hv342_7.symm.trans hx342_7)
     injection hv342_7 with hva_ hvn_ hvc_
     rw [hva_] at ge342_7
     rw [hvc_] at ul342_7
     have HL342_7 := A0_ (show Kd.V (Kd.int .u8) 5 _ w.heap.size _ _ ((rd_T45 t337 x7_2).f4) from Kd.V_mk ul342_7 ge342_7)
     clear hva_ hvn_ hvc_ ge342_7 ul342_7
     clear hcc342 hce342
     have HR342_7 := A0_ hi342_7
     have HC342_7 := A0_ hl342_7
     clear hi342_7 hl342_7
     replace p342 := eq_true p342
     replace q342 := eq_true q342
     go_wp2_with (first | (go_at_call 23; (with_reducible refine (bindleref08_Find.calls k2 (fun k_ => k_ < w.heap.size) _ _ l0 ((rd_T45 t337 x7_2).f0) t343 t344 t345 t346 t347 t348 t349 t350 t351 t354 _ ?side1 A17.out).mono ?_); (case side1 => exact Kd.V_mk HC0.out (Kd.F_below (Kd.C_F k40_heap HR0.out) (wb_ HB.out))); rintro e w19 ⟨v352, rfl, ho0, hb⟩; have n0_ := A0_ (Vb_ (wV_ HO_5.out) hb); have n1_ := A0_ (Vb_ (wV_ HL342_7.out) hb); have n2_ := A0_ (Kd.V_lower (Kd.V_mono (ok' := fun k_ => True) ho0 (fun k_ hk_ => trivial)) (below_size (wb_ HB.out))); have n3_ := A0_ (Kd.C_below (by repeat (first | (with_reducible exact HR342_7.out) | (with_reducible refine Ca_ ?_ _) | (with_reducible refine CN_ ?_ _) | (with_reducible refine C1_ ?_) | exact HR342_7.out)) hb); have n4_ := A0_ (below_step (wb_ HB.out) hb); clear HO_5; clear HL342_7; clear HR342_7; clear HB; have HO_5 := n0_; have HL342_7 := n1_; have HO353 := n2_; have HR342_7 := n3_; have HB := n4_; clear n0_ n1_ n2_ n3_ n4_; (try clear hb); (try clear hb2); (try clear hk); (try clear hi); (try clear ho0)) | ((with_reducible refine gate_dst (N := 8) rfl ?_); (try (refine gate_guard (by rfl) ?_; dsimp only)); refine box_event ?hg (N := 8) ?hd (cs := #[.string (⟨#[]⟩ : ByteArray), .string (⟨#[]⟩ : ByteArray), .string (⟨#[]⟩ : ByteArray), .int .u8 0, .int .i64 0, .int .i64 0, .int .i64 0, .int .i64 0, .slice none 0 0]) (t := 40) ?hr ?_; (case hd => rfl); (case hg => rfl); (case hr => first | (go_simp; done) | (go_simp; rfl)); intro gb355 hg w20 hbox hb; have n0_ := A0_ (Vb_ (Kd.V_elderB (wV_ HO_5.out) gb355 (Nat.le_of_eq hg.symm)) hb); have n1_ := A0_ (Vb_ (Kd.V_elderB (wV_ HL342_7.out) gb355 (Nat.le_of_eq hg.symm)) hb); have n2_ := A0_ (Vb_ (Kd.V_elderB (wV_ HO353.out) gb355 (Nat.le_of_eq hg.symm)) hb); have n3_ := A0_ (Kd.C_below (by repeat (first | (with_reducible exact HR342_7.out) | (with_reducible refine Ca_ ?_ _) | (with_reducible refine CN_ ?_ _) | (with_reducible refine C1_ ?_) | exact HR342_7.out)) hb); have n4_ := A0_ (below_step (wb_ HB.out) hb); have n5_ := A0_ (hbox); have n6_ := A0_ ((by rw [hg]; exact (below_size (wb_ HB.out)) : w.heap.size ≤ gb355)); have n7_ := A0_ ((by rw [hg]; exact (below_size (wb_ HB.out)) : w.heap.size ≤ gb355)); clear HO_5; clear HL342_7; clear HO353; clear HR342_7; clear HB; have HO_5 := n0_; have HL342_7 := n1_; have HO353 := n2_; have HR342_7 := n3_; have HB := n4_; have BK355 := n5_; have GW355 := n6_; have GE355 := n7_; clear n0_ n1_ n2_ n3_ n4_ n5_ n6_ n7_; clear hb hbox hg; have hcz21_0 : w20.cell? ⟨gb355, 0, none⟩ = some (.string (⟨#[]⟩ : ByteArray)) := (bc_ BK355.out 0).trans rfl; have hcz21_1 : w20.cell? ⟨gb355, 1, none⟩ = some (.string (⟨#[]⟩ : ByteArray)) := (bc_ BK355.out 1).trans rfl; have hcz21_2 : w20.cell? ⟨gb355, 2, none⟩ = some (.string (⟨#[]⟩ : ByteArray)) := (bc_ BK355.out 2).trans rfl; have hcz21_3 : w20.cell? ⟨gb355, 3, none⟩ = some (.int .u8 0) := (bc_ BK355.out 3).trans rfl; have hcz21_4 : w20.cell? ⟨gb355, 4, none⟩ = some (.int .i64 0) := (bc_ BK355.out 4).trans rfl; have hcz21_5 : w20.cell? ⟨gb355, 5, none⟩ = some (.int .i64 0) := (bc_ BK355.out 5).trans rfl; have hcz21_6 : w20.cell? ⟨gb355, 6, none⟩ = some (.int .i64 0) := (bc_ BK355.out 6).trans rfl; have hcz21_7 : w20.cell? ⟨gb355, 7, none⟩ = some (.int .i64 0) := (bc_ BK355.out 7).trans rfl; have hcz21_8 : w20.cell? ⟨gb355, 8, none⟩ = some (.slice none 0 0) := (bc_ BK355.out 8).trans rfl; have hfz21_0 := bf_ BK355.out 0; have hfz21_1 := bf_ BK355.out 1; have hfz21_2 := bf_ BK355.out 2; have hfz21_3 := bf_ BK355.out 3; have hfz21_4 := bf_ BK355.out 4; have hfz21_5 := bf_ BK355.out 5; have hfz21_6 := bf_ BK355.out 6; have hfz21_7 := bf_ BK355.out 7; have hfz21_8 := bf_ BK355.out 8; obtain ⟨Ao22, co22, eo22⟩ := Kd.V_slice HO353.out; subst eo22))
     repeat (go_quiet (first | (go_at_call 23; (with_reducible refine (bindleref08_Find.calls k2 (fun k_ => k_ < w.heap.size) _ _ l0 ((rd_T45 t337 x7_2).f0) t343 t344 t345 t346 t347 t348 t349 t350 t351 t354 _ ?side1 A17.out).mono ?_); (case side1 => exact Kd.V_mk HC0.out (Kd.F_below (Kd.C_F k40_heap HR0.out) (wb_ HB.out))); rintro e w19 ⟨v352, rfl, ho0, hb⟩; have n0_ := A0_ (Vb_ (wV_ HO_5.out) hb); have n1_ := A0_ (Vb_ (wV_ HL342_7.out) hb); have n2_ := A0_ (Kd.V_lower (Kd.V_mono (ok' := fun k_ => True) ho0 (fun k_ hk_ => trivial)) (below_size (wb_ HB.out))); have n3_ := A0_ (Kd.C_below (by repeat (first | (with_reducible exact HR342_7.out) | (with_reducible refine Ca_ ?_ _) | (with_reducible refine CN_ ?_ _) | (with_reducible refine C1_ ?_) | exact HR342_7.out)) hb); have n4_ := A0_ (below_step (wb_ HB.out) hb); clear HO_5; clear HL342_7; clear HR342_7; clear HB; have HO_5 := n0_; have HL342_7 := n1_; have HO353 := n2_; have HR342_7 := n3_; have HB := n4_; clear n0_ n1_ n2_ n3_ n4_; (try clear hb); (try clear hb2); (try clear hk); (try clear hi); (try clear ho0)) | ((with_reducible refine gate_dst (N := 8) rfl ?_); (try (refine gate_guard (by rfl) ?_; dsimp only)); refine box_event ?hg (N := 8) ?hd (cs := #[.string (⟨#[]⟩ : ByteArray), .string (⟨#[]⟩ : ByteArray), .string (⟨#[]⟩ : ByteArray), .int .u8 0, .int .i64 0, .int .i64 0, .int .i64 0, .int .i64 0, .slice none 0 0]) (t := 40) ?hr ?_; (case hd => rfl); (case hg => rfl); (case hr => first | (go_simp; done) | (go_simp; rfl)); intro gb355 hg w20 hbox hb; have n0_ := A0_ (Vb_ (Kd.V_elderB (wV_ HO_5.out) gb355 (Nat.le_of_eq hg.symm)) hb); have n1_ := A0_ (Vb_ (Kd.V_elderB (wV_ HL342_7.out) gb355 (Nat.le_of_eq hg.symm)) hb); have n2_ := A0_ (Vb_ (Kd.V_elderB (wV_ HO353.out) gb355 (Nat.le_of_eq hg.symm)) hb); have n3_ := A0_ (Kd.C_below (by repeat (first | (with_reducible exact HR342_7.out) | (with_reducible refine Ca_ ?_ _) | (with_reducible refine CN_ ?_ _) | (with_reducible refine C1_ ?_) | exact HR342_7.out)) hb); have n4_ := A0_ (below_step (wb_ HB.out) hb); have n5_ := A0_ (hbox); have n6_ := A0_ ((by rw [hg]; exact (below_size (wb_ HB.out)) : w.heap.size ≤ gb355)); have n7_ := A0_ ((by rw [hg]; exact (below_size (wb_ HB.out)) : w.heap.size ≤ gb355)); clear HO_5; clear HL342_7; clear HO353; clear HR342_7; clear HB; have HO_5 := n0_; have HL342_7 := n1_; have HO353 := n2_; have HR342_7 := n3_; have HB := n4_; have BK355 := n5_; have GW355 := n6_; have GE355 := n7_; clear n0_ n1_ n2_ n3_ n4_ n5_ n6_ n7_; clear hb hbox hg; have hcz21_0 : w20.cell? ⟨gb355, 0, none⟩ = some (.string (⟨#[]⟩ : ByteArray)) := (bc_ BK355.out 0).trans rfl; have hcz21_1 : w20.cell? ⟨gb355, 1, none⟩ = some (.string (⟨#[]⟩ : ByteArray)) := (bc_ BK355.out 1).trans rfl; have hcz21_2 : w20.cell? ⟨gb355, 2, none⟩ = some (.string (⟨#[]⟩ : ByteArray)) := (bc_ BK355.out 2).trans rfl; have hcz21_3 : w20.cell? ⟨gb355, 3, none⟩ = some (.int .u8 0) := (bc_ BK355.out 3).trans rfl; have hcz21_4 : w20.cell? ⟨gb355, 4, none⟩ = some (.int .i64 0) := (bc_ BK355.out 4).trans rfl; have hcz21_5 : w20.cell? ⟨gb355, 5, none⟩ = some (.int .i64 0) := (bc_ BK355.out 5).trans rfl; have hcz21_6 : w20.cell? ⟨gb355, 6, none⟩ = some (.int .i64 0) := (bc_ BK355.out 6).trans rfl; have hcz21_7 : w20.cell? ⟨gb355, 7, none⟩ = some (.int .i64 0) := (bc_ BK355.out 7).trans rfl; have hcz21_8 : w20.cell? ⟨gb355, 8, none⟩ = some (.slice none 0 0) := (bc_ BK355.out 8).trans rfl; have hfz21_0 := bf_ BK355.out 0; have hfz21_1 := bf_ BK355.out 1; have hfz21_2 := bf_ BK355.out 2; have hfz21_3 := bf_ BK355.out 3; have hfz21_4 := bf_ BK355.out 4; have hfz21_5 := bf_ BK355.out 5; have hfz21_6 := bf_ BK355.out 6; have hfz21_7 := bf_ BK355.out 7; have hfz21_8 := bf_ BK355.out 8; obtain ⟨Ao22, co22, eo22⟩ := Kd.V_slice HO353.out; subst eo22)); try go_wp2_with (first | (go_at_call 23; (with_reducible refine (bindleref08_Find.calls k2 (fun k_ => k_ < w.heap.size) _ _ l0 ((rd_T45 t337 x7_2).f0) t343 t344 t345 t346 t347 t348 t349 t350 t351 t354 _ ?side1 A17.out).mono ?_); (case side1 => exact Kd.V_mk HC0.out (Kd.F_below (Kd.C_F k40_heap HR0.out) (wb_ HB.out))); rintro e w19 ⟨v352, rfl, ho0, hb⟩; have n0_ := A0_ (Vb_ (wV_ HO_5.out) hb); have n1_ := A0_ (Vb_ (wV_ HL342_7.out) hb); have n2_ := A0_ (Kd.V_lower (Kd.V_mono (ok' := fun k_ => True) ho0 (fun k_ hk_ => trivial)) (below_size (wb_ HB.out))); have n3_ := A0_ (Kd.C_below (by repeat (first | (with_reducible exact HR342_7.out) | (with_reducible refine Ca_ ?_ _) | (with_reducible refine CN_ ?_ _) | (with_reducible refine C1_ ?_) | exact HR342_7.out)) hb); have n4_ := A0_ (below_step (wb_ HB.out) hb); clear HO_5; clear HL342_7; clear HR342_7; clear HB; have HO_5 := n0_; have HL342_7 := n1_; have HO353 := n2_; have HR342_7 := n3_; have HB := n4_; clear n0_ n1_ n2_ n3_ n4_; (try clear hb); (try clear hb2); (try clear hk); (try clear hi); (try clear ho0)) | ((with_reducible refine gate_dst (N := 8) rfl ?_); (try (refine gate_guard (by rfl) ?_; dsimp only)); refine box_event ?hg (N := 8) ?hd (cs := #[.string (⟨#[]⟩ : ByteArray), .string (⟨#[]⟩ : ByteArray), .string (⟨#[]⟩ : ByteArray), .int .u8 0, .int .i64 0, .int .i64 0, .int .i64 0, .int .i64 0, .slice none 0 0]) (t := 40) ?hr ?_; (case hd => rfl); (case hg => rfl); (case hr => first | (go_simp; done) | (go_simp; rfl)); intro gb355 hg w20 hbox hb; have n0_ := A0_ (Vb_ (Kd.V_elderB (wV_ HO_5.out) gb355 (Nat.le_of_eq hg.symm)) hb); have n1_ := A0_ (Vb_ (Kd.V_elderB (wV_ HL342_7.out) gb355 (Nat.le_of_eq hg.symm)) hb); have n2_ := A0_ (Vb_ (Kd.V_elderB (wV_ HO353.out) gb355 (Nat.le_of_eq hg.symm)) hb); have n3_ := A0_ (Kd.C_below (by repeat (first | (with_reducible exact HR342_7.out) | (with_reducible refine Ca_ ?_ _) | (with_reducible refine CN_ ?_ _) | (with_reducible refine C1_ ?_) | exact HR342_7.out)) hb); have n4_ := A0_ (below_step (wb_ HB.out) hb); have n5_ := A0_ (hbox); have n6_ := A0_ ((by rw [hg]; exact (below_size (wb_ HB.out)) : w.heap.size ≤ gb355)); have n7_ := A0_ ((by rw [hg]; exact (below_size (wb_ HB.out)) : w.heap.size ≤ gb355)); clear HO_5; clear HL342_7; clear HO353; clear HR342_7; clear HB; have HO_5 := n0_; have HL342_7 := n1_; have HO353 := n2_; have HR342_7 := n3_; have HB := n4_; have BK355 := n5_; have GW355 := n6_; have GE355 := n7_; clear n0_ n1_ n2_ n3_ n4_ n5_ n6_ n7_; clear hb hbox hg; have hcz21_0 : w20.cell? ⟨gb355, 0, none⟩ = some (.string (⟨#[]⟩ : ByteArray)) := (bc_ BK355.out 0).trans rfl; have hcz21_1 : w20.cell? ⟨gb355, 1, none⟩ = some (.string (⟨#[]⟩ : ByteArray)) := (bc_ BK355.out 1).trans rfl; have hcz21_2 : w20.cell? ⟨gb355, 2, none⟩ = some (.string (⟨#[]⟩ : ByteArray)) := (bc_ BK355.out 2).trans rfl; have hcz21_3 : w20.cell? ⟨gb355, 3, none⟩ = some (.int .u8 0) := (bc_ BK355.out 3).trans rfl; have hcz21_4 : w20.cell? ⟨gb355, 4, none⟩ = some (.int .i64 0) := (bc_ BK355.out 4).trans rfl; have hcz21_5 : w20.cell? ⟨gb355, 5, none⟩ = some (.int .i64 0) := (bc_ BK355.out 5).trans rfl; have hcz21_6 : w20.cell? ⟨gb355, 6, none⟩ = some (.int .i64 0) := (bc_ BK355.out 6).trans rfl; have hcz21_7 : w20.cell? ⟨gb355, 7, none⟩ = some (.int .i64 0) := (bc_ BK355.out 7).trans rfl; have hcz21_8 : w20.cell? ⟨gb355, 8, none⟩ = some (.slice none 0 0) := (bc_ BK355.out 8).trans rfl; have hfz21_0 := bf_ BK355.out 0; have hfz21_1 := bf_ BK355.out 1; have hfz21_2 := bf_ BK355.out 2; have hfz21_3 := bf_ BK355.out 3; have hfz21_4 := bf_ BK355.out 4; have hfz21_5 := bf_ BK355.out 5; have hfz21_6 := bf_ BK355.out 6; have hfz21_7 := bf_ BK355.out 7; have hfz21_8 := bf_ BK355.out 8; obtain ⟨Ao22, co22, eo22⟩ := Kd.V_slice HO353.out; subst eo22)))
     go_loopg [10, 11] k2 (fun kq v10 v11 w' => ∃ (x10_3 : Int) (x11_3 : Int), v10 = .int .i64 x10_3 ∧ v11 = .int .i64 x11_3 ∧ Aside0 (bindlelaw11_LinksFirst.l1 kq l0 t337 x7_2 x10_3 x11_3 t343 t344 t345 t346 t347 t348 t349 t350 t351 = some r) ∧ Aside0 (kq ≤ k2) ∧ Aside0 (Kd.V k45 45 w' w.heap.size (fun k_ => k_ ≠ gb355) (.slice (some ad342) t337.length co18) t337) ∧ Aside0 (Kd.V (Kd.int .u8) 5 w' w.heap.size (fun k_ => k_ ≠ gb355) (.slice Ao22 t351.length co22) t351) ∧ Aside0 (w'.heap[gb355]? = some (.cells #[.string t343, .string t344, .string t345, .int .u8 t346, .int .i64 t347, .int .i64 t348, .int .i64 t349, .int .i64 t350, (.slice Ao22 t351.length co22)] 40 (0, 0))) ∧ Aside0 (Below w.heap.size w w'))
     case atStart => exact ⟨(x7_2), (wrap64 (x7_2 - 1)), wr_, wr_, H', ⟨Nat.le_refl _⟩, ⟨by (with_reducible repeat (first | apply Va_ | apply VN_ | apply V1_)); exact Kd.V_mono (Kd.V_far (p := ⟨gb355, 8, none⟩) (Kd.V_far (p := ⟨gb355, 7, none⟩) (Kd.V_far (p := ⟨gb355, 6, none⟩) (Kd.V_far (p := ⟨gb355, 5, none⟩) (Kd.V_far (p := ⟨gb355, 4, none⟩) (Kd.V_far (p := ⟨gb355, 3, none⟩) (Kd.V_far (p := ⟨gb355, 2, none⟩) (Kd.V_far (p := ⟨gb355, 1, none⟩) (Kd.V_far (p := ⟨gb355, 0, none⟩) (Kd.V_mono HO_5.out (fun k_ hk => (⟨hk, hk.2⟩ : _ ∧ k_ ≠ gb355))) (fun _ hk => hk.2) (.string t343)) (fun _ hk => hk.2) (.string t344)) (fun _ hk => hk.2) (.string t345)) (fun _ hk => hk.2) (.int .u8 t346)) (fun _ hk => hk.2) (.int .i64 t347)) (fun _ hk => hk.2) (.int .i64 t348)) (fun _ hk => hk.2) (.int .i64 t349)) (fun _ hk => hk.2) (.int .i64 t350)) (fun _ hk => hk.2) (.slice Ao22 t351.length co22)) (fun _ hk => hk.1.2)⟩, ⟨by (with_reducible repeat (first | apply Va_ | apply VN_ | apply V1_)); exact Kd.V_mono (Kd.V_far (p := ⟨gb355, 8, none⟩) (Kd.V_far (p := ⟨gb355, 7, none⟩) (Kd.V_far (p := ⟨gb355, 6, none⟩) (Kd.V_far (p := ⟨gb355, 5, none⟩) (Kd.V_far (p := ⟨gb355, 4, none⟩) (Kd.V_far (p := ⟨gb355, 3, none⟩) (Kd.V_far (p := ⟨gb355, 2, none⟩) (Kd.V_far (p := ⟨gb355, 1, none⟩) (Kd.V_far (p := ⟨gb355, 0, none⟩) (Kd.V_mono HO353.out (fun k_ hk => (⟨hk, hk.2⟩ : _ ∧ k_ ≠ gb355))) (fun _ hk => hk.2) (.string t343)) (fun _ hk => hk.2) (.string t344)) (fun _ hk => hk.2) (.string t345)) (fun _ hk => hk.2) (.int .u8 t346)) (fun _ hk => hk.2) (.int .i64 t347)) (fun _ hk => hk.2) (.int .i64 t348)) (fun _ hk => hk.2) (.int .i64 t349)) (fun _ hk => hk.2) (.int .i64 t350)) (fun _ hk => hk.2) (.slice Ao22 t351.length co22)) (fun _ hk => hk.1.2)⟩, ⟨by (with_reducible repeat (first | refine blk_drewN ?_ _ | refine blk_drew ?_ | refine blk_alloc ?_ _)); refine blk_put (cs := #[.string t343, .string t344, .string t345, .int .u8 t346, .int .i64 t347, .int .i64 t348, .int .i64 t349, .int .i64 t350, .slice none 0 0]) ?_ 8 _ rfl; (with_reducible repeat (first | refine blk_drewN ?_ _ | refine blk_drew ?_ | refine blk_alloc ?_ _)); refine blk_put (cs := #[.string t343, .string t344, .string t345, .int .u8 t346, .int .i64 t347, .int .i64 t348, .int .i64 t349, .int .i64 0, .slice none 0 0]) ?_ 7 _ rfl; (with_reducible repeat (first | refine blk_drewN ?_ _ | refine blk_drew ?_ | refine blk_alloc ?_ _)); refine blk_put (cs := #[.string t343, .string t344, .string t345, .int .u8 t346, .int .i64 t347, .int .i64 t348, .int .i64 0, .int .i64 0, .slice none 0 0]) ?_ 6 _ rfl; (with_reducible repeat (first | refine blk_drewN ?_ _ | refine blk_drew ?_ | refine blk_alloc ?_ _)); refine blk_put (cs := #[.string t343, .string t344, .string t345, .int .u8 t346, .int .i64 t347, .int .i64 0, .int .i64 0, .int .i64 0, .slice none 0 0]) ?_ 5 _ rfl; (with_reducible repeat (first | refine blk_drewN ?_ _ | refine blk_drew ?_ | refine blk_alloc ?_ _)); refine blk_put (cs := #[.string t343, .string t344, .string t345, .int .u8 t346, .int .i64 0, .int .i64 0, .int .i64 0, .int .i64 0, .slice none 0 0]) ?_ 4 _ rfl; (with_reducible repeat (first | refine blk_drewN ?_ _ | refine blk_drew ?_ | refine blk_alloc ?_ _)); refine blk_put (cs := #[.string t343, .string t344, .string t345, .int .u8 0, .int .i64 0, .int .i64 0, .int .i64 0, .int .i64 0, .slice none 0 0]) ?_ 3 _ rfl; (with_reducible repeat (first | refine blk_drewN ?_ _ | refine blk_drew ?_ | refine blk_alloc ?_ _)); refine blk_put (cs := #[.string t343, .string t344, .string (⟨#[]⟩ : ByteArray), .int .u8 0, .int .i64 0, .int .i64 0, .int .i64 0, .int .i64 0, .slice none 0 0]) ?_ 2 _ rfl; (with_reducible repeat (first | refine blk_drewN ?_ _ | refine blk_drew ?_ | refine blk_alloc ?_ _)); refine blk_put (cs := #[.string t343, .string (⟨#[]⟩ : ByteArray), .string (⟨#[]⟩ : ByteArray), .int .u8 0, .int .i64 0, .int .i64 0, .int .i64 0, .int .i64 0, .slice none 0 0]) ?_ 1 _ rfl; (with_reducible repeat (first | refine blk_drewN ?_ _ | refine blk_drew ?_ | refine blk_alloc ?_ _)); refine blk_put (cs := #[.string (⟨#[]⟩ : ByteArray), .string (⟨#[]⟩ : ByteArray), .string (⟨#[]⟩ : ByteArray), .int .u8 0, .int .i64 0, .int .i64 0, .int .i64 0, .int .i64 0, .slice none 0 0]) ?_ 0 _ rfl; (with_reducible repeat (first | refine blk_drewN ?_ _ | refine blk_drew ?_ | refine blk_alloc ?_ _)); exact BK355.out⟩, ⟨wb1_ HB.out GE355.out⟩⟩
     case round =>
      clear H'
      try clear c1
      try clear p2
      try clear c3
      try clear p3
      try clear q3
      try clear hx3
      try clear c4
      try clear p6
      try clear c7
      try clear c12
      try clear c12b0
      try clear c12b1
      try clear c14
      try clear c15
      try clear c15b0
      try clear c16
      try clear c16b0
      try clear hcz21_0
      try clear hcz21_1
      try clear hcz21_2
      try clear hcz21_3
      try clear hcz21_4
      try clear hcz21_5
      try clear hcz21_6
      try clear hcz21_7
      try clear hcz21_8
      try clear hfz21_0
      try clear hfz21_1
      try clear hfz21_2
      try clear hfz21_3
      try clear hfz21_4
      try clear hfz21_5
      try clear hfz21_6
      try clear hfz21_7
      try clear hfz21_8
      try clear hx342_0
      try clear hx342_1
      try clear hx342_2
      try clear hx342_3
      try clear hx342_4
      try clear hx342_5
      try clear hx342_6
      try clear hx342_7
      try clear p2
      try clear p342
      try clear q342
      obtain ⟨x10_3, x11_3, rfl, rfl, HA, HK3, HO_5, HO_356008, BK355, HB⟩ := hrel
      cases gk with
      | zero => exact absurd HA.out (by simp [bindlelaw11_LinksFirst.l1])
      | succ k3 =>
       have H := HA.out
       clear HA
       simp only [bindlelaw11_LinksFirst.l1] at H
       by_cases c23 : x11_3 ≥ 0
       rotate_left
       ·rw [if_neg c23] at H
        have c23b0 : decide (0 ≤ x11_3) = false := decide_eq_false c23
        clear c23
        by_cases c54 : x10_3 < x7_2
        rotate_left
        ·rw [if_neg c54] at H
         have c54b0 : decide (x10_3 < x7_2) = false := decide_eq_false c54
         clear c54
         by_cases c66 : x10_3 = x7_2
         rotate_left
         ·rw [if_neg c66] at H
          have c66b0 : (x10_3 == x7_2) = false := beq_eq_false_iff_ne.mpr c66
          have c66b1 : (x10_3 != x7_2) = true := bne_iff_ne.mpr c66
          have H' := A0_ H
          clear H
          go_wp2
          repeat (go_quiet (fail); try go_wp2)
          go_roundg k3
          case measure => have := HJ6.out; have := HK2.out; have := HK3.out; omega
          case rel => exact ⟨(wrap64 (x7_2 + 1)), wr_, H', ⟨by have := HJ6.out; have := HK2.out; have := HK3.out; omega⟩, ⟨by (with_reducible repeat (first | apply Va_ | apply VN_ | apply V1_)); exact Kd.V_mono HO_5.out (fun _ hk => trivial)⟩, ⟨wb1_ HB.out GE355.out⟩⟩
         rw [if_pos c66] at H
         have c66b0 : (x10_3 == x7_2) = true := beq_iff_eq.mpr c66
         have c66b1 : (x10_3 != x7_2) = false := bne_eq_false_iff_eq.mpr c66
         clear c66
         by_cases c67 : 0 ≤ x7_2
         rotate_left
         ·rw [if_neg c67] at H
          exact absurd H (by simp)
         rw [if_pos c67] at H
         have c67b0 : decide (0 ≤ x7_2) = true := decide_eq_true c67
         clear c67
         by_cases c68 : x7_2 < (t337.length : Int)
         rotate_left
         ·rw [if_neg c68] at H
          exact absurd H (by simp)
         rw [if_pos c68] at H
         have c68b0 : decide (x7_2 < (t337.length : Int)) = true := decide_eq_true c68
         clear c68
         by_cases c69 : ((rd_T45 t337 x7_2).f2) = t346
         rotate_left
         ·rw [if_neg c69] at H
          have c69b0 : (((rd_T45 t337 x7_2).f2) == t346) = false := beq_eq_false_iff_ne.mpr c69
          have c69b1 : (((rd_T45 t337 x7_2).f2) != t346) = true := bne_iff_ne.mpr c69
          exact absurd ((Option.some.inj H).trans hTRUE_.out) (by decide)
         rw [if_pos c69] at H
         have c69b0 : (((rd_T45 t337 x7_2).f2) == t346) = true := beq_iff_eq.mpr c69
         have c69b1 : (((rd_T45 t337 x7_2).f2) != t346) = false := bne_eq_false_iff_eq.mpr c69
         clear c69
         have H' := A0_ H
         clear H
         have p375 : 0 ≤ (x7_2 : Int) := wd_
         have q375 : x7_2 < (t337.length : Int) := wd_
         obtain ⟨ad375, A375_7, c375_7, e375, hx375_0, hx375_1, hx375_2, hx375_3, hx375_4, hx375_5, hx375_6, hx375_7, hl375_7, hi375_7⟩ := at_T45 (Kd.V_reads' HO_5.out).2.2 x7_2 p375 q375
         obtain rfl : ad342 = ad375 := (by injection e375)
         obtain ⟨ce375, hce375, hMe375, hcc375⟩ := Kd.V_get HO_5.out z45 x7_2 p375 (by first | exact q375 | exact wd_ | (have e_ := (Kd.V_reads' HO_5.out).1; omega))
         obtain ⟨ua375_7, uc375_7, rfl, ul375_7, ge375_7⟩ := k45_openF hMe375
         have hv375_7 := hcc375 7 _ rfl
         rw [add_field _ _ 7 (by omega)] at hv375_7
         replace hv375_7 := Option.some.inj (hv375_7.symm.trans hx375_7)
         injection hv375_7 with hva_ hvn_ hvc_
         rw [hva_] at ge375_7
         rw [hvc_] at ul375_7
         have HL375_7 := A0_ (show Kd.V (Kd.int .u8) 5 _ w.heap.size _ _ ((rd_T45 t337 x7_2).f4) from Kd.V_mk ul375_7 ge375_7)
         clear hva_ hvn_ hvc_ ge375_7 ul375_7
         clear hcc375 hce375
         have HR375_7 := A0_ hi375_7
         have HC375_7 := A0_ hl375_7
         clear hi375_7 hl375_7
         replace p375 := eq_true p375
         replace q375 := eq_true q375
         have hcz70_0 : wr.cell? ⟨gb355, 0, none⟩ = some (.string t343) := (bc_ BK355.out 0).trans rfl
         have hcz70_1 : wr.cell? ⟨gb355, 1, none⟩ = some (.string t344) := (bc_ BK355.out 1).trans rfl
         have hcz70_2 : wr.cell? ⟨gb355, 2, none⟩ = some (.string t345) := (bc_ BK355.out 2).trans rfl
         have hcz70_3 : wr.cell? ⟨gb355, 3, none⟩ = some (.int .u8 t346) := (bc_ BK355.out 3).trans rfl
         have hcz70_4 : wr.cell? ⟨gb355, 4, none⟩ = some (.int .i64 t347) := (bc_ BK355.out 4).trans rfl
         have hcz70_5 : wr.cell? ⟨gb355, 5, none⟩ = some (.int .i64 t348) := (bc_ BK355.out 5).trans rfl
         have hcz70_6 : wr.cell? ⟨gb355, 6, none⟩ = some (.int .i64 t349) := (bc_ BK355.out 6).trans rfl
         have hcz70_7 : wr.cell? ⟨gb355, 7, none⟩ = some (.int .i64 t350) := (bc_ BK355.out 7).trans rfl
         have hcz70_8 : wr.cell? ⟨gb355, 8, none⟩ = some (.slice Ao22 t351.length co22) := (bc_ BK355.out 8).trans rfl
         have hfz70_0 := bf_ BK355.out 0
         have hfz70_1 := bf_ BK355.out 1
         have hfz70_2 := bf_ BK355.out 2
         have hfz70_3 := bf_ BK355.out 3
         have hfz70_4 := bf_ BK355.out 4
         have hfz70_5 := bf_ BK355.out 5
         have hfz70_6 := bf_ BK355.out 6
         have hfz70_7 := bf_ BK355.out 7
         have hfz70_8 := bf_ BK355.out 8
         go_wp2
         repeat (go_quiet (fail); try go_wp2)
         go_roundg k3
         case measure => have := HJ6.out; have := HK2.out; have := HK3.out; omega
         case rel => exact ⟨(wrap64 (x7_2 + 1)), wr_, H', ⟨by have := HJ6.out; have := HK2.out; have := HK3.out; omega⟩, ⟨by (with_reducible repeat (first | apply Va_ | apply VN_ | apply V1_)); exact Kd.V_mono HO_5.out (fun _ hk => trivial)⟩, ⟨wb1_ HB.out GE355.out⟩⟩
        rw [if_pos c54] at H
        have c54b0 : decide (x10_3 < x7_2) = true := decide_eq_true c54
        clear c54
        by_cases c55 : 0 ≤ x7_2
        rotate_left
        ·rw [if_neg c55] at H
         exact absurd H (by simp)
        rw [if_pos c55] at H
        have c55b0 : decide (0 ≤ x7_2) = true := decide_eq_true c55
        clear c55
        by_cases c56 : x7_2 < (t337.length : Int)
        rotate_left
        ·rw [if_neg c56] at H
         exact absurd H (by simp)
        rw [if_pos c56] at H
        have c56b0 : decide (x7_2 < (t337.length : Int)) = true := decide_eq_true c56
        clear c56
        by_cases c57 : ((rd_T45 t337 x7_2).f2) = 49
        rotate_left
        ·rw [if_neg c57] at H
         have c57b0 : (((rd_T45 t337 x7_2).f2) == 49) = false := beq_eq_false_iff_ne.mpr c57
         have c57b1 : (((rd_T45 t337 x7_2).f2) != 49) = true := bne_iff_ne.mpr c57
         exact absurd ((Option.some.inj H).trans hTRUE_.out) (by decide)
        rw [if_pos c57] at H
        have c57b0 : (((rd_T45 t337 x7_2).f2) == 49) = true := beq_iff_eq.mpr c57
        have c57b1 : (((rd_T45 t337 x7_2).f2) != 49) = false := bne_eq_false_iff_eq.mpr c57
        clear c57
        by_cases c58 : 0 ≤ x10_3
        rotate_left
        ·rw [if_neg c58] at H
         exact absurd H (by simp)
        rw [if_pos c58] at H
        have c58b0 : decide (0 ≤ x10_3) = true := decide_eq_true c58
        clear c58
        by_cases c59 : x10_3 < (t337.length : Int)
        rotate_left
        ·rw [if_neg c59] at H
         exact absurd H (by simp)
        rw [if_pos c59] at H
        have c59b0 : decide (x10_3 < (t337.length : Int)) = true := decide_eq_true c59
        clear c59
        by_cases c60 : ((rd_T45 t337 x7_2).f1).toList = ((rd_T45 t337 x10_3).f0).toList
        rotate_left
        ·rw [if_neg c60] at H
         have c60b0 : (((rd_T45 t337 x7_2).f1).toList == ((rd_T45 t337 x10_3).f0).toList) = false := beq_eq_false_iff_ne.mpr c60
         have c60b1 : (((rd_T45 t337 x7_2).f1).toList != ((rd_T45 t337 x10_3).f0).toList) = true := bne_iff_ne.mpr c60
         exact absurd ((Option.some.inj H).trans hTRUE_.out) (by decide)
        rw [if_pos c60] at H
        have c60b0 : (((rd_T45 t337 x7_2).f1).toList == ((rd_T45 t337 x10_3).f0).toList) = true := beq_iff_eq.mpr c60
        have c60b1 : (((rd_T45 t337 x7_2).f1).toList != ((rd_T45 t337 x10_3).f0).toList) = false := bne_eq_false_iff_eq.mpr c60
        clear c60
        by_cases c61 : (((rd_T45 t337 x7_2).f4).length : Int) > 0
        ·rw [if_pos c61] at H
         have c61b0 : decide (0 < (((rd_T45 t337 x7_2).f4).length : Int)) = true := decide_eq_true c61
         have c61b1 : decide (0 < ((rd_T45 t337 x7_2).f4).length) = true := decide_eq_true (by omega)
         clear c61
         exact absurd ((Option.some.inj H).trans hTRUE_.out) (by decide)
        rw [if_neg c61] at H
        have c61b0 : decide (0 < (((rd_T45 t337 x7_2).f4).length : Int)) = false := decide_eq_false c61
        have c61b1 : decide (0 < ((rd_T45 t337 x7_2).f4).length) = false := decide_eq_false (by omega)
        clear c61
        by_cases c62 : x10_3 = x7_2
        rotate_left
        ·rw [if_neg c62] at H
         have c62b0 : (x10_3 == x7_2) = false := beq_eq_false_iff_ne.mpr c62
         have c62b1 : (x10_3 != x7_2) = true := bne_iff_ne.mpr c62
         have H' := A0_ H
         clear H
         have p370 : 0 ≤ (x7_2 : Int) := wd_
         have q370 : x7_2 < (t337.length : Int) := wd_
         obtain ⟨ad370, A370_7, c370_7, e370, hx370_0, hx370_1, hx370_2, hx370_3, hx370_4, hx370_5, hx370_6, hx370_7, hl370_7, hi370_7⟩ := at_T45 (Kd.V_reads' HO_5.out).2.2 x7_2 p370 q370
         obtain rfl : ad342 = ad370 := (by injection e370)
         obtain ⟨ce370, hce370, hMe370, hcc370⟩ := Kd.V_get HO_5.out z45 x7_2 p370 (by first | exact q370 | exact wd_ | (have e_ := (Kd.V_reads' HO_5.out).1; omega))
         obtain ⟨ua370_7, uc370_7, rfl, ul370_7, ge370_7⟩ := k45_openF hMe370
         have hv370_7 := hcc370 7 _ rfl
         rw [add_field _ _ 7 (by omega)] at hv370_7
         replace hv370_7 := Option.some.inj (hv370_7.symm.trans hx370_7)
         injection hv370_7 with hva_ hvn_ hvc_
         rw [hva_] at ge370_7
         rw [hvc_] at ul370_7
         have HL370_7 := A0_ (show Kd.V (Kd.int .u8) 5 _ w.heap.size _ _ ((rd_T45 t337 x7_2).f4) from Kd.V_mk ul370_7 ge370_7)
         clear hva_ hvn_ hvc_ ge370_7 ul370_7
         clear hcc370 hce370
         have HR370_7 := A0_ hi370_7
         have HC370_7 := A0_ hl370_7
         clear hi370_7 hl370_7
         replace p370 := eq_true p370
         replace q370 := eq_true q370
         have p371 : 0 ≤ (x7_2 : Int) := wd_
         have q371 : x7_2 < (t337.length : Int) := wd_
         obtain ⟨ad371, A371_7, c371_7, e371, hx371_0, hx371_1, hx371_2, hx371_3, hx371_4, hx371_5, hx371_6, hx371_7, hl371_7, hi371_7⟩ := at_T45 (Kd.V_reads' HO_5.out).2.2 x7_2 p371 q371
         obtain rfl : ad342 = ad371 := (by injection e371)
         obtain ⟨ce371, hce371, hMe371, hcc371⟩ := Kd.V_get HO_5.out z45 x7_2 p371 (by first | exact q371 | exact wd_ | (have e_ := (Kd.V_reads' HO_5.out).1; omega))
         obtain ⟨ua371_7, uc371_7, rfl, ul371_7, ge371_7⟩ := k45_openF hMe371
         have hv371_7 := hcc371 7 _ rfl
         rw [add_field _ _ 7 (by omega)] at hv371_7
         replace hv371_7 := Option.some.inj (hv371_7.symm.trans hx371_7)
         injection hv371_7 with hva_ hvn_ hvc_
         rw [hva_] at ge371_7
         rw [hvc_] at ul371_7
         have HL371_7 := A0_ (show Kd.V (Kd.int .u8) 5 _ w.heap.size _ _ ((rd_T45 t337 x7_2).f4) from Kd.V_mk ul371_7 ge371_7)
         clear hva_ hvn_ hvc_ ge371_7 ul371_7
         clear hcc371 hce371
         have HR371_7 := A0_ hi371_7
         have HC371_7 := A0_ hl371_7
         clear hi371_7 hl371_7
         replace p371 := eq_true p371
         replace q371 := eq_true q371
         have ea_ := Option.some.inj (hx370_7.symm.trans hx371_7)
         injection ea_ with ea_ en_ ec_
         subst ea_
         subst ec_
         clear en_
         have p372 : 0 ≤ (x10_3 : Int) := wd_
         have q372 : x10_3 < (t337.length : Int) := wd_
         obtain ⟨ad372, A372_7, c372_7, e372, hx372_0, hx372_1, hx372_2, hx372_3, hx372_4, hx372_5, hx372_6, hx372_7, hl372_7, hi372_7⟩ := at_T45 (Kd.V_reads' HO_5.out).2.2 x10_3 p372 q372
         obtain rfl : ad342 = ad372 := (by injection e372)
         obtain ⟨ce372, hce372, hMe372, hcc372⟩ := Kd.V_get HO_5.out z45 x10_3 p372 (by first | exact q372 | exact wd_ | (have e_ := (Kd.V_reads' HO_5.out).1; omega))
         obtain ⟨ua372_7, uc372_7, rfl, ul372_7, ge372_7⟩ := k45_openF hMe372
         have hv372_7 := hcc372 7 _ rfl
         rw [add_field _ _ 7 (by omega)] at hv372_7
         replace hv372_7 := Option.some.inj (hv372_7.symm.trans hx372_7)
         injection hv372_7 with hva_ hvn_ hvc_
         rw [hva_] at ge372_7
         rw [hvc_] at ul372_7
         have HL372_7 := A0_ (show Kd.V (Kd.int .u8) 5 _ w.heap.size _ _ ((rd_T45 t337 x10_3).f4) from Kd.V_mk ul372_7 ge372_7)
         clear hva_ hvn_ hvc_ ge372_7 ul372_7
         clear hcc372 hce372
         have HR372_7 := A0_ hi372_7
         have HC372_7 := A0_ hl372_7
         clear hi372_7 hl372_7
         replace p372 := eq_true p372
         replace q372 := eq_true q372
         have p373 : 0 ≤ (x7_2 : Int) := wd_
         have q373 : x7_2 < (t337.length : Int) := wd_
         obtain ⟨ad373, A373_7, c373_7, e373, hx373_0, hx373_1, hx373_2, hx373_3, hx373_4, hx373_5, hx373_6, hx373_7, hl373_7, hi373_7⟩ := at_T45 (Kd.V_reads' HO_5.out).2.2 x7_2 p373 q373
         obtain rfl : ad342 = ad373 := (by injection e373)
         obtain ⟨ce373, hce373, hMe373, hcc373⟩ := Kd.V_get HO_5.out z45 x7_2 p373 (by first | exact q373 | exact wd_ | (have e_ := (Kd.V_reads' HO_5.out).1; omega))
         obtain ⟨ua373_7, uc373_7, rfl, ul373_7, ge373_7⟩ := k45_openF hMe373
         have hv373_7 := hcc373 7 _ rfl
         rw [add_field _ _ 7 (by omega)] at hv373_7
         replace hv373_7 := Option.some.inj (hv373_7.symm.trans hx373_7)
         injection hv373_7 with hva_ hvn_ hvc_
         rw [hva_] at ge373_7
         rw [hvc_] at ul373_7
         have HL373_7 := A0_ (show Kd.V (Kd.int .u8) 5 _ w.heap.size _ _ ((rd_T45 t337 x7_2).f4) from Kd.V_mk ul373_7 ge373_7)
         clear hva_ hvn_ hvc_ ge373_7 ul373_7
         clear hcc373 hce373
         have HR373_7 := A0_ hi373_7
         have HC373_7 := A0_ hl373_7
         clear hi373_7 hl373_7
         replace p373 := eq_true p373
         replace q373 := eq_true q373
         have ea_ := Option.some.inj (hx370_7.symm.trans hx373_7)
         injection ea_ with ea_ en_ ec_
         subst ea_
         subst ec_
         clear en_
         go_wp2
         repeat (go_quiet (fail); try go_wp2)
         go_roundg k3
         case measure => have := HJ6.out; have := HK2.out; have := HK3.out; omega
         case rel => exact ⟨(wrap64 (x7_2 + 1)), wr_, H', ⟨by have := HJ6.out; have := HK2.out; have := HK3.out; omega⟩, ⟨by (with_reducible repeat (first | apply Va_ | apply VN_ | apply V1_)); exact Kd.V_mono HO_5.out (fun _ hk => trivial)⟩, ⟨wb1_ HB.out GE355.out⟩⟩
        rw [if_pos c62] at H
        have c62b0 : (x10_3 == x7_2) = true := beq_iff_eq.mpr c62
        have c62b1 : (x10_3 != x7_2) = false := bne_eq_false_iff_eq.mpr c62
        clear c62
        by_cases c63 : ((rd_T45 t337 x7_2).f2) = t346
        rotate_left
        ·rw [if_neg c63] at H
         have c63b0 : (((rd_T45 t337 x7_2).f2) == t346) = false := beq_eq_false_iff_ne.mpr c63
         have c63b1 : (((rd_T45 t337 x7_2).f2) != t346) = true := bne_iff_ne.mpr c63
         exact absurd ((Option.some.inj H).trans hTRUE_.out) (by decide)
        rw [if_pos c63] at H
        have c63b0 : (((rd_T45 t337 x7_2).f2) == t346) = true := beq_iff_eq.mpr c63
        have c63b1 : (((rd_T45 t337 x7_2).f2) != t346) = false := bne_eq_false_iff_eq.mpr c63
        clear c63
        have H' := A0_ H
        clear H
        have p370 : 0 ≤ (x7_2 : Int) := wd_
        have q370 : x7_2 < (t337.length : Int) := wd_
        obtain ⟨ad370, A370_7, c370_7, e370, hx370_0, hx370_1, hx370_2, hx370_3, hx370_4, hx370_5, hx370_6, hx370_7, hl370_7, hi370_7⟩ := at_T45 (Kd.V_reads' HO_5.out).2.2 x7_2 p370 q370
        obtain rfl : ad342 = ad370 := (by injection e370)
        obtain ⟨ce370, hce370, hMe370, hcc370⟩ := Kd.V_get HO_5.out z45 x7_2 p370 (by first | exact q370 | exact wd_ | (have e_ := (Kd.V_reads' HO_5.out).1; omega))
        obtain ⟨ua370_7, uc370_7, rfl, ul370_7, ge370_7⟩ := k45_openF hMe370
        have hv370_7 := hcc370 7 _ rfl
        rw [add_field _ _ 7 (by omega)] at hv370_7
        replace hv370_7 := Option.some.inj (hv370_7.symm.trans hx370_7)
        injection hv370_7 with hva_ hvn_ hvc_
        rw [hva_] at ge370_7
        rw [hvc_] at ul370_7
        have HL370_7 := A0_ (show Kd.V (Kd.int .u8) 5 _ w.heap.size _ _ ((rd_T45 t337 x7_2).f4) from Kd.V_mk ul370_7 ge370_7)
        clear hva_ hvn_ hvc_ ge370_7 ul370_7
        clear hcc370 hce370
        have HR370_7 := A0_ hi370_7
        have HC370_7 := A0_ hl370_7
        clear hi370_7 hl370_7
        replace p370 := eq_true p370
        replace q370 := eq_true q370
        have p371 : 0 ≤ (x7_2 : Int) := wd_
        have q371 : x7_2 < (t337.length : Int) := wd_
        obtain ⟨ad371, A371_7, c371_7, e371, hx371_0, hx371_1, hx371_2, hx371_3, hx371_4, hx371_5, hx371_6, hx371_7, hl371_7, hi371_7⟩ := at_T45 (Kd.V_reads' HO_5.out).2.2 x7_2 p371 q371
        obtain rfl : ad342 = ad371 := (by injection e371)
        obtain ⟨ce371, hce371, hMe371, hcc371⟩ := Kd.V_get HO_5.out z45 x7_2 p371 (by first | exact q371 | exact wd_ | (have e_ := (Kd.V_reads' HO_5.out).1; omega))
        obtain ⟨ua371_7, uc371_7, rfl, ul371_7, ge371_7⟩ := k45_openF hMe371
        have hv371_7 := hcc371 7 _ rfl
        rw [add_field _ _ 7 (by omega)] at hv371_7
        replace hv371_7 := Option.some.inj (hv371_7.symm.trans hx371_7)
        injection hv371_7 with hva_ hvn_ hvc_
        rw [hva_] at ge371_7
        rw [hvc_] at ul371_7
        have HL371_7 := A0_ (show Kd.V (Kd.int .u8) 5 _ w.heap.size _ _ ((rd_T45 t337 x7_2).f4) from Kd.V_mk ul371_7 ge371_7)
        clear hva_ hvn_ hvc_ ge371_7 ul371_7
        clear hcc371 hce371
        have HR371_7 := A0_ hi371_7
        have HC371_7 := A0_ hl371_7
        clear hi371_7 hl371_7
        replace p371 := eq_true p371
        replace q371 := eq_true q371
        have ea_ := Option.some.inj (hx370_7.symm.trans hx371_7)
        injection ea_ with ea_ en_ ec_
        subst ea_
        subst ec_
        clear en_
        have p372 : 0 ≤ (x10_3 : Int) := wd_
        have q372 : x10_3 < (t337.length : Int) := wd_
        obtain ⟨ad372, A372_7, c372_7, e372, hx372_0, hx372_1, hx372_2, hx372_3, hx372_4, hx372_5, hx372_6, hx372_7, hl372_7, hi372_7⟩ := at_T45 (Kd.V_reads' HO_5.out).2.2 x10_3 p372 q372
        obtain rfl : ad342 = ad372 := (by injection e372)
        obtain ⟨ce372, hce372, hMe372, hcc372⟩ := Kd.V_get HO_5.out z45 x10_3 p372 (by first | exact q372 | exact wd_ | (have e_ := (Kd.V_reads' HO_5.out).1; omega))
        obtain ⟨ua372_7, uc372_7, rfl, ul372_7, ge372_7⟩ := k45_openF hMe372
        have hv372_7 := hcc372 7 _ rfl
        rw [add_field _ _ 7 (by omega)] at hv372_7
        replace hv372_7 := Option.some.inj (hv372_7.symm.trans hx372_7)
        injection hv372_7 with hva_ hvn_ hvc_
        rw [hva_] at ge372_7
        rw [hvc_] at ul372_7
        have HL372_7 := A0_ (show Kd.V (Kd.int .u8) 5 _ w.heap.size _ _ ((rd_T45 t337 x10_3).f4) from Kd.V_mk ul372_7 ge372_7)
        clear hva_ hvn_ hvc_ ge372_7 ul372_7
        clear hcc372 hce372
        have HR372_7 := A0_ hi372_7
        have HC372_7 := A0_ hl372_7
        clear hi372_7 hl372_7
        replace p372 := eq_true p372
        replace q372 := eq_true q372
        have p373 : 0 ≤ (x7_2 : Int) := wd_
        have q373 : x7_2 < (t337.length : Int) := wd_
        obtain ⟨ad373, A373_7, c373_7, e373, hx373_0, hx373_1, hx373_2, hx373_3, hx373_4, hx373_5, hx373_6, hx373_7, hl373_7, hi373_7⟩ := at_T45 (Kd.V_reads' HO_5.out).2.2 x7_2 p373 q373
        obtain rfl : ad342 = ad373 := (by injection e373)
        obtain ⟨ce373, hce373, hMe373, hcc373⟩ := Kd.V_get HO_5.out z45 x7_2 p373 (by first | exact q373 | exact wd_ | (have e_ := (Kd.V_reads' HO_5.out).1; omega))
        obtain ⟨ua373_7, uc373_7, rfl, ul373_7, ge373_7⟩ := k45_openF hMe373
        have hv373_7 := hcc373 7 _ rfl
        rw [add_field _ _ 7 (by omega)] at hv373_7
        replace hv373_7 := Option.some.inj (hv373_7.symm.trans hx373_7)
        injection hv373_7 with hva_ hvn_ hvc_
        rw [hva_] at ge373_7
        rw [hvc_] at ul373_7
        have HL373_7 := A0_ (show Kd.V (Kd.int .u8) 5 _ w.heap.size _ _ ((rd_T45 t337 x7_2).f4) from Kd.V_mk ul373_7 ge373_7)
        clear hva_ hvn_ hvc_ ge373_7 ul373_7
        clear hcc373 hce373
        have HR373_7 := A0_ hi373_7
        have HC373_7 := A0_ hl373_7
        clear hi373_7 hl373_7
        replace p373 := eq_true p373
        replace q373 := eq_true q373
        have ea_ := Option.some.inj (hx370_7.symm.trans hx373_7)
        injection ea_ with ea_ en_ ec_
        subst ea_
        subst ec_
        clear en_
        have p374 : 0 ≤ (x7_2 : Int) := wd_
        have q374 : x7_2 < (t337.length : Int) := wd_
        obtain ⟨ad374, A374_7, c374_7, e374, hx374_0, hx374_1, hx374_2, hx374_3, hx374_4, hx374_5, hx374_6, hx374_7, hl374_7, hi374_7⟩ := at_T45 (Kd.V_reads' HO_5.out).2.2 x7_2 p374 q374
        obtain rfl : ad342 = ad374 := (by injection e374)
        obtain ⟨ce374, hce374, hMe374, hcc374⟩ := Kd.V_get HO_5.out z45 x7_2 p374 (by first | exact q374 | exact wd_ | (have e_ := (Kd.V_reads' HO_5.out).1; omega))
        obtain ⟨ua374_7, uc374_7, rfl, ul374_7, ge374_7⟩ := k45_openF hMe374
        have hv374_7 := hcc374 7 _ rfl
        rw [add_field _ _ 7 (by omega)] at hv374_7
        replace hv374_7 := Option.some.inj (hv374_7.symm.trans hx374_7)
        injection hv374_7 with hva_ hvn_ hvc_
        rw [hva_] at ge374_7
        rw [hvc_] at ul374_7
        have HL374_7 := A0_ (show Kd.V (Kd.int .u8) 5 _ w.heap.size _ _ ((rd_T45 t337 x7_2).f4) from Kd.V_mk ul374_7 ge374_7)
        clear hva_ hvn_ hvc_ ge374_7 ul374_7
        clear hcc374 hce374
        have HR374_7 := A0_ hi374_7
        have HC374_7 := A0_ hl374_7
        clear hi374_7 hl374_7
        replace p374 := eq_true p374
        replace q374 := eq_true q374
        have ea_ := Option.some.inj (hx370_7.symm.trans hx374_7)
        injection ea_ with ea_ en_ ec_
        subst ea_
        subst ec_
        clear en_
        have hcz64_0 : wr.cell? ⟨gb355, 0, none⟩ = some (.string t343) := (bc_ BK355.out 0).trans rfl
        have hcz64_1 : wr.cell? ⟨gb355, 1, none⟩ = some (.string t344) := (bc_ BK355.out 1).trans rfl
        have hcz64_2 : wr.cell? ⟨gb355, 2, none⟩ = some (.string t345) := (bc_ BK355.out 2).trans rfl
        have hcz64_3 : wr.cell? ⟨gb355, 3, none⟩ = some (.int .u8 t346) := (bc_ BK355.out 3).trans rfl
        have hcz64_4 : wr.cell? ⟨gb355, 4, none⟩ = some (.int .i64 t347) := (bc_ BK355.out 4).trans rfl
        have hcz64_5 : wr.cell? ⟨gb355, 5, none⟩ = some (.int .i64 t348) := (bc_ BK355.out 5).trans rfl
        have hcz64_6 : wr.cell? ⟨gb355, 6, none⟩ = some (.int .i64 t349) := (bc_ BK355.out 6).trans rfl
        have hcz64_7 : wr.cell? ⟨gb355, 7, none⟩ = some (.int .i64 t350) := (bc_ BK355.out 7).trans rfl
        have hcz64_8 : wr.cell? ⟨gb355, 8, none⟩ = some (.slice Ao22 t351.length co22) := (bc_ BK355.out 8).trans rfl
        have hfz64_0 := bf_ BK355.out 0
        have hfz64_1 := bf_ BK355.out 1
        have hfz64_2 := bf_ BK355.out 2
        have hfz64_3 := bf_ BK355.out 3
        have hfz64_4 := bf_ BK355.out 4
        have hfz64_5 := bf_ BK355.out 5
        have hfz64_6 := bf_ BK355.out 6
        have hfz64_7 := bf_ BK355.out 7
        have hfz64_8 := bf_ BK355.out 8
        go_wp2
        repeat (go_quiet (fail); try go_wp2)
        go_roundg k3
        case measure => have := HJ6.out; have := HK2.out; have := HK3.out; omega
        case rel => exact ⟨(wrap64 (x7_2 + 1)), wr_, H', ⟨by have := HJ6.out; have := HK2.out; have := HK3.out; omega⟩, ⟨by (with_reducible repeat (first | apply Va_ | apply VN_ | apply V1_)); exact Kd.V_mono HO_5.out (fun _ hk => trivial)⟩, ⟨wb1_ HB.out GE355.out⟩⟩
       rw [if_pos c23] at H
       have c23b0 : decide (0 ≤ x11_3) = true := decide_eq_true c23
       clear c23
       by_cases c24 : 0 ≤ x11_3
       rotate_left
       ·rw [if_neg c24] at H
        exact absurd H (by simp)
       rw [if_pos c24] at H
       have c24b0 : decide (0 ≤ x11_3) = true := decide_eq_true c24
       clear c24
       by_cases c25 : x11_3 < (t337.length : Int)
       rotate_left
       ·rw [if_neg c25] at H
        exact absurd H (by simp)
       rw [if_pos c25] at H
       have c25b0 : decide (x11_3 < (t337.length : Int)) = true := decide_eq_true c25
       clear c25
       replace H := Option.bind_eq_some_iff.mp H
       obtain ⟨⟨t357, t358, t359, t360, t361, t362, t363, t364, t365, t368⟩, A260, H⟩ := H
       replace H : (if t346 = 48 then (if t360 = 48 then (if t359.toList = t345.toList then (bindlelaw11_LinksFirst.l1 k3 l0 t337 x7_2 x11_3 (wrap64 (x11_3 - 1)) t343 t344 t345 t346 t347 t348 t349 t350 t351) else (bindlelaw11_LinksFirst.l1 k3 l0 t337 x7_2 x10_3 (wrap64 (x11_3 - 1)) t343 t344 t345 t346 t347 t348 t349 t350 t351)) else (bindlelaw11_LinksFirst.l1 k3 l0 t337 x7_2 x10_3 (wrap64 (x11_3 - 1)) t343 t344 t345 t346 t347 t348 t349 t350 t351)) else (bindlelaw11_LinksFirst.l1 k3 l0 t337 x7_2 x10_3 (wrap64 (x11_3 - 1)) t343 t344 t345 t346 t347 t348 t349 t350 t351)) = some r := H
       have A26 := A0_ A260
       clear A260
       by_cases c27 : t346 = 48
       rotate_left
       ·rw [if_neg c27] at H
        have c27b0 : (t346 == 48) = false := beq_eq_false_iff_ne.mpr c27
        have c27b1 : (t346 != 48) = true := bne_iff_ne.mpr c27
        have H' := A0_ H
        clear H
        have p356 : 0 ≤ (x11_3 : Int) := wd_
        have q356 : x11_3 < (t337.length : Int) := wd_
        obtain ⟨ad356, A356_7, c356_7, e356, hx356_0, hx356_1, hx356_2, hx356_3, hx356_4, hx356_5, hx356_6, hx356_7, hl356_7, hi356_7⟩ := at_T45 (Kd.V_reads' HO_5.out).2.2 x11_3 p356 q356
        obtain rfl : ad342 = ad356 := (by injection e356)
        obtain ⟨ce356, hce356, hMe356, hcc356⟩ := Kd.V_get HO_5.out z45 x11_3 p356 (by first | exact q356 | exact wd_ | (have e_ := (Kd.V_reads' HO_5.out).1; omega))
        obtain ⟨ua356_7, uc356_7, rfl, ul356_7, ge356_7⟩ := k45_openF hMe356
        have hv356_7 := hcc356 7 _ rfl
        rw [add_field _ _ 7 (by omega)] at hv356_7
        replace hv356_7 := Option.some.inj (hv356_7.symm.trans hx356_7)
        injection hv356_7 with hva_ hvn_ hvc_
        rw [hva_] at ge356_7
        rw [hvc_] at ul356_7
        have HL356_7 := A0_ (show Kd.V (Kd.int .u8) 5 _ w.heap.size _ _ ((rd_T45 t337 x11_3).f4) from Kd.V_mk ul356_7 ge356_7)
        clear hva_ hvn_ hvc_ ge356_7 ul356_7
        clear hcc356 hce356
        have HR356_7 := A0_ hi356_7
        have HC356_7 := A0_ hl356_7
        clear hi356_7 hl356_7
        replace p356 := eq_true p356
        replace q356 := eq_true q356
        go_wp2_with (first | (go_at_call 23; (with_reducible refine (bindleref08_Find.calls k3 (fun k_ => k_ < w.heap.size) _ _ l0 ((rd_T45 t337 x11_3).f0) t357 t358 t359 t360 t361 t362 t363 t364 t365 t368 _ ?side1 A26.out).mono ?_); (case side1 => exact Kd.V_mk HC0.out (Kd.F_below (Kd.C_F k40_heap HR0.out) (wb1_ HB.out GE355.out))); rintro e w48 ⟨v366, rfl, ho0, hb⟩; have n0_ := A0_ (Vb_ (wV_ HO_5.out) hb); have n1_ := A0_ (Vb_ (wV_ HO_356008.out) hb); have n2_ := A0_ (Vb_ (wV_ HL356_7.out) hb); have n3_ := A0_ (Kd.V_lower (Kd.V_mono (ok' := fun k_ => k_ ≠ gb355) ho0 (fun k_ hk_ => Or.elim hk_ (fun hs_ => fun e_ => Nat.not_le.2 hs_ (by rw [e_]; exact GW355.out)) (fun hn_ => (Kd.freshB (g := gb355) (o := .cells #[.string t343, .string t344, .string t345, .int .u8 t346, .int .i64 t347, .int .i64 t348, .int .i64 t349, .int .i64 t350, .slice Ao22 t351.length co22] 40 (0, 0)) (wB_ BK355.out) k_ hn_)))) (below_size (wb1_ HB.out GE355.out))); have n4_ := A0_ (blk_below (g := gb355) (o := .cells #[.string t343, .string t344, .string t345, .int .u8 t346, .int .i64 t347, .int .i64 t348, .int .i64 t349, .int .i64 t350, .slice Ao22 t351.length co22] 40 (0, 0)) (wB_ BK355.out) hb); have n5_ := A0_ (Kd.C_below (by repeat (first | (with_reducible exact HR356_7.out) | (with_reducible refine Ca_ ?_ _) | (with_reducible refine CN_ ?_ _) | (with_reducible refine C1_ ?_) | exact HR356_7.out)) hb); have n6_ := A0_ (below_step (wb1_ HB.out GE355.out) hb); clear HO_5; clear HO_356008; clear HL356_7; clear BK355; clear HR356_7; clear HB; have HO_5 := n0_; have HO_356008 := n1_; have HL356_7 := n2_; have HO367 := n3_; have BK355 := n4_; have HR356_7 := n5_; have HB := n6_; clear n0_ n1_ n2_ n3_ n4_ n5_ n6_; (try clear hb); (try clear hb2); (try clear hk); (try clear hi); (try clear ho0)) | ((with_reducible refine gate_dst (N := 12) rfl ?_); (try (refine gate_guard (by rfl) ?_; dsimp only)); refine box_event ?hg (N := 12) ?hd (cs := #[.string (⟨#[]⟩ : ByteArray), .string (⟨#[]⟩ : ByteArray), .string (⟨#[]⟩ : ByteArray), .int .u8 0, .int .i64 0, .int .i64 0, .int .i64 0, .int .i64 0, .slice none 0 0]) (t := 40) ?hr ?_; (case hd => rfl); (case hg => rfl); (case hr => first | (go_simp; done) | (go_simp; rfl)); intro gb369 hg w49 hbox hb; have n0_ := A0_ (Vb_ (Kd.V_elderB (wV_ HO_5.out) gb369 (Nat.le_of_eq hg.symm)) hb); have n1_ := A0_ (Vb_ (Kd.V_elderB (wV_ HO_356008.out) gb369 (Nat.le_of_eq hg.symm)) hb); have n2_ := A0_ (Vb_ (Kd.V_elderB (wV_ HL356_7.out) gb369 (Nat.le_of_eq hg.symm)) hb); have n3_ := A0_ (Vb_ (Kd.V_elderB (wV_ HO367.out) gb369 (Nat.le_of_eq hg.symm)) hb); have n4_ := A0_ (blk_below (g := gb355) (o := .cells #[.string t343, .string t344, .string t345, .int .u8 t346, .int .i64 t347, .int .i64 t348, .int .i64 t349, .int .i64 t350, .slice Ao22 t351.length co22] 40 (0, 0)) (wB_ BK355.out) hb); have n5_ := A0_ (Kd.C_below (by repeat (first | (with_reducible exact HR356_7.out) | (with_reducible refine Ca_ ?_ _) | (with_reducible refine CN_ ?_ _) | (with_reducible refine C1_ ?_) | exact HR356_7.out)) hb); have n6_ := A0_ (below_step (wb1_ HB.out GE355.out) hb); have n7_ := A0_ (hbox); have n8_ := A0_ ((by rw [hg]; exact (below_size (wb1_ HB.out GE355.out)) : w.heap.size ≤ gb369)); have n9_ := A0_ ((by rw [hg]; exact (below_size (wb1_ HB.out GE355.out)) : w.heap.size ≤ gb369)); have n10_ := A0_ ((by rw [hg]; exact Nat.ne_of_lt (blk_lt (g := gb355) (o := .cells #[.string t343, .string t344, .string t345, .int .u8 t346, .int .i64 t347, .int .i64 t348, .int .i64 t349, .int .i64 t350, .slice Ao22 t351.length co22] 40 (0, 0)) (wB_ BK355.out)) : gb355 ≠ gb369)); have n11_ := A0_ ((by rw [hg]; exact Nat.ne_of_gt (blk_lt (g := gb355) (o := .cells #[.string t343, .string t344, .string t345, .int .u8 t346, .int .i64 t347, .int .i64 t348, .int .i64 t349, .int .i64 t350, .slice Ao22 t351.length co22] 40 (0, 0)) (wB_ BK355.out)) : gb369 ≠ gb355)); clear HO_5; clear HO_356008; clear HL356_7; clear HO367; clear BK355; clear HR356_7; clear HB; have HO_5 := n0_; have HO_356008 := n1_; have HL356_7 := n2_; have HO367 := n3_; have BK355 := n4_; have HR356_7 := n5_; have HB := n6_; have BK369 := n7_; have GW369 := n8_; have GE369 := n9_; have NB355_369 := n10_; have NB369_355 := n11_; clear n0_ n1_ n2_ n3_ n4_ n5_ n6_ n7_ n8_ n9_ n10_ n11_; clear hb hbox hg; have hnb50 := NB369_355.out; have hnc50 := NB355_369.out; have hcz51_0 : w49.cell? ⟨gb369, 0, none⟩ = some (.string (⟨#[]⟩ : ByteArray)) := (bc_ BK369.out 0).trans rfl; have hcz51_1 : w49.cell? ⟨gb369, 1, none⟩ = some (.string (⟨#[]⟩ : ByteArray)) := (bc_ BK369.out 1).trans rfl; have hcz51_2 : w49.cell? ⟨gb369, 2, none⟩ = some (.string (⟨#[]⟩ : ByteArray)) := (bc_ BK369.out 2).trans rfl; have hcz51_3 : w49.cell? ⟨gb369, 3, none⟩ = some (.int .u8 0) := (bc_ BK369.out 3).trans rfl; have hcz51_4 : w49.cell? ⟨gb369, 4, none⟩ = some (.int .i64 0) := (bc_ BK369.out 4).trans rfl; have hcz51_5 : w49.cell? ⟨gb369, 5, none⟩ = some (.int .i64 0) := (bc_ BK369.out 5).trans rfl; have hcz51_6 : w49.cell? ⟨gb369, 6, none⟩ = some (.int .i64 0) := (bc_ BK369.out 6).trans rfl; have hcz51_7 : w49.cell? ⟨gb369, 7, none⟩ = some (.int .i64 0) := (bc_ BK369.out 7).trans rfl; have hcz51_8 : w49.cell? ⟨gb369, 8, none⟩ = some (.slice none 0 0) := (bc_ BK369.out 8).trans rfl; have hfz51_0 := bf_ BK369.out 0; have hfz51_1 := bf_ BK369.out 1; have hfz51_2 := bf_ BK369.out 2; have hfz51_3 := bf_ BK369.out 3; have hfz51_4 := bf_ BK369.out 4; have hfz51_5 := bf_ BK369.out 5; have hfz51_6 := bf_ BK369.out 6; have hfz51_7 := bf_ BK369.out 7; have hfz51_8 := bf_ BK369.out 8; obtain ⟨Ao52, co52, eo52⟩ := Kd.V_slice HO367.out; subst eo52; have hcz53_0 : w49.cell? ⟨gb355, 0, none⟩ = some (.string t343) := (bc_ BK355.out 0).trans rfl; have hcz53_1 : w49.cell? ⟨gb355, 1, none⟩ = some (.string t344) := (bc_ BK355.out 1).trans rfl; have hcz53_2 : w49.cell? ⟨gb355, 2, none⟩ = some (.string t345) := (bc_ BK355.out 2).trans rfl; have hcz53_3 : w49.cell? ⟨gb355, 3, none⟩ = some (.int .u8 t346) := (bc_ BK355.out 3).trans rfl; have hcz53_4 : w49.cell? ⟨gb355, 4, none⟩ = some (.int .i64 t347) := (bc_ BK355.out 4).trans rfl; have hcz53_5 : w49.cell? ⟨gb355, 5, none⟩ = some (.int .i64 t348) := (bc_ BK355.out 5).trans rfl; have hcz53_6 : w49.cell? ⟨gb355, 6, none⟩ = some (.int .i64 t349) := (bc_ BK355.out 6).trans rfl; have hcz53_7 : w49.cell? ⟨gb355, 7, none⟩ = some (.int .i64 t350) := (bc_ BK355.out 7).trans rfl; have hcz53_8 : w49.cell? ⟨gb355, 8, none⟩ = some (.slice Ao22 t351.length co22) := (bc_ BK355.out 8).trans rfl; have hfz53_0 := bf_ BK355.out 0; have hfz53_1 := bf_ BK355.out 1; have hfz53_2 := bf_ BK355.out 2; have hfz53_3 := bf_ BK355.out 3; have hfz53_4 := bf_ BK355.out 4; have hfz53_5 := bf_ BK355.out 5; have hfz53_6 := bf_ BK355.out 6; have hfz53_7 := bf_ BK355.out 7; have hfz53_8 := bf_ BK355.out 8))
        repeat (go_quiet (first | (go_at_call 23; (with_reducible refine (bindleref08_Find.calls k3 (fun k_ => k_ < w.heap.size) _ _ l0 ((rd_T45 t337 x11_3).f0) t357 t358 t359 t360 t361 t362 t363 t364 t365 t368 _ ?side1 A26.out).mono ?_); (case side1 => exact Kd.V_mk HC0.out (Kd.F_below (Kd.C_F k40_heap HR0.out) (wb1_ HB.out GE355.out))); rintro e w48 ⟨v366, rfl, ho0, hb⟩; have n0_ := A0_ (Vb_ (wV_ HO_5.out) hb); have n1_ := A0_ (Vb_ (wV_ HO_356008.out) hb); have n2_ := A0_ (Vb_ (wV_ HL356_7.out) hb); have n3_ := A0_ (Kd.V_lower (Kd.V_mono (ok' := fun k_ => k_ ≠ gb355) ho0 (fun k_ hk_ => Or.elim hk_ (fun hs_ => fun e_ => Nat.not_le.2 hs_ (by rw [e_]; exact GW355.out)) (fun hn_ => (Kd.freshB (g := gb355) (o := .cells #[.string t343, .string t344, .string t345, .int .u8 t346, .int .i64 t347, .int .i64 t348, .int .i64 t349, .int .i64 t350, .slice Ao22 t351.length co22] 40 (0, 0)) (wB_ BK355.out) k_ hn_)))) (below_size (wb1_ HB.out GE355.out))); have n4_ := A0_ (blk_below (g := gb355) (o := .cells #[.string t343, .string t344, .string t345, .int .u8 t346, .int .i64 t347, .int .i64 t348, .int .i64 t349, .int .i64 t350, .slice Ao22 t351.length co22] 40 (0, 0)) (wB_ BK355.out) hb); have n5_ := A0_ (Kd.C_below (by repeat (first | (with_reducible exact HR356_7.out) | (with_reducible refine Ca_ ?_ _) | (with_reducible refine CN_ ?_ _) | (with_reducible refine C1_ ?_) | exact HR356_7.out)) hb); have n6_ := A0_ (below_step (wb1_ HB.out GE355.out) hb); clear HO_5; clear HO_356008; clear HL356_7; clear BK355; clear HR356_7; clear HB; have HO_5 := n0_; have HO_356008 := n1_; have HL356_7 := n2_; have HO367 := n3_; have BK355 := n4_; have HR356_7 := n5_; have HB := n6_; clear n0_ n1_ n2_ n3_ n4_ n5_ n6_; (try clear hb); (try clear hb2); (try clear hk); (try clear hi); (try clear ho0)) | ((with_reducible refine gate_dst (N := 12) rfl ?_); (try (refine gate_guard (by rfl) ?_; dsimp only)); refine box_event ?hg (N := 12) ?hd (cs := #[.string (⟨#[]⟩ : ByteArray), .string (⟨#[]⟩ : ByteArray), .string (⟨#[]⟩ : ByteArray), .int .u8 0, .int .i64 0, .int .i64 0, .int .i64 0, .int .i64 0, .slice none 0 0]) (t := 40) ?hr ?_; (case hd => rfl); (case hg => rfl); (case hr => first | (go_simp; done) | (go_simp; rfl)); intro gb369 hg w49 hbox hb; have n0_ := A0_ (Vb_ (Kd.V_elderB (wV_ HO_5.out) gb369 (Nat.le_of_eq hg.symm)) hb); have n1_ := A0_ (Vb_ (Kd.V_elderB (wV_ HO_356008.out) gb369 (Nat.le_of_eq hg.symm)) hb); have n2_ := A0_ (Vb_ (Kd.V_elderB (wV_ HL356_7.out) gb369 (Nat.le_of_eq hg.symm)) hb); have n3_ := A0_ (Vb_ (Kd.V_elderB (wV_ HO367.out) gb369 (Nat.le_of_eq hg.symm)) hb); have n4_ := A0_ (blk_below (g := gb355) (o := .cells #[.string t343, .string t344, .string t345, .int .u8 t346, .int .i64 t347, .int .i64 t348, .int .i64 t349, .int .i64 t350, .slice Ao22 t351.length co22] 40 (0, 0)) (wB_ BK355.out) hb); have n5_ := A0_ (Kd.C_below (by repeat (first | (with_reducible exact HR356_7.out) | (with_reducible refine Ca_ ?_ _) | (with_reducible refine CN_ ?_ _) | (with_reducible refine C1_ ?_) | exact HR356_7.out)) hb); have n6_ := A0_ (below_step (wb1_ HB.out GE355.out) hb); have n7_ := A0_ (hbox); have n8_ := A0_ ((by rw [hg]; exact (below_size (wb1_ HB.out GE355.out)) : w.heap.size ≤ gb369)); have n9_ := A0_ ((by rw [hg]; exact (below_size (wb1_ HB.out GE355.out)) : w.heap.size ≤ gb369)); have n10_ := A0_ ((by rw [hg]; exact Nat.ne_of_lt (blk_lt (g := gb355) (o := .cells #[.string t343, .string t344, .string t345, .int .u8 t346, .int .i64 t347, .int .i64 t348, .int .i64 t349, .int .i64 t350, .slice Ao22 t351.length co22] 40 (0, 0)) (wB_ BK355.out)) : gb355 ≠ gb369)); have n11_ := A0_ ((by rw [hg]; exact Nat.ne_of_gt (blk_lt (g := gb355) (o := .cells #[.string t343, .string t344, .string t345, .int .u8 t346, .int .i64 t347, .int .i64 t348, .int .i64 t349, .int .i64 t350, .slice Ao22 t351.length co22] 40 (0, 0)) (wB_ BK355.out)) : gb369 ≠ gb355)); clear HO_5; clear HO_356008; clear HL356_7; clear HO367; clear BK355; clear HR356_7; clear HB; have HO_5 := n0_; have HO_356008 := n1_; have HL356_7 := n2_; have HO367 := n3_; have BK355 := n4_; have HR356_7 := n5_; have HB := n6_; have BK369 := n7_; have GW369 := n8_; have GE369 := n9_; have NB355_369 := n10_; have NB369_355 := n11_; clear n0_ n1_ n2_ n3_ n4_ n5_ n6_ n7_ n8_ n9_ n10_ n11_; clear hb hbox hg; have hnb50 := NB369_355.out; have hnc50 := NB355_369.out; have hcz51_0 : w49.cell? ⟨gb369, 0, none⟩ = some (.string (⟨#[]⟩ : ByteArray)) := (bc_ BK369.out 0).trans rfl; have hcz51_1 : w49.cell? ⟨gb369, 1, none⟩ = some (.string (⟨#[]⟩ : ByteArray)) := (bc_ BK369.out 1).trans rfl; have hcz51_2 : w49.cell? ⟨gb369, 2, none⟩ = some (.string (⟨#[]⟩ : ByteArray)) := (bc_ BK369.out 2).trans rfl; have hcz51_3 : w49.cell? ⟨gb369, 3, none⟩ = some (.int .u8 0) := (bc_ BK369.out 3).trans rfl; have hcz51_4 : w49.cell? ⟨gb369, 4, none⟩ = some (.int .i64 0) := (bc_ BK369.out 4).trans rfl; have hcz51_5 : w49.cell? ⟨gb369, 5, none⟩ = some (.int .i64 0) := (bc_ BK369.out 5).trans rfl; have hcz51_6 : w49.cell? ⟨gb369, 6, none⟩ = some (.int .i64 0) := (bc_ BK369.out 6).trans rfl; have hcz51_7 : w49.cell? ⟨gb369, 7, none⟩ = some (.int .i64 0) := (bc_ BK369.out 7).trans rfl; have hcz51_8 : w49.cell? ⟨gb369, 8, none⟩ = some (.slice none 0 0) := (bc_ BK369.out 8).trans rfl; have hfz51_0 := bf_ BK369.out 0; have hfz51_1 := bf_ BK369.out 1; have hfz51_2 := bf_ BK369.out 2; have hfz51_3 := bf_ BK369.out 3; have hfz51_4 := bf_ BK369.out 4; have hfz51_5 := bf_ BK369.out 5; have hfz51_6 := bf_ BK369.out 6; have hfz51_7 := bf_ BK369.out 7; have hfz51_8 := bf_ BK369.out 8; obtain ⟨Ao52, co52, eo52⟩ := Kd.V_slice HO367.out; subst eo52; have hcz53_0 : w49.cell? ⟨gb355, 0, none⟩ = some (.string t343) := (bc_ BK355.out 0).trans rfl; have hcz53_1 : w49.cell? ⟨gb355, 1, none⟩ = some (.string t344) := (bc_ BK355.out 1).trans rfl; have hcz53_2 : w49.cell? ⟨gb355, 2, none⟩ = some (.string t345) := (bc_ BK355.out 2).trans rfl; have hcz53_3 : w49.cell? ⟨gb355, 3, none⟩ = some (.int .u8 t346) := (bc_ BK355.out 3).trans rfl; have hcz53_4 : w49.cell? ⟨gb355, 4, none⟩ = some (.int .i64 t347) := (bc_ BK355.out 4).trans rfl; have hcz53_5 : w49.cell? ⟨gb355, 5, none⟩ = some (.int .i64 t348) := (bc_ BK355.out 5).trans rfl; have hcz53_6 : w49.cell? ⟨gb355, 6, none⟩ = some (.int .i64 t349) := (bc_ BK355.out 6).trans rfl; have hcz53_7 : w49.cell? ⟨gb355, 7, none⟩ = some (.int .i64 t350) := (bc_ BK355.out 7).trans rfl; have hcz53_8 : w49.cell? ⟨gb355, 8, none⟩ = some (.slice Ao22 t351.length co22) := (bc_ BK355.out 8).trans rfl; have hfz53_0 := bf_ BK355.out 0; have hfz53_1 := bf_ BK355.out 1; have hfz53_2 := bf_ BK355.out 2; have hfz53_3 := bf_ BK355.out 3; have hfz53_4 := bf_ BK355.out 4; have hfz53_5 := bf_ BK355.out 5; have hfz53_6 := bf_ BK355.out 6; have hfz53_7 := bf_ BK355.out 7; have hfz53_8 := bf_ BK355.out 8)); try go_wp2_with (first | (go_at_call 23; (with_reducible refine (bindleref08_Find.calls k3 (fun k_ => k_ < w.heap.size) _ _ l0 ((rd_T45 t337 x11_3).f0) t357 t358 t359 t360 t361 t362 t363 t364 t365 t368 _ ?side1 A26.out).mono ?_); (case side1 => exact Kd.V_mk HC0.out (Kd.F_below (Kd.C_F k40_heap HR0.out) (wb1_ HB.out GE355.out))); rintro e w48 ⟨v366, rfl, ho0, hb⟩; have n0_ := A0_ (Vb_ (wV_ HO_5.out) hb); have n1_ := A0_ (Vb_ (wV_ HO_356008.out) hb); have n2_ := A0_ (Vb_ (wV_ HL356_7.out) hb); have n3_ := A0_ (Kd.V_lower (Kd.V_mono (ok' := fun k_ => k_ ≠ gb355) ho0 (fun k_ hk_ => Or.elim hk_ (fun hs_ => fun e_ => Nat.not_le.2 hs_ (by rw [e_]; exact GW355.out)) (fun hn_ => (Kd.freshB (g := gb355) (o := .cells #[.string t343, .string t344, .string t345, .int .u8 t346, .int .i64 t347, .int .i64 t348, .int .i64 t349, .int .i64 t350, .slice Ao22 t351.length co22] 40 (0, 0)) (wB_ BK355.out) k_ hn_)))) (below_size (wb1_ HB.out GE355.out))); have n4_ := A0_ (blk_below (g := gb355) (o := .cells #[.string t343, .string t344, .string t345, .int .u8 t346, .int .i64 t347, .int .i64 t348, .int .i64 t349, .int .i64 t350, .slice Ao22 t351.length co22] 40 (0, 0)) (wB_ BK355.out) hb); have n5_ := A0_ (Kd.C_below (by repeat (first | (with_reducible exact HR356_7.out) | (with_reducible refine Ca_ ?_ _) | (with_reducible refine CN_ ?_ _) | (with_reducible refine C1_ ?_) | exact HR356_7.out)) hb); have n6_ := A0_ (below_step (wb1_ HB.out GE355.out) hb); clear HO_5; clear HO_356008; clear HL356_7; clear BK355; clear HR356_7; clear HB; have HO_5 := n0_; have HO_356008 := n1_; have HL356_7 := n2_; have HO367 := n3_; have BK355 := n4_; have HR356_7 := n5_; have HB := n6_; clear n0_ n1_ n2_ n3_ n4_ n5_ n6_; (try clear hb); (try clear hb2); (try clear hk); (try clear hi); (try clear ho0)) | ((with_reducible refine gate_dst (N := 12) rfl ?_); (try (refine gate_guard (by rfl) ?_; dsimp only)); refine box_event ?hg (N := 12) ?hd (cs := #[.string (⟨#[]⟩ : ByteArray), .string (⟨#[]⟩ : ByteArray), .string (⟨#[]⟩ : ByteArray), .int .u8 0, .int .i64 0, .int .i64 0, .int .i64 0, .int .i64 0, .slice none 0 0]) (t := 40) ?hr ?_; (case hd => rfl); (case hg => rfl); (case hr => first | (go_simp; done) | (go_simp; rfl)); intro gb369 hg w49 hbox hb; have n0_ := A0_ (Vb_ (Kd.V_elderB (wV_ HO_5.out) gb369 (Nat.le_of_eq hg.symm)) hb); have n1_ := A0_ (Vb_ (Kd.V_elderB (wV_ HO_356008.out) gb369 (Nat.le_of_eq hg.symm)) hb); have n2_ := A0_ (Vb_ (Kd.V_elderB (wV_ HL356_7.out) gb369 (Nat.le_of_eq hg.symm)) hb); have n3_ := A0_ (Vb_ (Kd.V_elderB (wV_ HO367.out) gb369 (Nat.le_of_eq hg.symm)) hb); have n4_ := A0_ (blk_below (g := gb355) (o := .cells #[.string t343, .string t344, .string t345, .int .u8 t346, .int .i64 t347, .int .i64 t348, .int .i64 t349, .int .i64 t350, .slice Ao22 t351.length co22] 40 (0, 0)) (wB_ BK355.out) hb); have n5_ := A0_ (Kd.C_below (by repeat (first | (with_reducible exact HR356_7.out) | (with_reducible refine Ca_ ?_ _) | (with_reducible refine CN_ ?_ _) | (with_reducible refine C1_ ?_) | exact HR356_7.out)) hb); have n6_ := A0_ (below_step (wb1_ HB.out GE355.out) hb); have n7_ := A0_ (hbox); have n8_ := A0_ ((by rw [hg]; exact (below_size (wb1_ HB.out GE355.out)) : w.heap.size ≤ gb369)); have n9_ := A0_ ((by rw [hg]; exact (below_size (wb1_ HB.out GE355.out)) : w.heap.size ≤ gb369)); have n10_ := A0_ ((by rw [hg]; exact Nat.ne_of_lt (blk_lt (g := gb355) (o := .cells #[.string t343, .string t344, .string t345, .int .u8 t346, .int .i64 t347, .int .i64 t348, .int .i64 t349, .int .i64 t350, .slice Ao22 t351.length co22] 40 (0, 0)) (wB_ BK355.out)) : gb355 ≠ gb369)); have n11_ := A0_ ((by rw [hg]; exact Nat.ne_of_gt (blk_lt (g := gb355) (o := .cells #[.string t343, .string t344, .string t345, .int .u8 t346, .int .i64 t347, .int .i64 t348, .int .i64 t349, .int .i64 t350, .slice Ao22 t351.length co22] 40 (0, 0)) (wB_ BK355.out)) : gb369 ≠ gb355)); clear HO_5; clear HO_356008; clear HL356_7; clear HO367; clear BK355; clear HR356_7; clear HB; have HO_5 := n0_; have HO_356008 := n1_; have HL356_7 := n2_; have HO367 := n3_; have BK355 := n4_; have HR356_7 := n5_; have HB := n6_; have BK369 := n7_; have GW369 := n8_; have GE369 := n9_; have NB355_369 := n10_; have NB369_355 := n11_; clear n0_ n1_ n2_ n3_ n4_ n5_ n6_ n7_ n8_ n9_ n10_ n11_; clear hb hbox hg; have hnb50 := NB369_355.out; have hnc50 := NB355_369.out; have hcz51_0 : w49.cell? ⟨gb369, 0, none⟩ = some (.string (⟨#[]⟩ : ByteArray)) := (bc_ BK369.out 0).trans rfl; have hcz51_1 : w49.cell? ⟨gb369, 1, none⟩ = some (.string (⟨#[]⟩ : ByteArray)) := (bc_ BK369.out 1).trans rfl; have hcz51_2 : w49.cell? ⟨gb369, 2, none⟩ = some (.string (⟨#[]⟩ : ByteArray)) := (bc_ BK369.out 2).trans rfl; have hcz51_3 : w49.cell? ⟨gb369, 3, none⟩ = some (.int .u8 0) := (bc_ BK369.out 3).trans rfl; have hcz51_4 : w49.cell? ⟨gb369, 4, none⟩ = some (.int .i64 0) := (bc_ BK369.out 4).trans rfl; have hcz51_5 : w49.cell? ⟨gb369, 5, none⟩ = some (.int .i64 0) := (bc_ BK369.out 5).trans rfl; have hcz51_6 : w49.cell? ⟨gb369, 6, none⟩ = some (.int .i64 0) := (bc_ BK369.out 6).trans rfl; have hcz51_7 : w49.cell? ⟨gb369, 7, none⟩ = some (.int .i64 0) := (bc_ BK369.out 7).trans rfl; have hcz51_8 : w49.cell? ⟨gb369, 8, none⟩ = some (.slice none 0 0) := (bc_ BK369.out 8).trans rfl; have hfz51_0 := bf_ BK369.out 0; have hfz51_1 := bf_ BK369.out 1; have hfz51_2 := bf_ BK369.out 2; have hfz51_3 := bf_ BK369.out 3; have hfz51_4 := bf_ BK369.out 4; have hfz51_5 := bf_ BK369.out 5; have hfz51_6 := bf_ BK369.out 6; have hfz51_7 := bf_ BK369.out 7; have hfz51_8 := bf_ BK369.out 8; obtain ⟨Ao52, co52, eo52⟩ := Kd.V_slice HO367.out; subst eo52; have hcz53_0 : w49.cell? ⟨gb355, 0, none⟩ = some (.string t343) := (bc_ BK355.out 0).trans rfl; have hcz53_1 : w49.cell? ⟨gb355, 1, none⟩ = some (.string t344) := (bc_ BK355.out 1).trans rfl; have hcz53_2 : w49.cell? ⟨gb355, 2, none⟩ = some (.string t345) := (bc_ BK355.out 2).trans rfl; have hcz53_3 : w49.cell? ⟨gb355, 3, none⟩ = some (.int .u8 t346) := (bc_ BK355.out 3).trans rfl; have hcz53_4 : w49.cell? ⟨gb355, 4, none⟩ = some (.int .i64 t347) := (bc_ BK355.out 4).trans rfl; have hcz53_5 : w49.cell? ⟨gb355, 5, none⟩ = some (.int .i64 t348) := (bc_ BK355.out 5).trans rfl; have hcz53_6 : w49.cell? ⟨gb355, 6, none⟩ = some (.int .i64 t349) := (bc_ BK355.out 6).trans rfl; have hcz53_7 : w49.cell? ⟨gb355, 7, none⟩ = some (.int .i64 t350) := (bc_ BK355.out 7).trans rfl; have hcz53_8 : w49.cell? ⟨gb355, 8, none⟩ = some (.slice Ao22 t351.length co22) := (bc_ BK355.out 8).trans rfl; have hfz53_0 := bf_ BK355.out 0; have hfz53_1 := bf_ BK355.out 1; have hfz53_2 := bf_ BK355.out 2; have hfz53_3 := bf_ BK355.out 3; have hfz53_4 := bf_ BK355.out 4; have hfz53_5 := bf_ BK355.out 5; have hfz53_6 := bf_ BK355.out 6; have hfz53_7 := bf_ BK355.out 7; have hfz53_8 := bf_ BK355.out 8)))
        go_roundg k3
        case measure => have := HJ6.out; have := HK2.out; have := HK3.out; omega
        case rel => exact ⟨(x10_3), (wrap64 (x11_3 - 1)), wr_, wr_, H', ⟨by have := HJ6.out; have := HK2.out; have := HK3.out; omega⟩, ⟨by (with_reducible repeat (first | apply Va_ | apply VN_ | apply V1_)); exact Kd.V_mono (Kd.V_far (p := ⟨gb369, 8, none⟩) (Kd.V_far (p := ⟨gb369, 7, none⟩) (Kd.V_far (p := ⟨gb369, 6, none⟩) (Kd.V_far (p := ⟨gb369, 5, none⟩) (Kd.V_far (p := ⟨gb369, 4, none⟩) (Kd.V_far (p := ⟨gb369, 3, none⟩) (Kd.V_far (p := ⟨gb369, 2, none⟩) (Kd.V_far (p := ⟨gb369, 1, none⟩) (Kd.V_far (p := ⟨gb369, 0, none⟩) (Kd.V_mono HO_5.out (fun k_ hk => (⟨hk, hk.2⟩ : _ ∧ k_ ≠ gb369))) (fun _ hk => hk.2) (.string t357)) (fun _ hk => hk.2) (.string t358)) (fun _ hk => hk.2) (.string t359)) (fun _ hk => hk.2) (.int .u8 t360)) (fun _ hk => hk.2) (.int .i64 t361)) (fun _ hk => hk.2) (.int .i64 t362)) (fun _ hk => hk.2) (.int .i64 t363)) (fun _ hk => hk.2) (.int .i64 t364)) (fun _ hk => hk.2) (.slice Ao52 t365.length co52)) (fun _ hk => hk.1.1)⟩, ⟨by (with_reducible repeat (first | apply Va_ | apply VN_ | apply V1_)); exact Kd.V_mono (Kd.V_far (p := ⟨gb369, 8, none⟩) (Kd.V_far (p := ⟨gb369, 7, none⟩) (Kd.V_far (p := ⟨gb369, 6, none⟩) (Kd.V_far (p := ⟨gb369, 5, none⟩) (Kd.V_far (p := ⟨gb369, 4, none⟩) (Kd.V_far (p := ⟨gb369, 3, none⟩) (Kd.V_far (p := ⟨gb369, 2, none⟩) (Kd.V_far (p := ⟨gb369, 1, none⟩) (Kd.V_far (p := ⟨gb369, 0, none⟩) (Kd.V_mono HO_356008.out (fun k_ hk => (⟨hk, hk.2⟩ : _ ∧ k_ ≠ gb369))) (fun _ hk => hk.2) (.string t357)) (fun _ hk => hk.2) (.string t358)) (fun _ hk => hk.2) (.string t359)) (fun _ hk => hk.2) (.int .u8 t360)) (fun _ hk => hk.2) (.int .i64 t361)) (fun _ hk => hk.2) (.int .i64 t362)) (fun _ hk => hk.2) (.int .i64 t363)) (fun _ hk => hk.2) (.int .i64 t364)) (fun _ hk => hk.2) (.slice Ao52 t365.length co52)) (fun _ hk => hk.1.1)⟩, ⟨by (with_reducible repeat (first | refine blk_drewN ?_ _ | refine blk_drew ?_ | refine blk_alloc ?_ _)); refine blk_far ?_ NB355_369.out _; (with_reducible repeat (first | refine blk_drewN ?_ _ | refine blk_drew ?_ | refine blk_alloc ?_ _)); refine blk_far ?_ NB355_369.out _; (with_reducible repeat (first | refine blk_drewN ?_ _ | refine blk_drew ?_ | refine blk_alloc ?_ _)); refine blk_far ?_ NB355_369.out _; (with_reducible repeat (first | refine blk_drewN ?_ _ | refine blk_drew ?_ | refine blk_alloc ?_ _)); refine blk_far ?_ NB355_369.out _; (with_reducible repeat (first | refine blk_drewN ?_ _ | refine blk_drew ?_ | refine blk_alloc ?_ _)); refine blk_far ?_ NB355_369.out _; (with_reducible repeat (first | refine blk_drewN ?_ _ | refine blk_drew ?_ | refine blk_alloc ?_ _)); refine blk_far ?_ NB355_369.out _; (with_reducible repeat (first | refine blk_drewN ?_ _ | refine blk_drew ?_ | refine blk_alloc ?_ _)); refine blk_far ?_ NB355_369.out _; (with_reducible repeat (first | refine blk_drewN ?_ _ | refine blk_drew ?_ | refine blk_alloc ?_ _)); refine blk_far ?_ NB355_369.out _; (with_reducible repeat (first | refine blk_drewN ?_ _ | refine blk_drew ?_ | refine blk_alloc ?_ _)); refine blk_far ?_ NB355_369.out _; (with_reducible repeat (first | refine blk_drewN ?_ _ | refine blk_drew ?_ | refine blk_alloc ?_ _)); exact BK355.out⟩, ⟨wb2_ HB.out GE355.out GE369.out⟩⟩
       rw [if_pos c27] at H
       have c27b0 : (t346 == 48) = true := beq_iff_eq.mpr c27
       have c27b1 : (t346 != 48) = false := bne_eq_false_iff_eq.mpr c27
       clear c27
       by_cases c28 : t360 = 48
       rotate_left
       ·rw [if_neg c28] at H
        have c28b0 : (t360 == 48) = false := beq_eq_false_iff_ne.mpr c28
        have c28b1 : (t360 != 48) = true := bne_iff_ne.mpr c28
        have H' := A0_ H
        clear H
        have p356 : 0 ≤ (x11_3 : Int) := wd_
        have q356 : x11_3 < (t337.length : Int) := wd_
        obtain ⟨ad356, A356_7, c356_7, e356, hx356_0, hx356_1, hx356_2, hx356_3, hx356_4, hx356_5, hx356_6, hx356_7, hl356_7, hi356_7⟩ := at_T45 (Kd.V_reads' HO_5.out).2.2 x11_3 p356 q356
        obtain rfl : ad342 = ad356 := (by injection e356)
        obtain ⟨ce356, hce356, hMe356, hcc356⟩ := Kd.V_get HO_5.out z45 x11_3 p356 (by first | exact q356 | exact wd_ | (have e_ := (Kd.V_reads' HO_5.out).1; omega))
        obtain ⟨ua356_7, uc356_7, rfl, ul356_7, ge356_7⟩ := k45_openF hMe356
        have hv356_7 := hcc356 7 _ rfl
        rw [add_field _ _ 7 (by omega)] at hv356_7
        replace hv356_7 := Option.some.inj (hv356_7.symm.trans hx356_7)
        injection hv356_7 with hva_ hvn_ hvc_
        rw [hva_] at ge356_7
        rw [hvc_] at ul356_7
        have HL356_7 := A0_ (show Kd.V (Kd.int .u8) 5 _ w.heap.size _ _ ((rd_T45 t337 x11_3).f4) from Kd.V_mk ul356_7 ge356_7)
        clear hva_ hvn_ hvc_ ge356_7 ul356_7
        clear hcc356 hce356
        have HR356_7 := A0_ hi356_7
        have HC356_7 := A0_ hl356_7
        clear hi356_7 hl356_7
        replace p356 := eq_true p356
        replace q356 := eq_true q356
        go_wp2_with (first | (go_at_call 23; (with_reducible refine (bindleref08_Find.calls k3 (fun k_ => k_ < w.heap.size) _ _ l0 ((rd_T45 t337 x11_3).f0) t357 t358 t359 t360 t361 t362 t363 t364 t365 t368 _ ?side1 A26.out).mono ?_); (case side1 => exact Kd.V_mk HC0.out (Kd.F_below (Kd.C_F k40_heap HR0.out) (wb1_ HB.out GE355.out))); rintro e w42 ⟨v366, rfl, ho0, hb⟩; have n0_ := A0_ (Vb_ (wV_ HO_5.out) hb); have n1_ := A0_ (Vb_ (wV_ HO_356008.out) hb); have n2_ := A0_ (Vb_ (wV_ HL356_7.out) hb); have n3_ := A0_ (Kd.V_lower (Kd.V_mono (ok' := fun k_ => k_ ≠ gb355) ho0 (fun k_ hk_ => Or.elim hk_ (fun hs_ => fun e_ => Nat.not_le.2 hs_ (by rw [e_]; exact GW355.out)) (fun hn_ => (Kd.freshB (g := gb355) (o := .cells #[.string t343, .string t344, .string t345, .int .u8 t346, .int .i64 t347, .int .i64 t348, .int .i64 t349, .int .i64 t350, .slice Ao22 t351.length co22] 40 (0, 0)) (wB_ BK355.out) k_ hn_)))) (below_size (wb1_ HB.out GE355.out))); have n4_ := A0_ (blk_below (g := gb355) (o := .cells #[.string t343, .string t344, .string t345, .int .u8 t346, .int .i64 t347, .int .i64 t348, .int .i64 t349, .int .i64 t350, .slice Ao22 t351.length co22] 40 (0, 0)) (wB_ BK355.out) hb); have n5_ := A0_ (Kd.C_below (by repeat (first | (with_reducible exact HR356_7.out) | (with_reducible refine Ca_ ?_ _) | (with_reducible refine CN_ ?_ _) | (with_reducible refine C1_ ?_) | exact HR356_7.out)) hb); have n6_ := A0_ (below_step (wb1_ HB.out GE355.out) hb); clear HO_5; clear HO_356008; clear HL356_7; clear BK355; clear HR356_7; clear HB; have HO_5 := n0_; have HO_356008 := n1_; have HL356_7 := n2_; have HO367 := n3_; have BK355 := n4_; have HR356_7 := n5_; have HB := n6_; clear n0_ n1_ n2_ n3_ n4_ n5_ n6_; (try clear hb); (try clear hb2); (try clear hk); (try clear hi); (try clear ho0)) | ((with_reducible refine gate_dst (N := 12) rfl ?_); (try (refine gate_guard (by rfl) ?_; dsimp only)); refine box_event ?hg (N := 12) ?hd (cs := #[.string (⟨#[]⟩ : ByteArray), .string (⟨#[]⟩ : ByteArray), .string (⟨#[]⟩ : ByteArray), .int .u8 0, .int .i64 0, .int .i64 0, .int .i64 0, .int .i64 0, .slice none 0 0]) (t := 40) ?hr ?_; (case hd => rfl); (case hg => rfl); (case hr => first | (go_simp; done) | (go_simp; rfl)); intro gb369 hg w43 hbox hb; have n0_ := A0_ (Vb_ (Kd.V_elderB (wV_ HO_5.out) gb369 (Nat.le_of_eq hg.symm)) hb); have n1_ := A0_ (Vb_ (Kd.V_elderB (wV_ HO_356008.out) gb369 (Nat.le_of_eq hg.symm)) hb); have n2_ := A0_ (Vb_ (Kd.V_elderB (wV_ HL356_7.out) gb369 (Nat.le_of_eq hg.symm)) hb); have n3_ := A0_ (Vb_ (Kd.V_elderB (wV_ HO367.out) gb369 (Nat.le_of_eq hg.symm)) hb); have n4_ := A0_ (blk_below (g := gb355) (o := .cells #[.string t343, .string t344, .string t345, .int .u8 t346, .int .i64 t347, .int .i64 t348, .int .i64 t349, .int .i64 t350, .slice Ao22 t351.length co22] 40 (0, 0)) (wB_ BK355.out) hb); have n5_ := A0_ (Kd.C_below (by repeat (first | (with_reducible exact HR356_7.out) | (with_reducible refine Ca_ ?_ _) | (with_reducible refine CN_ ?_ _) | (with_reducible refine C1_ ?_) | exact HR356_7.out)) hb); have n6_ := A0_ (below_step (wb1_ HB.out GE355.out) hb); have n7_ := A0_ (hbox); have n8_ := A0_ ((by rw [hg]; exact (below_size (wb1_ HB.out GE355.out)) : w.heap.size ≤ gb369)); have n9_ := A0_ ((by rw [hg]; exact (below_size (wb1_ HB.out GE355.out)) : w.heap.size ≤ gb369)); have n10_ := A0_ ((by rw [hg]; exact Nat.ne_of_lt (blk_lt (g := gb355) (o := .cells #[.string t343, .string t344, .string t345, .int .u8 t346, .int .i64 t347, .int .i64 t348, .int .i64 t349, .int .i64 t350, .slice Ao22 t351.length co22] 40 (0, 0)) (wB_ BK355.out)) : gb355 ≠ gb369)); have n11_ := A0_ ((by rw [hg]; exact Nat.ne_of_gt (blk_lt (g := gb355) (o := .cells #[.string t343, .string t344, .string t345, .int .u8 t346, .int .i64 t347, .int .i64 t348, .int .i64 t349, .int .i64 t350, .slice Ao22 t351.length co22] 40 (0, 0)) (wB_ BK355.out)) : gb369 ≠ gb355)); clear HO_5; clear HO_356008; clear HL356_7; clear HO367; clear BK355; clear HR356_7; clear HB; have HO_5 := n0_; have HO_356008 := n1_; have HL356_7 := n2_; have HO367 := n3_; have BK355 := n4_; have HR356_7 := n5_; have HB := n6_; have BK369 := n7_; have GW369 := n8_; have GE369 := n9_; have NB355_369 := n10_; have NB369_355 := n11_; clear n0_ n1_ n2_ n3_ n4_ n5_ n6_ n7_ n8_ n9_ n10_ n11_; clear hb hbox hg; have hnb44 := NB369_355.out; have hnc44 := NB355_369.out; have hcz45_0 : w43.cell? ⟨gb369, 0, none⟩ = some (.string (⟨#[]⟩ : ByteArray)) := (bc_ BK369.out 0).trans rfl; have hcz45_1 : w43.cell? ⟨gb369, 1, none⟩ = some (.string (⟨#[]⟩ : ByteArray)) := (bc_ BK369.out 1).trans rfl; have hcz45_2 : w43.cell? ⟨gb369, 2, none⟩ = some (.string (⟨#[]⟩ : ByteArray)) := (bc_ BK369.out 2).trans rfl; have hcz45_3 : w43.cell? ⟨gb369, 3, none⟩ = some (.int .u8 0) := (bc_ BK369.out 3).trans rfl; have hcz45_4 : w43.cell? ⟨gb369, 4, none⟩ = some (.int .i64 0) := (bc_ BK369.out 4).trans rfl; have hcz45_5 : w43.cell? ⟨gb369, 5, none⟩ = some (.int .i64 0) := (bc_ BK369.out 5).trans rfl; have hcz45_6 : w43.cell? ⟨gb369, 6, none⟩ = some (.int .i64 0) := (bc_ BK369.out 6).trans rfl; have hcz45_7 : w43.cell? ⟨gb369, 7, none⟩ = some (.int .i64 0) := (bc_ BK369.out 7).trans rfl; have hcz45_8 : w43.cell? ⟨gb369, 8, none⟩ = some (.slice none 0 0) := (bc_ BK369.out 8).trans rfl; have hfz45_0 := bf_ BK369.out 0; have hfz45_1 := bf_ BK369.out 1; have hfz45_2 := bf_ BK369.out 2; have hfz45_3 := bf_ BK369.out 3; have hfz45_4 := bf_ BK369.out 4; have hfz45_5 := bf_ BK369.out 5; have hfz45_6 := bf_ BK369.out 6; have hfz45_7 := bf_ BK369.out 7; have hfz45_8 := bf_ BK369.out 8; obtain ⟨Ao46, co46, eo46⟩ := Kd.V_slice HO367.out; subst eo46; have hcz47_0 : w43.cell? ⟨gb355, 0, none⟩ = some (.string t343) := (bc_ BK355.out 0).trans rfl; have hcz47_1 : w43.cell? ⟨gb355, 1, none⟩ = some (.string t344) := (bc_ BK355.out 1).trans rfl; have hcz47_2 : w43.cell? ⟨gb355, 2, none⟩ = some (.string t345) := (bc_ BK355.out 2).trans rfl; have hcz47_3 : w43.cell? ⟨gb355, 3, none⟩ = some (.int .u8 t346) := (bc_ BK355.out 3).trans rfl; have hcz47_4 : w43.cell? ⟨gb355, 4, none⟩ = some (.int .i64 t347) := (bc_ BK355.out 4).trans rfl; have hcz47_5 : w43.cell? ⟨gb355, 5, none⟩ = some (.int .i64 t348) := (bc_ BK355.out 5).trans rfl; have hcz47_6 : w43.cell? ⟨gb355, 6, none⟩ = some (.int .i64 t349) := (bc_ BK355.out 6).trans rfl; have hcz47_7 : w43.cell? ⟨gb355, 7, none⟩ = some (.int .i64 t350) := (bc_ BK355.out 7).trans rfl; have hcz47_8 : w43.cell? ⟨gb355, 8, none⟩ = some (.slice Ao22 t351.length co22) := (bc_ BK355.out 8).trans rfl; have hfz47_0 := bf_ BK355.out 0; have hfz47_1 := bf_ BK355.out 1; have hfz47_2 := bf_ BK355.out 2; have hfz47_3 := bf_ BK355.out 3; have hfz47_4 := bf_ BK355.out 4; have hfz47_5 := bf_ BK355.out 5; have hfz47_6 := bf_ BK355.out 6; have hfz47_7 := bf_ BK355.out 7; have hfz47_8 := bf_ BK355.out 8))
        repeat (go_quiet (first | (go_at_call 23; (with_reducible refine (bindleref08_Find.calls k3 (fun k_ => k_ < w.heap.size) _ _ l0 ((rd_T45 t337 x11_3).f0) t357 t358 t359 t360 t361 t362 t363 t364 t365 t368 _ ?side1 A26.out).mono ?_); (case side1 => exact Kd.V_mk HC0.out (Kd.F_below (Kd.C_F k40_heap HR0.out) (wb1_ HB.out GE355.out))); rintro e w42 ⟨v366, rfl, ho0, hb⟩; have n0_ := A0_ (Vb_ (wV_ HO_5.out) hb); have n1_ := A0_ (Vb_ (wV_ HO_356008.out) hb); have n2_ := A0_ (Vb_ (wV_ HL356_7.out) hb); have n3_ := A0_ (Kd.V_lower (Kd.V_mono (ok' := fun k_ => k_ ≠ gb355) ho0 (fun k_ hk_ => Or.elim hk_ (fun hs_ => fun e_ => Nat.not_le.2 hs_ (by rw [e_]; exact GW355.out)) (fun hn_ => (Kd.freshB (g := gb355) (o := .cells #[.string t343, .string t344, .string t345, .int .u8 t346, .int .i64 t347, .int .i64 t348, .int .i64 t349, .int .i64 t350, .slice Ao22 t351.length co22] 40 (0, 0)) (wB_ BK355.out) k_ hn_)))) (below_size (wb1_ HB.out GE355.out))); have n4_ := A0_ (blk_below (g := gb355) (o := .cells #[.string t343, .string t344, .string t345, .int .u8 t346, .int .i64 t347, .int .i64 t348, .int .i64 t349, .int .i64 t350, .slice Ao22 t351.length co22] 40 (0, 0)) (wB_ BK355.out) hb); have n5_ := A0_ (Kd.C_below (by repeat (first | (with_reducible exact HR356_7.out) | (with_reducible refine Ca_ ?_ _) | (with_reducible refine CN_ ?_ _) | (with_reducible refine C1_ ?_) | exact HR356_7.out)) hb); have n6_ := A0_ (below_step (wb1_ HB.out GE355.out) hb); clear HO_5; clear HO_356008; clear HL356_7; clear BK355; clear HR356_7; clear HB; have HO_5 := n0_; have HO_356008 := n1_; have HL356_7 := n2_; have HO367 := n3_; have BK355 := n4_; have HR356_7 := n5_; have HB := n6_; clear n0_ n1_ n2_ n3_ n4_ n5_ n6_; (try clear hb); (try clear hb2); (try clear hk); (try clear hi); (try clear ho0)) | ((with_reducible refine gate_dst (N := 12) rfl ?_); (try (refine gate_guard (by rfl) ?_; dsimp only)); refine box_event ?hg (N := 12) ?hd (cs := #[.string (⟨#[]⟩ : ByteArray), .string (⟨#[]⟩ : ByteArray), .string (⟨#[]⟩ : ByteArray), .int .u8 0, .int .i64 0, .int .i64 0, .int .i64 0, .int .i64 0, .slice none 0 0]) (t := 40) ?hr ?_; (case hd => rfl); (case hg => rfl); (case hr => first | (go_simp; done) | (go_simp; rfl)); intro gb369 hg w43 hbox hb; have n0_ := A0_ (Vb_ (Kd.V_elderB (wV_ HO_5.out) gb369 (Nat.le_of_eq hg.symm)) hb); have n1_ := A0_ (Vb_ (Kd.V_elderB (wV_ HO_356008.out) gb369 (Nat.le_of_eq hg.symm)) hb); have n2_ := A0_ (Vb_ (Kd.V_elderB (wV_ HL356_7.out) gb369 (Nat.le_of_eq hg.symm)) hb); have n3_ := A0_ (Vb_ (Kd.V_elderB (wV_ HO367.out) gb369 (Nat.le_of_eq hg.symm)) hb); have n4_ := A0_ (blk_below (g := gb355) (o := .cells #[.string t343, .string t344, .string t345, .int .u8 t346, .int .i64 t347, .int .i64 t348, .int .i64 t349, .int .i64 t350, .slice Ao22 t351.length co22] 40 (0, 0)) (wB_ BK355.out) hb); have n5_ := A0_ (Kd.C_below (by repeat (first | (with_reducible exact HR356_7.out) | (with_reducible refine Ca_ ?_ _) | (with_reducible refine CN_ ?_ _) | (with_reducible refine C1_ ?_) | exact HR356_7.out)) hb); have n6_ := A0_ (below_step (wb1_ HB.out GE355.out) hb); have n7_ := A0_ (hbox); have n8_ := A0_ ((by rw [hg]; exact (below_size (wb1_ HB.out GE355.out)) : w.heap.size ≤ gb369)); have n9_ := A0_ ((by rw [hg]; exact (below_size (wb1_ HB.out GE355.out)) : w.heap.size ≤ gb369)); have n10_ := A0_ ((by rw [hg]; exact Nat.ne_of_lt (blk_lt (g := gb355) (o := .cells #[.string t343, .string t344, .string t345, .int .u8 t346, .int .i64 t347, .int .i64 t348, .int .i64 t349, .int .i64 t350, .slice Ao22 t351.length co22] 40 (0, 0)) (wB_ BK355.out)) : gb355 ≠ gb369)); have n11_ := A0_ ((by rw [hg]; exact Nat.ne_of_gt (blk_lt (g := gb355) (o := .cells #[.string t343, .string t344, .string t345, .int .u8 t346, .int .i64 t347, .int .i64 t348, .int .i64 t349, .int .i64 t350, .slice Ao22 t351.length co22] 40 (0, 0)) (wB_ BK355.out)) : gb369 ≠ gb355)); clear HO_5; clear HO_356008; clear HL356_7; clear HO367; clear BK355; clear HR356_7; clear HB; have HO_5 := n0_; have HO_356008 := n1_; have HL356_7 := n2_; have HO367 := n3_; have BK355 := n4_; have HR356_7 := n5_; have HB := n6_; have BK369 := n7_; have GW369 := n8_; have GE369 := n9_; have NB355_369 := n10_; have NB369_355 := n11_; clear n0_ n1_ n2_ n3_ n4_ n5_ n6_ n7_ n8_ n9_ n10_ n11_; clear hb hbox hg; have hnb44 := NB369_355.out; have hnc44 := NB355_369.out; have hcz45_0 : w43.cell? ⟨gb369, 0, none⟩ = some (.string (⟨#[]⟩ : ByteArray)) := (bc_ BK369.out 0).trans rfl; have hcz45_1 : w43.cell? ⟨gb369, 1, none⟩ = some (.string (⟨#[]⟩ : ByteArray)) := (bc_ BK369.out 1).trans rfl; have hcz45_2 : w43.cell? ⟨gb369, 2, none⟩ = some (.string (⟨#[]⟩ : ByteArray)) := (bc_ BK369.out 2).trans rfl; have hcz45_3 : w43.cell? ⟨gb369, 3, none⟩ = some (.int .u8 0) := (bc_ BK369.out 3).trans rfl; have hcz45_4 : w43.cell? ⟨gb369, 4, none⟩ = some (.int .i64 0) := (bc_ BK369.out 4).trans rfl; have hcz45_5 : w43.cell? ⟨gb369, 5, none⟩ = some (.int .i64 0) := (bc_ BK369.out 5).trans rfl; have hcz45_6 : w43.cell? ⟨gb369, 6, none⟩ = some (.int .i64 0) := (bc_ BK369.out 6).trans rfl; have hcz45_7 : w43.cell? ⟨gb369, 7, none⟩ = some (.int .i64 0) := (bc_ BK369.out 7).trans rfl; have hcz45_8 : w43.cell? ⟨gb369, 8, none⟩ = some (.slice none 0 0) := (bc_ BK369.out 8).trans rfl; have hfz45_0 := bf_ BK369.out 0; have hfz45_1 := bf_ BK369.out 1; have hfz45_2 := bf_ BK369.out 2; have hfz45_3 := bf_ BK369.out 3; have hfz45_4 := bf_ BK369.out 4; have hfz45_5 := bf_ BK369.out 5; have hfz45_6 := bf_ BK369.out 6; have hfz45_7 := bf_ BK369.out 7; have hfz45_8 := bf_ BK369.out 8; obtain ⟨Ao46, co46, eo46⟩ := Kd.V_slice HO367.out; subst eo46; have hcz47_0 : w43.cell? ⟨gb355, 0, none⟩ = some (.string t343) := (bc_ BK355.out 0).trans rfl; have hcz47_1 : w43.cell? ⟨gb355, 1, none⟩ = some (.string t344) := (bc_ BK355.out 1).trans rfl; have hcz47_2 : w43.cell? ⟨gb355, 2, none⟩ = some (.string t345) := (bc_ BK355.out 2).trans rfl; have hcz47_3 : w43.cell? ⟨gb355, 3, none⟩ = some (.int .u8 t346) := (bc_ BK355.out 3).trans rfl; have hcz47_4 : w43.cell? ⟨gb355, 4, none⟩ = some (.int .i64 t347) := (bc_ BK355.out 4).trans rfl; have hcz47_5 : w43.cell? ⟨gb355, 5, none⟩ = some (.int .i64 t348) := (bc_ BK355.out 5).trans rfl; have hcz47_6 : w43.cell? ⟨gb355, 6, none⟩ = some (.int .i64 t349) := (bc_ BK355.out 6).trans rfl; have hcz47_7 : w43.cell? ⟨gb355, 7, none⟩ = some (.int .i64 t350) := (bc_ BK355.out 7).trans rfl; have hcz47_8 : w43.cell? ⟨gb355, 8, none⟩ = some (.slice Ao22 t351.length co22) := (bc_ BK355.out 8).trans rfl; have hfz47_0 := bf_ BK355.out 0; have hfz47_1 := bf_ BK355.out 1; have hfz47_2 := bf_ BK355.out 2; have hfz47_3 := bf_ BK355.out 3; have hfz47_4 := bf_ BK355.out 4; have hfz47_5 := bf_ BK355.out 5; have hfz47_6 := bf_ BK355.out 6; have hfz47_7 := bf_ BK355.out 7; have hfz47_8 := bf_ BK355.out 8)); try go_wp2_with (first | (go_at_call 23; (with_reducible refine (bindleref08_Find.calls k3 (fun k_ => k_ < w.heap.size) _ _ l0 ((rd_T45 t337 x11_3).f0) t357 t358 t359 t360 t361 t362 t363 t364 t365 t368 _ ?side1 A26.out).mono ?_); (case side1 => exact Kd.V_mk HC0.out (Kd.F_below (Kd.C_F k40_heap HR0.out) (wb1_ HB.out GE355.out))); rintro e w42 ⟨v366, rfl, ho0, hb⟩; have n0_ := A0_ (Vb_ (wV_ HO_5.out) hb); have n1_ := A0_ (Vb_ (wV_ HO_356008.out) hb); have n2_ := A0_ (Vb_ (wV_ HL356_7.out) hb); have n3_ := A0_ (Kd.V_lower (Kd.V_mono (ok' := fun k_ => k_ ≠ gb355) ho0 (fun k_ hk_ => Or.elim hk_ (fun hs_ => fun e_ => Nat.not_le.2 hs_ (by rw [e_]; exact GW355.out)) (fun hn_ => (Kd.freshB (g := gb355) (o := .cells #[.string t343, .string t344, .string t345, .int .u8 t346, .int .i64 t347, .int .i64 t348, .int .i64 t349, .int .i64 t350, .slice Ao22 t351.length co22] 40 (0, 0)) (wB_ BK355.out) k_ hn_)))) (below_size (wb1_ HB.out GE355.out))); have n4_ := A0_ (blk_below (g := gb355) (o := .cells #[.string t343, .string t344, .string t345, .int .u8 t346, .int .i64 t347, .int .i64 t348, .int .i64 t349, .int .i64 t350, .slice Ao22 t351.length co22] 40 (0, 0)) (wB_ BK355.out) hb); have n5_ := A0_ (Kd.C_below (by repeat (first | (with_reducible exact HR356_7.out) | (with_reducible refine Ca_ ?_ _) | (with_reducible refine CN_ ?_ _) | (with_reducible refine C1_ ?_) | exact HR356_7.out)) hb); have n6_ := A0_ (below_step (wb1_ HB.out GE355.out) hb); clear HO_5; clear HO_356008; clear HL356_7; clear BK355; clear HR356_7; clear HB; have HO_5 := n0_; have HO_356008 := n1_; have HL356_7 := n2_; have HO367 := n3_; have BK355 := n4_; have HR356_7 := n5_; have HB := n6_; clear n0_ n1_ n2_ n3_ n4_ n5_ n6_; (try clear hb); (try clear hb2); (try clear hk); (try clear hi); (try clear ho0)) | ((with_reducible refine gate_dst (N := 12) rfl ?_); (try (refine gate_guard (by rfl) ?_; dsimp only)); refine box_event ?hg (N := 12) ?hd (cs := #[.string (⟨#[]⟩ : ByteArray), .string (⟨#[]⟩ : ByteArray), .string (⟨#[]⟩ : ByteArray), .int .u8 0, .int .i64 0, .int .i64 0, .int .i64 0, .int .i64 0, .slice none 0 0]) (t := 40) ?hr ?_; (case hd => rfl); (case hg => rfl); (case hr => first | (go_simp; done) | (go_simp; rfl)); intro gb369 hg w43 hbox hb; have n0_ := A0_ (Vb_ (Kd.V_elderB (wV_ HO_5.out) gb369 (Nat.le_of_eq hg.symm)) hb); have n1_ := A0_ (Vb_ (Kd.V_elderB (wV_ HO_356008.out) gb369 (Nat.le_of_eq hg.symm)) hb); have n2_ := A0_ (Vb_ (Kd.V_elderB (wV_ HL356_7.out) gb369 (Nat.le_of_eq hg.symm)) hb); have n3_ := A0_ (Vb_ (Kd.V_elderB (wV_ HO367.out) gb369 (Nat.le_of_eq hg.symm)) hb); have n4_ := A0_ (blk_below (g := gb355) (o := .cells #[.string t343, .string t344, .string t345, .int .u8 t346, .int .i64 t347, .int .i64 t348, .int .i64 t349, .int .i64 t350, .slice Ao22 t351.length co22] 40 (0, 0)) (wB_ BK355.out) hb); have n5_ := A0_ (Kd.C_below (by repeat (first | (with_reducible exact HR356_7.out) | (with_reducible refine Ca_ ?_ _) | (with_reducible refine CN_ ?_ _) | (with_reducible refine C1_ ?_) | exact HR356_7.out)) hb); have n6_ := A0_ (below_step (wb1_ HB.out GE355.out) hb); have n7_ := A0_ (hbox); have n8_ := A0_ ((by rw [hg]; exact (below_size (wb1_ HB.out GE355.out)) : w.heap.size ≤ gb369)); have n9_ := A0_ ((by rw [hg]; exact (below_size (wb1_ HB.out GE355.out)) : w.heap.size ≤ gb369)); have n10_ := A0_ ((by rw [hg]; exact Nat.ne_of_lt (blk_lt (g := gb355) (o := .cells #[.string t343, .string t344, .string t345, .int .u8 t346, .int .i64 t347, .int .i64 t348, .int .i64 t349, .int .i64 t350, .slice Ao22 t351.length co22] 40 (0, 0)) (wB_ BK355.out)) : gb355 ≠ gb369)); have n11_ := A0_ ((by rw [hg]; exact Nat.ne_of_gt (blk_lt (g := gb355) (o := .cells #[.string t343, .string t344, .string t345, .int .u8 t346, .int .i64 t347, .int .i64 t348, .int .i64 t349, .int .i64 t350, .slice Ao22 t351.length co22] 40 (0, 0)) (wB_ BK355.out)) : gb369 ≠ gb355)); clear HO_5; clear HO_356008; clear HL356_7; clear HO367; clear BK355; clear HR356_7; clear HB; have HO_5 := n0_; have HO_356008 := n1_; have HL356_7 := n2_; have HO367 := n3_; have BK355 := n4_; have HR356_7 := n5_; have HB := n6_; have BK369 := n7_; have GW369 := n8_; have GE369 := n9_; have NB355_369 := n10_; have NB369_355 := n11_; clear n0_ n1_ n2_ n3_ n4_ n5_ n6_ n7_ n8_ n9_ n10_ n11_; clear hb hbox hg; have hnb44 := NB369_355.out; have hnc44 := NB355_369.out; have hcz45_0 : w43.cell? ⟨gb369, 0, none⟩ = some (.string (⟨#[]⟩ : ByteArray)) := (bc_ BK369.out 0).trans rfl; have hcz45_1 : w43.cell? ⟨gb369, 1, none⟩ = some (.string (⟨#[]⟩ : ByteArray)) := (bc_ BK369.out 1).trans rfl; have hcz45_2 : w43.cell? ⟨gb369, 2, none⟩ = some (.string (⟨#[]⟩ : ByteArray)) := (bc_ BK369.out 2).trans rfl; have hcz45_3 : w43.cell? ⟨gb369, 3, none⟩ = some (.int .u8 0) := (bc_ BK369.out 3).trans rfl; have hcz45_4 : w43.cell? ⟨gb369, 4, none⟩ = some (.int .i64 0) := (bc_ BK369.out 4).trans rfl; have hcz45_5 : w43.cell? ⟨gb369, 5, none⟩ = some (.int .i64 0) := (bc_ BK369.out 5).trans rfl; have hcz45_6 : w43.cell? ⟨gb369, 6, none⟩ = some (.int .i64 0) := (bc_ BK369.out 6).trans rfl; have hcz45_7 : w43.cell? ⟨gb369, 7, none⟩ = some (.int .i64 0) := (bc_ BK369.out 7).trans rfl; have hcz45_8 : w43.cell? ⟨gb369, 8, none⟩ = some (.slice none 0 0) := (bc_ BK369.out 8).trans rfl; have hfz45_0 := bf_ BK369.out 0; have hfz45_1 := bf_ BK369.out 1; have hfz45_2 := bf_ BK369.out 2; have hfz45_3 := bf_ BK369.out 3; have hfz45_4 := bf_ BK369.out 4; have hfz45_5 := bf_ BK369.out 5; have hfz45_6 := bf_ BK369.out 6; have hfz45_7 := bf_ BK369.out 7; have hfz45_8 := bf_ BK369.out 8; obtain ⟨Ao46, co46, eo46⟩ := Kd.V_slice HO367.out; subst eo46; have hcz47_0 : w43.cell? ⟨gb355, 0, none⟩ = some (.string t343) := (bc_ BK355.out 0).trans rfl; have hcz47_1 : w43.cell? ⟨gb355, 1, none⟩ = some (.string t344) := (bc_ BK355.out 1).trans rfl; have hcz47_2 : w43.cell? ⟨gb355, 2, none⟩ = some (.string t345) := (bc_ BK355.out 2).trans rfl; have hcz47_3 : w43.cell? ⟨gb355, 3, none⟩ = some (.int .u8 t346) := (bc_ BK355.out 3).trans rfl; have hcz47_4 : w43.cell? ⟨gb355, 4, none⟩ = some (.int .i64 t347) := (bc_ BK355.out 4).trans rfl; have hcz47_5 : w43.cell? ⟨gb355, 5, none⟩ = some (.int .i64 t348) := (bc_ BK355.out 5).trans rfl; have hcz47_6 : w43.cell? ⟨gb355, 6, none⟩ = some (.int .i64 t349) := (bc_ BK355.out 6).trans rfl; have hcz47_7 : w43.cell? ⟨gb355, 7, none⟩ = some (.int .i64 t350) := (bc_ BK355.out 7).trans rfl; have hcz47_8 : w43.cell? ⟨gb355, 8, none⟩ = some (.slice Ao22 t351.length co22) := (bc_ BK355.out 8).trans rfl; have hfz47_0 := bf_ BK355.out 0; have hfz47_1 := bf_ BK355.out 1; have hfz47_2 := bf_ BK355.out 2; have hfz47_3 := bf_ BK355.out 3; have hfz47_4 := bf_ BK355.out 4; have hfz47_5 := bf_ BK355.out 5; have hfz47_6 := bf_ BK355.out 6; have hfz47_7 := bf_ BK355.out 7; have hfz47_8 := bf_ BK355.out 8)))
        go_roundg k3
        case measure => have := HJ6.out; have := HK2.out; have := HK3.out; omega
        case rel => exact ⟨(x10_3), (wrap64 (x11_3 - 1)), wr_, wr_, H', ⟨by have := HJ6.out; have := HK2.out; have := HK3.out; omega⟩, ⟨by (with_reducible repeat (first | apply Va_ | apply VN_ | apply V1_)); exact Kd.V_mono (Kd.V_far (p := ⟨gb369, 8, none⟩) (Kd.V_far (p := ⟨gb369, 7, none⟩) (Kd.V_far (p := ⟨gb369, 6, none⟩) (Kd.V_far (p := ⟨gb369, 5, none⟩) (Kd.V_far (p := ⟨gb369, 4, none⟩) (Kd.V_far (p := ⟨gb369, 3, none⟩) (Kd.V_far (p := ⟨gb369, 2, none⟩) (Kd.V_far (p := ⟨gb369, 1, none⟩) (Kd.V_far (p := ⟨gb369, 0, none⟩) (Kd.V_mono HO_5.out (fun k_ hk => (⟨hk, hk.2⟩ : _ ∧ k_ ≠ gb369))) (fun _ hk => hk.2) (.string t357)) (fun _ hk => hk.2) (.string t358)) (fun _ hk => hk.2) (.string t359)) (fun _ hk => hk.2) (.int .u8 t360)) (fun _ hk => hk.2) (.int .i64 t361)) (fun _ hk => hk.2) (.int .i64 t362)) (fun _ hk => hk.2) (.int .i64 t363)) (fun _ hk => hk.2) (.int .i64 t364)) (fun _ hk => hk.2) (.slice Ao46 t365.length co46)) (fun _ hk => hk.1.1)⟩, ⟨by (with_reducible repeat (first | apply Va_ | apply VN_ | apply V1_)); exact Kd.V_mono (Kd.V_far (p := ⟨gb369, 8, none⟩) (Kd.V_far (p := ⟨gb369, 7, none⟩) (Kd.V_far (p := ⟨gb369, 6, none⟩) (Kd.V_far (p := ⟨gb369, 5, none⟩) (Kd.V_far (p := ⟨gb369, 4, none⟩) (Kd.V_far (p := ⟨gb369, 3, none⟩) (Kd.V_far (p := ⟨gb369, 2, none⟩) (Kd.V_far (p := ⟨gb369, 1, none⟩) (Kd.V_far (p := ⟨gb369, 0, none⟩) (Kd.V_mono HO_356008.out (fun k_ hk => (⟨hk, hk.2⟩ : _ ∧ k_ ≠ gb369))) (fun _ hk => hk.2) (.string t357)) (fun _ hk => hk.2) (.string t358)) (fun _ hk => hk.2) (.string t359)) (fun _ hk => hk.2) (.int .u8 t360)) (fun _ hk => hk.2) (.int .i64 t361)) (fun _ hk => hk.2) (.int .i64 t362)) (fun _ hk => hk.2) (.int .i64 t363)) (fun _ hk => hk.2) (.int .i64 t364)) (fun _ hk => hk.2) (.slice Ao46 t365.length co46)) (fun _ hk => hk.1.1)⟩, ⟨by (with_reducible repeat (first | refine blk_drewN ?_ _ | refine blk_drew ?_ | refine blk_alloc ?_ _)); refine blk_far ?_ NB355_369.out _; (with_reducible repeat (first | refine blk_drewN ?_ _ | refine blk_drew ?_ | refine blk_alloc ?_ _)); refine blk_far ?_ NB355_369.out _; (with_reducible repeat (first | refine blk_drewN ?_ _ | refine blk_drew ?_ | refine blk_alloc ?_ _)); refine blk_far ?_ NB355_369.out _; (with_reducible repeat (first | refine blk_drewN ?_ _ | refine blk_drew ?_ | refine blk_alloc ?_ _)); refine blk_far ?_ NB355_369.out _; (with_reducible repeat (first | refine blk_drewN ?_ _ | refine blk_drew ?_ | refine blk_alloc ?_ _)); refine blk_far ?_ NB355_369.out _; (with_reducible repeat (first | refine blk_drewN ?_ _ | refine blk_drew ?_ | refine blk_alloc ?_ _)); refine blk_far ?_ NB355_369.out _; (with_reducible repeat (first | refine blk_drewN ?_ _ | refine blk_drew ?_ | refine blk_alloc ?_ _)); refine blk_far ?_ NB355_369.out _; (with_reducible repeat (first | refine blk_drewN ?_ _ | refine blk_drew ?_ | refine blk_alloc ?_ _)); refine blk_far ?_ NB355_369.out _; (with_reducible repeat (first | refine blk_drewN ?_ _ | refine blk_drew ?_ | refine blk_alloc ?_ _)); refine blk_far ?_ NB355_369.out _; (with_reducible repeat (first | refine blk_drewN ?_ _ | refine blk_drew ?_ | refine blk_alloc ?_ _)); exact BK355.out⟩, ⟨wb2_ HB.out GE355.out GE369.out⟩⟩
       rw [if_pos c28] at H
       have c28b0 : (t360 == 48) = true := beq_iff_eq.mpr c28
       have c28b1 : (t360 != 48) = false := bne_eq_false_iff_eq.mpr c28
       clear c28
       by_cases c29 : t359.toList = t345.toList
       rotate_left
       ·rw [if_neg c29] at H
        have c29b0 : (t359.toList == t345.toList) = false := beq_eq_false_iff_ne.mpr c29
        have c29b1 : (t359.toList != t345.toList) = true := bne_iff_ne.mpr c29
        have H' := A0_ H
        clear H
        have p356 : 0 ≤ (x11_3 : Int) := wd_
        have q356 : x11_3 < (t337.length : Int) := wd_
        obtain ⟨ad356, A356_7, c356_7, e356, hx356_0, hx356_1, hx356_2, hx356_3, hx356_4, hx356_5, hx356_6, hx356_7, hl356_7, hi356_7⟩ := at_T45 (Kd.V_reads' HO_5.out).2.2 x11_3 p356 q356
        obtain rfl : ad342 = ad356 := (by injection e356)
        obtain ⟨ce356, hce356, hMe356, hcc356⟩ := Kd.V_get HO_5.out z45 x11_3 p356 (by first | exact q356 | exact wd_ | (have e_ := (Kd.V_reads' HO_5.out).1; omega))
        obtain ⟨ua356_7, uc356_7, rfl, ul356_7, ge356_7⟩ := k45_openF hMe356
        have hv356_7 := hcc356 7 _ rfl
        rw [add_field _ _ 7 (by omega)] at hv356_7
        replace hv356_7 := Option.some.inj (hv356_7.symm.trans hx356_7)
        injection hv356_7 with hva_ hvn_ hvc_
        rw [hva_] at ge356_7
        rw [hvc_] at ul356_7
        have HL356_7 := A0_ (show Kd.V (Kd.int .u8) 5 _ w.heap.size _ _ ((rd_T45 t337 x11_3).f4) from Kd.V_mk ul356_7 ge356_7)
        clear hva_ hvn_ hvc_ ge356_7 ul356_7
        clear hcc356 hce356
        have HR356_7 := A0_ hi356_7
        have HC356_7 := A0_ hl356_7
        clear hi356_7 hl356_7
        replace p356 := eq_true p356
        replace q356 := eq_true q356
        go_wp2_with (first | (go_at_call 23; (with_reducible refine (bindleref08_Find.calls k3 (fun k_ => k_ < w.heap.size) _ _ l0 ((rd_T45 t337 x11_3).f0) t357 t358 t359 t360 t361 t362 t363 t364 t365 t368 _ ?side1 A26.out).mono ?_); (case side1 => exact Kd.V_mk HC0.out (Kd.F_below (Kd.C_F k40_heap HR0.out) (wb1_ HB.out GE355.out))); rintro e w36 ⟨v366, rfl, ho0, hb⟩; have n0_ := A0_ (Vb_ (wV_ HO_5.out) hb); have n1_ := A0_ (Vb_ (wV_ HO_356008.out) hb); have n2_ := A0_ (Vb_ (wV_ HL356_7.out) hb); have n3_ := A0_ (Kd.V_lower (Kd.V_mono (ok' := fun k_ => k_ ≠ gb355) ho0 (fun k_ hk_ => Or.elim hk_ (fun hs_ => fun e_ => Nat.not_le.2 hs_ (by rw [e_]; exact GW355.out)) (fun hn_ => (Kd.freshB (g := gb355) (o := .cells #[.string t343, .string t344, .string t345, .int .u8 t346, .int .i64 t347, .int .i64 t348, .int .i64 t349, .int .i64 t350, .slice Ao22 t351.length co22] 40 (0, 0)) (wB_ BK355.out) k_ hn_)))) (below_size (wb1_ HB.out GE355.out))); have n4_ := A0_ (blk_below (g := gb355) (o := .cells #[.string t343, .string t344, .string t345, .int .u8 t346, .int .i64 t347, .int .i64 t348, .int .i64 t349, .int .i64 t350, .slice Ao22 t351.length co22] 40 (0, 0)) (wB_ BK355.out) hb); have n5_ := A0_ (Kd.C_below (by repeat (first | (with_reducible exact HR356_7.out) | (with_reducible refine Ca_ ?_ _) | (with_reducible refine CN_ ?_ _) | (with_reducible refine C1_ ?_) | exact HR356_7.out)) hb); have n6_ := A0_ (below_step (wb1_ HB.out GE355.out) hb); clear HO_5; clear HO_356008; clear HL356_7; clear BK355; clear HR356_7; clear HB; have HO_5 := n0_; have HO_356008 := n1_; have HL356_7 := n2_; have HO367 := n3_; have BK355 := n4_; have HR356_7 := n5_; have HB := n6_; clear n0_ n1_ n2_ n3_ n4_ n5_ n6_; (try clear hb); (try clear hb2); (try clear hk); (try clear hi); (try clear ho0)) | ((with_reducible refine gate_dst (N := 12) rfl ?_); (try (refine gate_guard (by rfl) ?_; dsimp only)); refine box_event ?hg (N := 12) ?hd (cs := #[.string (⟨#[]⟩ : ByteArray), .string (⟨#[]⟩ : ByteArray), .string (⟨#[]⟩ : ByteArray), .int .u8 0, .int .i64 0, .int .i64 0, .int .i64 0, .int .i64 0, .slice none 0 0]) (t := 40) ?hr ?_; (case hd => rfl); (case hg => rfl); (case hr => first | (go_simp; done) | (go_simp; rfl)); intro gb369 hg w37 hbox hb; have n0_ := A0_ (Vb_ (Kd.V_elderB (wV_ HO_5.out) gb369 (Nat.le_of_eq hg.symm)) hb); have n1_ := A0_ (Vb_ (Kd.V_elderB (wV_ HO_356008.out) gb369 (Nat.le_of_eq hg.symm)) hb); have n2_ := A0_ (Vb_ (Kd.V_elderB (wV_ HL356_7.out) gb369 (Nat.le_of_eq hg.symm)) hb); have n3_ := A0_ (Vb_ (Kd.V_elderB (wV_ HO367.out) gb369 (Nat.le_of_eq hg.symm)) hb); have n4_ := A0_ (blk_below (g := gb355) (o := .cells #[.string t343, .string t344, .string t345, .int .u8 t346, .int .i64 t347, .int .i64 t348, .int .i64 t349, .int .i64 t350, .slice Ao22 t351.length co22] 40 (0, 0)) (wB_ BK355.out) hb); have n5_ := A0_ (Kd.C_below (by repeat (first | (with_reducible exact HR356_7.out) | (with_reducible refine Ca_ ?_ _) | (with_reducible refine CN_ ?_ _) | (with_reducible refine C1_ ?_) | exact HR356_7.out)) hb); have n6_ := A0_ (below_step (wb1_ HB.out GE355.out) hb); have n7_ := A0_ (hbox); have n8_ := A0_ ((by rw [hg]; exact (below_size (wb1_ HB.out GE355.out)) : w.heap.size ≤ gb369)); have n9_ := A0_ ((by rw [hg]; exact (below_size (wb1_ HB.out GE355.out)) : w.heap.size ≤ gb369)); have n10_ := A0_ ((by rw [hg]; exact Nat.ne_of_lt (blk_lt (g := gb355) (o := .cells #[.string t343, .string t344, .string t345, .int .u8 t346, .int .i64 t347, .int .i64 t348, .int .i64 t349, .int .i64 t350, .slice Ao22 t351.length co22] 40 (0, 0)) (wB_ BK355.out)) : gb355 ≠ gb369)); have n11_ := A0_ ((by rw [hg]; exact Nat.ne_of_gt (blk_lt (g := gb355) (o := .cells #[.string t343, .string t344, .string t345, .int .u8 t346, .int .i64 t347, .int .i64 t348, .int .i64 t349, .int .i64 t350, .slice Ao22 t351.length co22] 40 (0, 0)) (wB_ BK355.out)) : gb369 ≠ gb355)); clear HO_5; clear HO_356008; clear HL356_7; clear HO367; clear BK355; clear HR356_7; clear HB; have HO_5 := n0_; have HO_356008 := n1_; have HL356_7 := n2_; have HO367 := n3_; have BK355 := n4_; have HR356_7 := n5_; have HB := n6_; have BK369 := n7_; have GW369 := n8_; have GE369 := n9_; have NB355_369 := n10_; have NB369_355 := n11_; clear n0_ n1_ n2_ n3_ n4_ n5_ n6_ n7_ n8_ n9_ n10_ n11_; clear hb hbox hg; have hnb38 := NB369_355.out; have hnc38 := NB355_369.out; have hcz39_0 : w37.cell? ⟨gb369, 0, none⟩ = some (.string (⟨#[]⟩ : ByteArray)) := (bc_ BK369.out 0).trans rfl; have hcz39_1 : w37.cell? ⟨gb369, 1, none⟩ = some (.string (⟨#[]⟩ : ByteArray)) := (bc_ BK369.out 1).trans rfl; have hcz39_2 : w37.cell? ⟨gb369, 2, none⟩ = some (.string (⟨#[]⟩ : ByteArray)) := (bc_ BK369.out 2).trans rfl; have hcz39_3 : w37.cell? ⟨gb369, 3, none⟩ = some (.int .u8 0) := (bc_ BK369.out 3).trans rfl; have hcz39_4 : w37.cell? ⟨gb369, 4, none⟩ = some (.int .i64 0) := (bc_ BK369.out 4).trans rfl; have hcz39_5 : w37.cell? ⟨gb369, 5, none⟩ = some (.int .i64 0) := (bc_ BK369.out 5).trans rfl; have hcz39_6 : w37.cell? ⟨gb369, 6, none⟩ = some (.int .i64 0) := (bc_ BK369.out 6).trans rfl; have hcz39_7 : w37.cell? ⟨gb369, 7, none⟩ = some (.int .i64 0) := (bc_ BK369.out 7).trans rfl; have hcz39_8 : w37.cell? ⟨gb369, 8, none⟩ = some (.slice none 0 0) := (bc_ BK369.out 8).trans rfl; have hfz39_0 := bf_ BK369.out 0; have hfz39_1 := bf_ BK369.out 1; have hfz39_2 := bf_ BK369.out 2; have hfz39_3 := bf_ BK369.out 3; have hfz39_4 := bf_ BK369.out 4; have hfz39_5 := bf_ BK369.out 5; have hfz39_6 := bf_ BK369.out 6; have hfz39_7 := bf_ BK369.out 7; have hfz39_8 := bf_ BK369.out 8; obtain ⟨Ao40, co40, eo40⟩ := Kd.V_slice HO367.out; subst eo40; have hcz41_0 : w37.cell? ⟨gb355, 0, none⟩ = some (.string t343) := (bc_ BK355.out 0).trans rfl; have hcz41_1 : w37.cell? ⟨gb355, 1, none⟩ = some (.string t344) := (bc_ BK355.out 1).trans rfl; have hcz41_2 : w37.cell? ⟨gb355, 2, none⟩ = some (.string t345) := (bc_ BK355.out 2).trans rfl; have hcz41_3 : w37.cell? ⟨gb355, 3, none⟩ = some (.int .u8 t346) := (bc_ BK355.out 3).trans rfl; have hcz41_4 : w37.cell? ⟨gb355, 4, none⟩ = some (.int .i64 t347) := (bc_ BK355.out 4).trans rfl; have hcz41_5 : w37.cell? ⟨gb355, 5, none⟩ = some (.int .i64 t348) := (bc_ BK355.out 5).trans rfl; have hcz41_6 : w37.cell? ⟨gb355, 6, none⟩ = some (.int .i64 t349) := (bc_ BK355.out 6).trans rfl; have hcz41_7 : w37.cell? ⟨gb355, 7, none⟩ = some (.int .i64 t350) := (bc_ BK355.out 7).trans rfl; have hcz41_8 : w37.cell? ⟨gb355, 8, none⟩ = some (.slice Ao22 t351.length co22) := (bc_ BK355.out 8).trans rfl; have hfz41_0 := bf_ BK355.out 0; have hfz41_1 := bf_ BK355.out 1; have hfz41_2 := bf_ BK355.out 2; have hfz41_3 := bf_ BK355.out 3; have hfz41_4 := bf_ BK355.out 4; have hfz41_5 := bf_ BK355.out 5; have hfz41_6 := bf_ BK355.out 6; have hfz41_7 := bf_ BK355.out 7; have hfz41_8 := bf_ BK355.out 8))
        repeat (go_quiet (first | (go_at_call 23; (with_reducible refine (bindleref08_Find.calls k3 (fun k_ => k_ < w.heap.size) _ _ l0 ((rd_T45 t337 x11_3).f0) t357 t358 t359 t360 t361 t362 t363 t364 t365 t368 _ ?side1 A26.out).mono ?_); (case side1 => exact Kd.V_mk HC0.out (Kd.F_below (Kd.C_F k40_heap HR0.out) (wb1_ HB.out GE355.out))); rintro e w36 ⟨v366, rfl, ho0, hb⟩; have n0_ := A0_ (Vb_ (wV_ HO_5.out) hb); have n1_ := A0_ (Vb_ (wV_ HO_356008.out) hb); have n2_ := A0_ (Vb_ (wV_ HL356_7.out) hb); have n3_ := A0_ (Kd.V_lower (Kd.V_mono (ok' := fun k_ => k_ ≠ gb355) ho0 (fun k_ hk_ => Or.elim hk_ (fun hs_ => fun e_ => Nat.not_le.2 hs_ (by rw [e_]; exact GW355.out)) (fun hn_ => (Kd.freshB (g := gb355) (o := .cells #[.string t343, .string t344, .string t345, .int .u8 t346, .int .i64 t347, .int .i64 t348, .int .i64 t349, .int .i64 t350, .slice Ao22 t351.length co22] 40 (0, 0)) (wB_ BK355.out) k_ hn_)))) (below_size (wb1_ HB.out GE355.out))); have n4_ := A0_ (blk_below (g := gb355) (o := .cells #[.string t343, .string t344, .string t345, .int .u8 t346, .int .i64 t347, .int .i64 t348, .int .i64 t349, .int .i64 t350, .slice Ao22 t351.length co22] 40 (0, 0)) (wB_ BK355.out) hb); have n5_ := A0_ (Kd.C_below (by repeat (first | (with_reducible exact HR356_7.out) | (with_reducible refine Ca_ ?_ _) | (with_reducible refine CN_ ?_ _) | (with_reducible refine C1_ ?_) | exact HR356_7.out)) hb); have n6_ := A0_ (below_step (wb1_ HB.out GE355.out) hb); clear HO_5; clear HO_356008; clear HL356_7; clear BK355; clear HR356_7; clear HB; have HO_5 := n0_; have HO_356008 := n1_; have HL356_7 := n2_; have HO367 := n3_; have BK355 := n4_; have HR356_7 := n5_; have HB := n6_; clear n0_ n1_ n2_ n3_ n4_ n5_ n6_; (try clear hb); (try clear hb2); (try clear hk); (try clear hi); (try clear ho0)) | ((with_reducible refine gate_dst (N := 12) rfl ?_); (try (refine gate_guard (by rfl) ?_; dsimp only)); refine box_event ?hg (N := 12) ?hd (cs := #[.string (⟨#[]⟩ : ByteArray), .string (⟨#[]⟩ : ByteArray), .string (⟨#[]⟩ : ByteArray), .int .u8 0, .int .i64 0, .int .i64 0, .int .i64 0, .int .i64 0, .slice none 0 0]) (t := 40) ?hr ?_; (case hd => rfl); (case hg => rfl); (case hr => first | (go_simp; done) | (go_simp; rfl)); intro gb369 hg w37 hbox hb; have n0_ := A0_ (Vb_ (Kd.V_elderB (wV_ HO_5.out) gb369 (Nat.le_of_eq hg.symm)) hb); have n1_ := A0_ (Vb_ (Kd.V_elderB (wV_ HO_356008.out) gb369 (Nat.le_of_eq hg.symm)) hb); have n2_ := A0_ (Vb_ (Kd.V_elderB (wV_ HL356_7.out) gb369 (Nat.le_of_eq hg.symm)) hb); have n3_ := A0_ (Vb_ (Kd.V_elderB (wV_ HO367.out) gb369 (Nat.le_of_eq hg.symm)) hb); have n4_ := A0_ (blk_below (g := gb355) (o := .cells #[.string t343, .string t344, .string t345, .int .u8 t346, .int .i64 t347, .int .i64 t348, .int .i64 t349, .int .i64 t350, .slice Ao22 t351.length co22] 40 (0, 0)) (wB_ BK355.out) hb); have n5_ := A0_ (Kd.C_below (by repeat (first | (with_reducible exact HR356_7.out) | (with_reducible refine Ca_ ?_ _) | (with_reducible refine CN_ ?_ _) | (with_reducible refine C1_ ?_) | exact HR356_7.out)) hb); have n6_ := A0_ (below_step (wb1_ HB.out GE355.out) hb); have n7_ := A0_ (hbox); have n8_ := A0_ ((by rw [hg]; exact (below_size (wb1_ HB.out GE355.out)) : w.heap.size ≤ gb369)); have n9_ := A0_ ((by rw [hg]; exact (below_size (wb1_ HB.out GE355.out)) : w.heap.size ≤ gb369)); have n10_ := A0_ ((by rw [hg]; exact Nat.ne_of_lt (blk_lt (g := gb355) (o := .cells #[.string t343, .string t344, .string t345, .int .u8 t346, .int .i64 t347, .int .i64 t348, .int .i64 t349, .int .i64 t350, .slice Ao22 t351.length co22] 40 (0, 0)) (wB_ BK355.out)) : gb355 ≠ gb369)); have n11_ := A0_ ((by rw [hg]; exact Nat.ne_of_gt (blk_lt (g := gb355) (o := .cells #[.string t343, .string t344, .string t345, .int .u8 t346, .int .i64 t347, .int .i64 t348, .int .i64 t349, .int .i64 t350, .slice Ao22 t351.length co22] 40 (0, 0)) (wB_ BK355.out)) : gb369 ≠ gb355)); clear HO_5; clear HO_356008; clear HL356_7; clear HO367; clear BK355; clear HR356_7; clear HB; have HO_5 := n0_; have HO_356008 := n1_; have HL356_7 := n2_; have HO367 := n3_; have BK355 := n4_; have HR356_7 := n5_; have HB := n6_; have BK369 := n7_; have GW369 := n8_; have GE369 := n9_; have NB355_369 := n10_; have NB369_355 := n11_; clear n0_ n1_ n2_ n3_ n4_ n5_ n6_ n7_ n8_ n9_ n10_ n11_; clear hb hbox hg; have hnb38 := NB369_355.out; have hnc38 := NB355_369.out; have hcz39_0 : w37.cell? ⟨gb369, 0, none⟩ = some (.string (⟨#[]⟩ : ByteArray)) := (bc_ BK369.out 0).trans rfl; have hcz39_1 : w37.cell? ⟨gb369, 1, none⟩ = some (.string (⟨#[]⟩ : ByteArray)) := (bc_ BK369.out 1).trans rfl; have hcz39_2 : w37.cell? ⟨gb369, 2, none⟩ = some (.string (⟨#[]⟩ : ByteArray)) := (bc_ BK369.out 2).trans rfl; have hcz39_3 : w37.cell? ⟨gb369, 3, none⟩ = some (.int .u8 0) := (bc_ BK369.out 3).trans rfl; have hcz39_4 : w37.cell? ⟨gb369, 4, none⟩ = some (.int .i64 0) := (bc_ BK369.out 4).trans rfl; have hcz39_5 : w37.cell? ⟨gb369, 5, none⟩ = some (.int .i64 0) := (bc_ BK369.out 5).trans rfl; have hcz39_6 : w37.cell? ⟨gb369, 6, none⟩ = some (.int .i64 0) := (bc_ BK369.out 6).trans rfl; have hcz39_7 : w37.cell? ⟨gb369, 7, none⟩ = some (.int .i64 0) := (bc_ BK369.out 7).trans rfl; have hcz39_8 : w37.cell? ⟨gb369, 8, none⟩ = some (.slice none 0 0) := (bc_ BK369.out 8).trans rfl; have hfz39_0 := bf_ BK369.out 0; have hfz39_1 := bf_ BK369.out 1; have hfz39_2 := bf_ BK369.out 2; have hfz39_3 := bf_ BK369.out 3; have hfz39_4 := bf_ BK369.out 4; have hfz39_5 := bf_ BK369.out 5; have hfz39_6 := bf_ BK369.out 6; have hfz39_7 := bf_ BK369.out 7; have hfz39_8 := bf_ BK369.out 8; obtain ⟨Ao40, co40, eo40⟩ := Kd.V_slice HO367.out; subst eo40; have hcz41_0 : w37.cell? ⟨gb355, 0, none⟩ = some (.string t343) := (bc_ BK355.out 0).trans rfl; have hcz41_1 : w37.cell? ⟨gb355, 1, none⟩ = some (.string t344) := (bc_ BK355.out 1).trans rfl; have hcz41_2 : w37.cell? ⟨gb355, 2, none⟩ = some (.string t345) := (bc_ BK355.out 2).trans rfl; have hcz41_3 : w37.cell? ⟨gb355, 3, none⟩ = some (.int .u8 t346) := (bc_ BK355.out 3).trans rfl; have hcz41_4 : w37.cell? ⟨gb355, 4, none⟩ = some (.int .i64 t347) := (bc_ BK355.out 4).trans rfl; have hcz41_5 : w37.cell? ⟨gb355, 5, none⟩ = some (.int .i64 t348) := (bc_ BK355.out 5).trans rfl; have hcz41_6 : w37.cell? ⟨gb355, 6, none⟩ = some (.int .i64 t349) := (bc_ BK355.out 6).trans rfl; have hcz41_7 : w37.cell? ⟨gb355, 7, none⟩ = some (.int .i64 t350) := (bc_ BK355.out 7).trans rfl; have hcz41_8 : w37.cell? ⟨gb355, 8, none⟩ = some (.slice Ao22 t351.length co22) := (bc_ BK355.out 8).trans rfl; have hfz41_0 := bf_ BK355.out 0; have hfz41_1 := bf_ BK355.out 1; have hfz41_2 := bf_ BK355.out 2; have hfz41_3 := bf_ BK355.out 3; have hfz41_4 := bf_ BK355.out 4; have hfz41_5 := bf_ BK355.out 5; have hfz41_6 := bf_ BK355.out 6; have hfz41_7 := bf_ BK355.out 7; have hfz41_8 := bf_ BK355.out 8)); try go_wp2_with (first | (go_at_call 23; (with_reducible refine (bindleref08_Find.calls k3 (fun k_ => k_ < w.heap.size) _ _ l0 ((rd_T45 t337 x11_3).f0) t357 t358 t359 t360 t361 t362 t363 t364 t365 t368 _ ?side1 A26.out).mono ?_); (case side1 => exact Kd.V_mk HC0.out (Kd.F_below (Kd.C_F k40_heap HR0.out) (wb1_ HB.out GE355.out))); rintro e w36 ⟨v366, rfl, ho0, hb⟩; have n0_ := A0_ (Vb_ (wV_ HO_5.out) hb); have n1_ := A0_ (Vb_ (wV_ HO_356008.out) hb); have n2_ := A0_ (Vb_ (wV_ HL356_7.out) hb); have n3_ := A0_ (Kd.V_lower (Kd.V_mono (ok' := fun k_ => k_ ≠ gb355) ho0 (fun k_ hk_ => Or.elim hk_ (fun hs_ => fun e_ => Nat.not_le.2 hs_ (by rw [e_]; exact GW355.out)) (fun hn_ => (Kd.freshB (g := gb355) (o := .cells #[.string t343, .string t344, .string t345, .int .u8 t346, .int .i64 t347, .int .i64 t348, .int .i64 t349, .int .i64 t350, .slice Ao22 t351.length co22] 40 (0, 0)) (wB_ BK355.out) k_ hn_)))) (below_size (wb1_ HB.out GE355.out))); have n4_ := A0_ (blk_below (g := gb355) (o := .cells #[.string t343, .string t344, .string t345, .int .u8 t346, .int .i64 t347, .int .i64 t348, .int .i64 t349, .int .i64 t350, .slice Ao22 t351.length co22] 40 (0, 0)) (wB_ BK355.out) hb); have n5_ := A0_ (Kd.C_below (by repeat (first | (with_reducible exact HR356_7.out) | (with_reducible refine Ca_ ?_ _) | (with_reducible refine CN_ ?_ _) | (with_reducible refine C1_ ?_) | exact HR356_7.out)) hb); have n6_ := A0_ (below_step (wb1_ HB.out GE355.out) hb); clear HO_5; clear HO_356008; clear HL356_7; clear BK355; clear HR356_7; clear HB; have HO_5 := n0_; have HO_356008 := n1_; have HL356_7 := n2_; have HO367 := n3_; have BK355 := n4_; have HR356_7 := n5_; have HB := n6_; clear n0_ n1_ n2_ n3_ n4_ n5_ n6_; (try clear hb); (try clear hb2); (try clear hk); (try clear hi); (try clear ho0)) | ((with_reducible refine gate_dst (N := 12) rfl ?_); (try (refine gate_guard (by rfl) ?_; dsimp only)); refine box_event ?hg (N := 12) ?hd (cs := #[.string (⟨#[]⟩ : ByteArray), .string (⟨#[]⟩ : ByteArray), .string (⟨#[]⟩ : ByteArray), .int .u8 0, .int .i64 0, .int .i64 0, .int .i64 0, .int .i64 0, .slice none 0 0]) (t := 40) ?hr ?_; (case hd => rfl); (case hg => rfl); (case hr => first | (go_simp; done) | (go_simp; rfl)); intro gb369 hg w37 hbox hb; have n0_ := A0_ (Vb_ (Kd.V_elderB (wV_ HO_5.out) gb369 (Nat.le_of_eq hg.symm)) hb); have n1_ := A0_ (Vb_ (Kd.V_elderB (wV_ HO_356008.out) gb369 (Nat.le_of_eq hg.symm)) hb); have n2_ := A0_ (Vb_ (Kd.V_elderB (wV_ HL356_7.out) gb369 (Nat.le_of_eq hg.symm)) hb); have n3_ := A0_ (Vb_ (Kd.V_elderB (wV_ HO367.out) gb369 (Nat.le_of_eq hg.symm)) hb); have n4_ := A0_ (blk_below (g := gb355) (o := .cells #[.string t343, .string t344, .string t345, .int .u8 t346, .int .i64 t347, .int .i64 t348, .int .i64 t349, .int .i64 t350, .slice Ao22 t351.length co22] 40 (0, 0)) (wB_ BK355.out) hb); have n5_ := A0_ (Kd.C_below (by repeat (first | (with_reducible exact HR356_7.out) | (with_reducible refine Ca_ ?_ _) | (with_reducible refine CN_ ?_ _) | (with_reducible refine C1_ ?_) | exact HR356_7.out)) hb); have n6_ := A0_ (below_step (wb1_ HB.out GE355.out) hb); have n7_ := A0_ (hbox); have n8_ := A0_ ((by rw [hg]; exact (below_size (wb1_ HB.out GE355.out)) : w.heap.size ≤ gb369)); have n9_ := A0_ ((by rw [hg]; exact (below_size (wb1_ HB.out GE355.out)) : w.heap.size ≤ gb369)); have n10_ := A0_ ((by rw [hg]; exact Nat.ne_of_lt (blk_lt (g := gb355) (o := .cells #[.string t343, .string t344, .string t345, .int .u8 t346, .int .i64 t347, .int .i64 t348, .int .i64 t349, .int .i64 t350, .slice Ao22 t351.length co22] 40 (0, 0)) (wB_ BK355.out)) : gb355 ≠ gb369)); have n11_ := A0_ ((by rw [hg]; exact Nat.ne_of_gt (blk_lt (g := gb355) (o := .cells #[.string t343, .string t344, .string t345, .int .u8 t346, .int .i64 t347, .int .i64 t348, .int .i64 t349, .int .i64 t350, .slice Ao22 t351.length co22] 40 (0, 0)) (wB_ BK355.out)) : gb369 ≠ gb355)); clear HO_5; clear HO_356008; clear HL356_7; clear HO367; clear BK355; clear HR356_7; clear HB; have HO_5 := n0_; have HO_356008 := n1_; have HL356_7 := n2_; have HO367 := n3_; have BK355 := n4_; have HR356_7 := n5_; have HB := n6_; have BK369 := n7_; have GW369 := n8_; have GE369 := n9_; have NB355_369 := n10_; have NB369_355 := n11_; clear n0_ n1_ n2_ n3_ n4_ n5_ n6_ n7_ n8_ n9_ n10_ n11_; clear hb hbox hg; have hnb38 := NB369_355.out; have hnc38 := NB355_369.out; have hcz39_0 : w37.cell? ⟨gb369, 0, none⟩ = some (.string (⟨#[]⟩ : ByteArray)) := (bc_ BK369.out 0).trans rfl; have hcz39_1 : w37.cell? ⟨gb369, 1, none⟩ = some (.string (⟨#[]⟩ : ByteArray)) := (bc_ BK369.out 1).trans rfl; have hcz39_2 : w37.cell? ⟨gb369, 2, none⟩ = some (.string (⟨#[]⟩ : ByteArray)) := (bc_ BK369.out 2).trans rfl; have hcz39_3 : w37.cell? ⟨gb369, 3, none⟩ = some (.int .u8 0) := (bc_ BK369.out 3).trans rfl; have hcz39_4 : w37.cell? ⟨gb369, 4, none⟩ = some (.int .i64 0) := (bc_ BK369.out 4).trans rfl; have hcz39_5 : w37.cell? ⟨gb369, 5, none⟩ = some (.int .i64 0) := (bc_ BK369.out 5).trans rfl; have hcz39_6 : w37.cell? ⟨gb369, 6, none⟩ = some (.int .i64 0) := (bc_ BK369.out 6).trans rfl; have hcz39_7 : w37.cell? ⟨gb369, 7, none⟩ = some (.int .i64 0) := (bc_ BK369.out 7).trans rfl; have hcz39_8 : w37.cell? ⟨gb369, 8, none⟩ = some (.slice none 0 0) := (bc_ BK369.out 8).trans rfl; have hfz39_0 := bf_ BK369.out 0; have hfz39_1 := bf_ BK369.out 1; have hfz39_2 := bf_ BK369.out 2; have hfz39_3 := bf_ BK369.out 3; have hfz39_4 := bf_ BK369.out 4; have hfz39_5 := bf_ BK369.out 5; have hfz39_6 := bf_ BK369.out 6; have hfz39_7 := bf_ BK369.out 7; have hfz39_8 := bf_ BK369.out 8; obtain ⟨Ao40, co40, eo40⟩ := Kd.V_slice HO367.out; subst eo40; have hcz41_0 : w37.cell? ⟨gb355, 0, none⟩ = some (.string t343) := (bc_ BK355.out 0).trans rfl; have hcz41_1 : w37.cell? ⟨gb355, 1, none⟩ = some (.string t344) := (bc_ BK355.out 1).trans rfl; have hcz41_2 : w37.cell? ⟨gb355, 2, none⟩ = some (.string t345) := (bc_ BK355.out 2).trans rfl; have hcz41_3 : w37.cell? ⟨gb355, 3, none⟩ = some (.int .u8 t346) := (bc_ BK355.out 3).trans rfl; have hcz41_4 : w37.cell? ⟨gb355, 4, none⟩ = some (.int .i64 t347) := (bc_ BK355.out 4).trans rfl; have hcz41_5 : w37.cell? ⟨gb355, 5, none⟩ = some (.int .i64 t348) := (bc_ BK355.out 5).trans rfl; have hcz41_6 : w37.cell? ⟨gb355, 6, none⟩ = some (.int .i64 t349) := (bc_ BK355.out 6).trans rfl; have hcz41_7 : w37.cell? ⟨gb355, 7, none⟩ = some (.int .i64 t350) := (bc_ BK355.out 7).trans rfl; have hcz41_8 : w37.cell? ⟨gb355, 8, none⟩ = some (.slice Ao22 t351.length co22) := (bc_ BK355.out 8).trans rfl; have hfz41_0 := bf_ BK355.out 0; have hfz41_1 := bf_ BK355.out 1; have hfz41_2 := bf_ BK355.out 2; have hfz41_3 := bf_ BK355.out 3; have hfz41_4 := bf_ BK355.out 4; have hfz41_5 := bf_ BK355.out 5; have hfz41_6 := bf_ BK355.out 6; have hfz41_7 := bf_ BK355.out 7; have hfz41_8 := bf_ BK355.out 8)))
        go_roundg k3
        case measure => have := HJ6.out; have := HK2.out; have := HK3.out; omega
        case rel => exact ⟨(x10_3), (wrap64 (x11_3 - 1)), wr_, wr_, H', ⟨by have := HJ6.out; have := HK2.out; have := HK3.out; omega⟩, ⟨by (with_reducible repeat (first | apply Va_ | apply VN_ | apply V1_)); exact Kd.V_mono (Kd.V_far (p := ⟨gb369, 8, none⟩) (Kd.V_far (p := ⟨gb369, 7, none⟩) (Kd.V_far (p := ⟨gb369, 6, none⟩) (Kd.V_far (p := ⟨gb369, 5, none⟩) (Kd.V_far (p := ⟨gb369, 4, none⟩) (Kd.V_far (p := ⟨gb369, 3, none⟩) (Kd.V_far (p := ⟨gb369, 2, none⟩) (Kd.V_far (p := ⟨gb369, 1, none⟩) (Kd.V_far (p := ⟨gb369, 0, none⟩) (Kd.V_mono HO_5.out (fun k_ hk => (⟨hk, hk.2⟩ : _ ∧ k_ ≠ gb369))) (fun _ hk => hk.2) (.string t357)) (fun _ hk => hk.2) (.string t358)) (fun _ hk => hk.2) (.string t359)) (fun _ hk => hk.2) (.int .u8 t360)) (fun _ hk => hk.2) (.int .i64 t361)) (fun _ hk => hk.2) (.int .i64 t362)) (fun _ hk => hk.2) (.int .i64 t363)) (fun _ hk => hk.2) (.int .i64 t364)) (fun _ hk => hk.2) (.slice Ao40 t365.length co40)) (fun _ hk => hk.1.1)⟩, ⟨by (with_reducible repeat (first | apply Va_ | apply VN_ | apply V1_)); exact Kd.V_mono (Kd.V_far (p := ⟨gb369, 8, none⟩) (Kd.V_far (p := ⟨gb369, 7, none⟩) (Kd.V_far (p := ⟨gb369, 6, none⟩) (Kd.V_far (p := ⟨gb369, 5, none⟩) (Kd.V_far (p := ⟨gb369, 4, none⟩) (Kd.V_far (p := ⟨gb369, 3, none⟩) (Kd.V_far (p := ⟨gb369, 2, none⟩) (Kd.V_far (p := ⟨gb369, 1, none⟩) (Kd.V_far (p := ⟨gb369, 0, none⟩) (Kd.V_mono HO_356008.out (fun k_ hk => (⟨hk, hk.2⟩ : _ ∧ k_ ≠ gb369))) (fun _ hk => hk.2) (.string t357)) (fun _ hk => hk.2) (.string t358)) (fun _ hk => hk.2) (.string t359)) (fun _ hk => hk.2) (.int .u8 t360)) (fun _ hk => hk.2) (.int .i64 t361)) (fun _ hk => hk.2) (.int .i64 t362)) (fun _ hk => hk.2) (.int .i64 t363)) (fun _ hk => hk.2) (.int .i64 t364)) (fun _ hk => hk.2) (.slice Ao40 t365.length co40)) (fun _ hk => hk.1.1)⟩, ⟨by (with_reducible repeat (first | refine blk_drewN ?_ _ | refine blk_drew ?_ | refine blk_alloc ?_ _)); refine blk_far ?_ NB355_369.out _; (with_reducible repeat (first | refine blk_drewN ?_ _ | refine blk_drew ?_ | refine blk_alloc ?_ _)); refine blk_far ?_ NB355_369.out _; (with_reducible repeat (first | refine blk_drewN ?_ _ | refine blk_drew ?_ | refine blk_alloc ?_ _)); refine blk_far ?_ NB355_369.out _; (with_reducible repeat (first | refine blk_drewN ?_ _ | refine blk_drew ?_ | refine blk_alloc ?_ _)); refine blk_far ?_ NB355_369.out _; (with_reducible repeat (first | refine blk_drewN ?_ _ | refine blk_drew ?_ | refine blk_alloc ?_ _)); refine blk_far ?_ NB355_369.out _; (with_reducible repeat (first | refine blk_drewN ?_ _ | refine blk_drew ?_ | refine blk_alloc ?_ _)); refine blk_far ?_ NB355_369.out _; (with_reducible repeat (first | refine blk_drewN ?_ _ | refine blk_drew ?_ | refine blk_alloc ?_ _)); refine blk_far ?_ NB355_369.out _; (with_reducible repeat (first | refine blk_drewN ?_ _ | refine blk_drew ?_ | refine blk_alloc ?_ _)); refine blk_far ?_ NB355_369.out _; (with_reducible repeat (first | refine blk_drewN ?_ _ | refine blk_drew ?_ | refine blk_alloc ?_ _)); refine blk_far ?_ NB355_369.out _; (with_reducible repeat (first | refine blk_drewN ?_ _ | refine blk_drew ?_ | refine blk_alloc ?_ _)); exact BK355.out⟩, ⟨wb2_ HB.out GE355.out GE369.out⟩⟩
       rw [if_pos c29] at H
       have c29b0 : (t359.toList == t345.toList) = true := beq_iff_eq.mpr c29
       have c29b1 : (t359.toList != t345.toList) = false := bne_eq_false_iff_eq.mpr c29
       clear c29
       have H' := A0_ H
       clear H
       have p356 : 0 ≤ (x11_3 : Int) := wd_
       have q356 : x11_3 < (t337.length : Int) := wd_
       obtain ⟨ad356, A356_7, c356_7, e356, hx356_0, hx356_1, hx356_2, hx356_3, hx356_4, hx356_5, hx356_6, hx356_7, hl356_7, hi356_7⟩ := at_T45 (Kd.V_reads' HO_5.out).2.2 x11_3 p356 q356
       obtain rfl : ad342 = ad356 := (by injection e356)
       obtain ⟨ce356, hce356, hMe356, hcc356⟩ := Kd.V_get HO_5.out z45 x11_3 p356 (by first | exact q356 | exact wd_ | (have e_ := (Kd.V_reads' HO_5.out).1; omega))
       obtain ⟨ua356_7, uc356_7, rfl, ul356_7, ge356_7⟩ := k45_openF hMe356
       have hv356_7 := hcc356 7 _ rfl
       rw [add_field _ _ 7 (by omega)] at hv356_7
       replace hv356_7 := Option.some.inj (hv356_7.symm.trans hx356_7)
       injection hv356_7 with hva_ hvn_ hvc_
       rw [hva_] at ge356_7
       rw [hvc_] at ul356_7
       have HL356_7 := A0_ (show Kd.V (Kd.int .u8) 5 _ w.heap.size _ _ ((rd_T45 t337 x11_3).f4) from Kd.V_mk ul356_7 ge356_7)
       clear hva_ hvn_ hvc_ ge356_7 ul356_7
       clear hcc356 hce356
       have HR356_7 := A0_ hi356_7
       have HC356_7 := A0_ hl356_7
       clear hi356_7 hl356_7
       replace p356 := eq_true p356
       replace q356 := eq_true q356
       go_wp2_with (first | (go_at_call 23; (with_reducible refine (bindleref08_Find.calls k3 (fun k_ => k_ < w.heap.size) _ _ l0 ((rd_T45 t337 x11_3).f0) t357 t358 t359 t360 t361 t362 t363 t364 t365 t368 _ ?side1 A26.out).mono ?_); (case side1 => exact Kd.V_mk HC0.out (Kd.F_below (Kd.C_F k40_heap HR0.out) (wb1_ HB.out GE355.out))); rintro e w30 ⟨v366, rfl, ho0, hb⟩; have n0_ := A0_ (Vb_ (wV_ HO_5.out) hb); have n1_ := A0_ (Vb_ (wV_ HO_356008.out) hb); have n2_ := A0_ (Vb_ (wV_ HL356_7.out) hb); have n3_ := A0_ (Kd.V_lower (Kd.V_mono (ok' := fun k_ => k_ ≠ gb355) ho0 (fun k_ hk_ => Or.elim hk_ (fun hs_ => fun e_ => Nat.not_le.2 hs_ (by rw [e_]; exact GW355.out)) (fun hn_ => (Kd.freshB (g := gb355) (o := .cells #[.string t343, .string t344, .string t345, .int .u8 t346, .int .i64 t347, .int .i64 t348, .int .i64 t349, .int .i64 t350, .slice Ao22 t351.length co22] 40 (0, 0)) (wB_ BK355.out) k_ hn_)))) (below_size (wb1_ HB.out GE355.out))); have n4_ := A0_ (blk_below (g := gb355) (o := .cells #[.string t343, .string t344, .string t345, .int .u8 t346, .int .i64 t347, .int .i64 t348, .int .i64 t349, .int .i64 t350, .slice Ao22 t351.length co22] 40 (0, 0)) (wB_ BK355.out) hb); have n5_ := A0_ (Kd.C_below (by repeat (first | (with_reducible exact HR356_7.out) | (with_reducible refine Ca_ ?_ _) | (with_reducible refine CN_ ?_ _) | (with_reducible refine C1_ ?_) | exact HR356_7.out)) hb); have n6_ := A0_ (below_step (wb1_ HB.out GE355.out) hb); clear HO_5; clear HO_356008; clear HL356_7; clear BK355; clear HR356_7; clear HB; have HO_5 := n0_; have HO_356008 := n1_; have HL356_7 := n2_; have HO367 := n3_; have BK355 := n4_; have HR356_7 := n5_; have HB := n6_; clear n0_ n1_ n2_ n3_ n4_ n5_ n6_; (try clear hb); (try clear hb2); (try clear hk); (try clear hi); (try clear ho0)) | ((with_reducible refine gate_dst (N := 12) rfl ?_); (try (refine gate_guard (by rfl) ?_; dsimp only)); refine box_event ?hg (N := 12) ?hd (cs := #[.string (⟨#[]⟩ : ByteArray), .string (⟨#[]⟩ : ByteArray), .string (⟨#[]⟩ : ByteArray), .int .u8 0, .int .i64 0, .int .i64 0, .int .i64 0, .int .i64 0, .slice none 0 0]) (t := 40) ?hr ?_; (case hd => rfl); (case hg => rfl); (case hr => first | (go_simp; done) | (go_simp; rfl)); intro gb369 hg w31 hbox hb; have n0_ := A0_ (Vb_ (Kd.V_elderB (wV_ HO_5.out) gb369 (Nat.le_of_eq hg.symm)) hb); have n1_ := A0_ (Vb_ (Kd.V_elderB (wV_ HO_356008.out) gb369 (Nat.le_of_eq hg.symm)) hb); have n2_ := A0_ (Vb_ (Kd.V_elderB (wV_ HL356_7.out) gb369 (Nat.le_of_eq hg.symm)) hb); have n3_ := A0_ (Vb_ (Kd.V_elderB (wV_ HO367.out) gb369 (Nat.le_of_eq hg.symm)) hb); have n4_ := A0_ (blk_below (g := gb355) (o := .cells #[.string t343, .string t344, .string t345, .int .u8 t346, .int .i64 t347, .int .i64 t348, .int .i64 t349, .int .i64 t350, .slice Ao22 t351.length co22] 40 (0, 0)) (wB_ BK355.out) hb); have n5_ := A0_ (Kd.C_below (by repeat (first | (with_reducible exact HR356_7.out) | (with_reducible refine Ca_ ?_ _) | (with_reducible refine CN_ ?_ _) | (with_reducible refine C1_ ?_) | exact HR356_7.out)) hb); have n6_ := A0_ (below_step (wb1_ HB.out GE355.out) hb); have n7_ := A0_ (hbox); have n8_ := A0_ ((by rw [hg]; exact (below_size (wb1_ HB.out GE355.out)) : w.heap.size ≤ gb369)); have n9_ := A0_ ((by rw [hg]; exact (below_size (wb1_ HB.out GE355.out)) : w.heap.size ≤ gb369)); have n10_ := A0_ ((by rw [hg]; exact Nat.ne_of_lt (blk_lt (g := gb355) (o := .cells #[.string t343, .string t344, .string t345, .int .u8 t346, .int .i64 t347, .int .i64 t348, .int .i64 t349, .int .i64 t350, .slice Ao22 t351.length co22] 40 (0, 0)) (wB_ BK355.out)) : gb355 ≠ gb369)); have n11_ := A0_ ((by rw [hg]; exact Nat.ne_of_gt (blk_lt (g := gb355) (o := .cells #[.string t343, .string t344, .string t345, .int .u8 t346, .int .i64 t347, .int .i64 t348, .int .i64 t349, .int .i64 t350, .slice Ao22 t351.length co22] 40 (0, 0)) (wB_ BK355.out)) : gb369 ≠ gb355)); clear HO_5; clear HO_356008; clear HL356_7; clear HO367; clear BK355; clear HR356_7; clear HB; have HO_5 := n0_; have HO_356008 := n1_; have HL356_7 := n2_; have HO367 := n3_; have BK355 := n4_; have HR356_7 := n5_; have HB := n6_; have BK369 := n7_; have GW369 := n8_; have GE369 := n9_; have NB355_369 := n10_; have NB369_355 := n11_; clear n0_ n1_ n2_ n3_ n4_ n5_ n6_ n7_ n8_ n9_ n10_ n11_; clear hb hbox hg; have hnb32 := NB369_355.out; have hnc32 := NB355_369.out; have hcz33_0 : w31.cell? ⟨gb369, 0, none⟩ = some (.string (⟨#[]⟩ : ByteArray)) := (bc_ BK369.out 0).trans rfl; have hcz33_1 : w31.cell? ⟨gb369, 1, none⟩ = some (.string (⟨#[]⟩ : ByteArray)) := (bc_ BK369.out 1).trans rfl; have hcz33_2 : w31.cell? ⟨gb369, 2, none⟩ = some (.string (⟨#[]⟩ : ByteArray)) := (bc_ BK369.out 2).trans rfl; have hcz33_3 : w31.cell? ⟨gb369, 3, none⟩ = some (.int .u8 0) := (bc_ BK369.out 3).trans rfl; have hcz33_4 : w31.cell? ⟨gb369, 4, none⟩ = some (.int .i64 0) := (bc_ BK369.out 4).trans rfl; have hcz33_5 : w31.cell? ⟨gb369, 5, none⟩ = some (.int .i64 0) := (bc_ BK369.out 5).trans rfl; have hcz33_6 : w31.cell? ⟨gb369, 6, none⟩ = some (.int .i64 0) := (bc_ BK369.out 6).trans rfl; have hcz33_7 : w31.cell? ⟨gb369, 7, none⟩ = some (.int .i64 0) := (bc_ BK369.out 7).trans rfl; have hcz33_8 : w31.cell? ⟨gb369, 8, none⟩ = some (.slice none 0 0) := (bc_ BK369.out 8).trans rfl; have hfz33_0 := bf_ BK369.out 0; have hfz33_1 := bf_ BK369.out 1; have hfz33_2 := bf_ BK369.out 2; have hfz33_3 := bf_ BK369.out 3; have hfz33_4 := bf_ BK369.out 4; have hfz33_5 := bf_ BK369.out 5; have hfz33_6 := bf_ BK369.out 6; have hfz33_7 := bf_ BK369.out 7; have hfz33_8 := bf_ BK369.out 8; obtain ⟨Ao34, co34, eo34⟩ := Kd.V_slice HO367.out; subst eo34; have hcz35_0 : w31.cell? ⟨gb355, 0, none⟩ = some (.string t343) := (bc_ BK355.out 0).trans rfl; have hcz35_1 : w31.cell? ⟨gb355, 1, none⟩ = some (.string t344) := (bc_ BK355.out 1).trans rfl; have hcz35_2 : w31.cell? ⟨gb355, 2, none⟩ = some (.string t345) := (bc_ BK355.out 2).trans rfl; have hcz35_3 : w31.cell? ⟨gb355, 3, none⟩ = some (.int .u8 t346) := (bc_ BK355.out 3).trans rfl; have hcz35_4 : w31.cell? ⟨gb355, 4, none⟩ = some (.int .i64 t347) := (bc_ BK355.out 4).trans rfl; have hcz35_5 : w31.cell? ⟨gb355, 5, none⟩ = some (.int .i64 t348) := (bc_ BK355.out 5).trans rfl; have hcz35_6 : w31.cell? ⟨gb355, 6, none⟩ = some (.int .i64 t349) := (bc_ BK355.out 6).trans rfl; have hcz35_7 : w31.cell? ⟨gb355, 7, none⟩ = some (.int .i64 t350) := (bc_ BK355.out 7).trans rfl; have hcz35_8 : w31.cell? ⟨gb355, 8, none⟩ = some (.slice Ao22 t351.length co22) := (bc_ BK355.out 8).trans rfl; have hfz35_0 := bf_ BK355.out 0; have hfz35_1 := bf_ BK355.out 1; have hfz35_2 := bf_ BK355.out 2; have hfz35_3 := bf_ BK355.out 3; have hfz35_4 := bf_ BK355.out 4; have hfz35_5 := bf_ BK355.out 5; have hfz35_6 := bf_ BK355.out 6; have hfz35_7 := bf_ BK355.out 7; have hfz35_8 := bf_ BK355.out 8))
       repeat (go_quiet (first | (go_at_call 23; (with_reducible refine (bindleref08_Find.calls k3 (fun k_ => k_ < w.heap.size) _ _ l0 ((rd_T45 t337 x11_3).f0) t357 t358 t359 t360 t361 t362 t363 t364 t365 t368 _ ?side1 A26.out).mono ?_); (case side1 => exact Kd.V_mk HC0.out (Kd.F_below (Kd.C_F k40_heap HR0.out) (wb1_ HB.out GE355.out))); rintro e w30 ⟨v366, rfl, ho0, hb⟩; have n0_ := A0_ (Vb_ (wV_ HO_5.out) hb); have n1_ := A0_ (Vb_ (wV_ HO_356008.out) hb); have n2_ := A0_ (Vb_ (wV_ HL356_7.out) hb); have n3_ := A0_ (Kd.V_lower (Kd.V_mono (ok' := fun k_ => k_ ≠ gb355) ho0 (fun k_ hk_ => Or.elim hk_ (fun hs_ => fun e_ => Nat.not_le.2 hs_ (by rw [e_]; exact GW355.out)) (fun hn_ => (Kd.freshB (g := gb355) (o := .cells #[.string t343, .string t344, .string t345, .int .u8 t346, .int .i64 t347, .int .i64 t348, .int .i64 t349, .int .i64 t350, .slice Ao22 t351.length co22] 40 (0, 0)) (wB_ BK355.out) k_ hn_)))) (below_size (wb1_ HB.out GE355.out))); have n4_ := A0_ (blk_below (g := gb355) (o := .cells #[.string t343, .string t344, .string t345, .int .u8 t346, .int .i64 t347, .int .i64 t348, .int .i64 t349, .int .i64 t350, .slice Ao22 t351.length co22] 40 (0, 0)) (wB_ BK355.out) hb); have n5_ := A0_ (Kd.C_below (by repeat (first | (with_reducible exact HR356_7.out) | (with_reducible refine Ca_ ?_ _) | (with_reducible refine CN_ ?_ _) | (with_reducible refine C1_ ?_) | exact HR356_7.out)) hb); have n6_ := A0_ (below_step (wb1_ HB.out GE355.out) hb); clear HO_5; clear HO_356008; clear HL356_7; clear BK355; clear HR356_7; clear HB; have HO_5 := n0_; have HO_356008 := n1_; have HL356_7 := n2_; have HO367 := n3_; have BK355 := n4_; have HR356_7 := n5_; have HB := n6_; clear n0_ n1_ n2_ n3_ n4_ n5_ n6_; (try clear hb); (try clear hb2); (try clear hk); (try clear hi); (try clear ho0)) | ((with_reducible refine gate_dst (N := 12) rfl ?_); (try (refine gate_guard (by rfl) ?_; dsimp only)); refine box_event ?hg (N := 12) ?hd (cs := #[.string (⟨#[]⟩ : ByteArray), .string (⟨#[]⟩ : ByteArray), .string (⟨#[]⟩ : ByteArray), .int .u8 0, .int .i64 0, .int .i64 0, .int .i64 0, .int .i64 0, .slice none 0 0]) (t := 40) ?hr ?_; (case hd => rfl); (case hg => rfl); (case hr => first | (go_simp; done) | (go_simp; rfl)); intro gb369 hg w31 hbox hb; have n0_ := A0_ (Vb_ (Kd.V_elderB (wV_ HO_5.out) gb369 (Nat.le_of_eq hg.symm)) hb); have n1_ := A0_ (Vb_ (Kd.V_elderB (wV_ HO_356008.out) gb369 (Nat.le_of_eq hg.symm)) hb); have n2_ := A0_ (Vb_ (Kd.V_elderB (wV_ HL356_7.out) gb369 (Nat.le_of_eq hg.symm)) hb); have n3_ := A0_ (Vb_ (Kd.V_elderB (wV_ HO367.out) gb369 (Nat.le_of_eq hg.symm)) hb); have n4_ := A0_ (blk_below (g := gb355) (o := .cells #[.string t343, .string t344, .string t345, .int .u8 t346, .int .i64 t347, .int .i64 t348, .int .i64 t349, .int .i64 t350, .slice Ao22 t351.length co22] 40 (0, 0)) (wB_ BK355.out) hb); have n5_ := A0_ (Kd.C_below (by repeat (first | (with_reducible exact HR356_7.out) | (with_reducible refine Ca_ ?_ _) | (with_reducible refine CN_ ?_ _) | (with_reducible refine C1_ ?_) | exact HR356_7.out)) hb); have n6_ := A0_ (below_step (wb1_ HB.out GE355.out) hb); have n7_ := A0_ (hbox); have n8_ := A0_ ((by rw [hg]; exact (below_size (wb1_ HB.out GE355.out)) : w.heap.size ≤ gb369)); have n9_ := A0_ ((by rw [hg]; exact (below_size (wb1_ HB.out GE355.out)) : w.heap.size ≤ gb369)); have n10_ := A0_ ((by rw [hg]; exact Nat.ne_of_lt (blk_lt (g := gb355) (o := .cells #[.string t343, .string t344, .string t345, .int .u8 t346, .int .i64 t347, .int .i64 t348, .int .i64 t349, .int .i64 t350, .slice Ao22 t351.length co22] 40 (0, 0)) (wB_ BK355.out)) : gb355 ≠ gb369)); have n11_ := A0_ ((by rw [hg]; exact Nat.ne_of_gt (blk_lt (g := gb355) (o := .cells #[.string t343, .string t344, .string t345, .int .u8 t346, .int .i64 t347, .int .i64 t348, .int .i64 t349, .int .i64 t350, .slice Ao22 t351.length co22] 40 (0, 0)) (wB_ BK355.out)) : gb369 ≠ gb355)); clear HO_5; clear HO_356008; clear HL356_7; clear HO367; clear BK355; clear HR356_7; clear HB; have HO_5 := n0_; have HO_356008 := n1_; have HL356_7 := n2_; have HO367 := n3_; have BK355 := n4_; have HR356_7 := n5_; have HB := n6_; have BK369 := n7_; have GW369 := n8_; have GE369 := n9_; have NB355_369 := n10_; have NB369_355 := n11_; clear n0_ n1_ n2_ n3_ n4_ n5_ n6_ n7_ n8_ n9_ n10_ n11_; clear hb hbox hg; have hnb32 := NB369_355.out; have hnc32 := NB355_369.out; have hcz33_0 : w31.cell? ⟨gb369, 0, none⟩ = some (.string (⟨#[]⟩ : ByteArray)) := (bc_ BK369.out 0).trans rfl; have hcz33_1 : w31.cell? ⟨gb369, 1, none⟩ = some (.string (⟨#[]⟩ : ByteArray)) := (bc_ BK369.out 1).trans rfl; have hcz33_2 : w31.cell? ⟨gb369, 2, none⟩ = some (.string (⟨#[]⟩ : ByteArray)) := (bc_ BK369.out 2).trans rfl; have hcz33_3 : w31.cell? ⟨gb369, 3, none⟩ = some (.int .u8 0) := (bc_ BK369.out 3).trans rfl; have hcz33_4 : w31.cell? ⟨gb369, 4, none⟩ = some (.int .i64 0) := (bc_ BK369.out 4).trans rfl; have hcz33_5 : w31.cell? ⟨gb369, 5, none⟩ = some (.int .i64 0) := (bc_ BK369.out 5).trans rfl; have hcz33_6 : w31.cell? ⟨gb369, 6, none⟩ = some (.int .i64 0) := (bc_ BK369.out 6).trans rfl; have hcz33_7 : w31.cell? ⟨gb369, 7, none⟩ = some (.int .i64 0) := (bc_ BK369.out 7).trans rfl; have hcz33_8 : w31.cell? ⟨gb369, 8, none⟩ = some (.slice none 0 0) := (bc_ BK369.out 8).trans rfl; have hfz33_0 := bf_ BK369.out 0; have hfz33_1 := bf_ BK369.out 1; have hfz33_2 := bf_ BK369.out 2; have hfz33_3 := bf_ BK369.out 3; have hfz33_4 := bf_ BK369.out 4; have hfz33_5 := bf_ BK369.out 5; have hfz33_6 := bf_ BK369.out 6; have hfz33_7 := bf_ BK369.out 7; have hfz33_8 := bf_ BK369.out 8; obtain ⟨Ao34, co34, eo34⟩ := Kd.V_slice HO367.out; subst eo34; have hcz35_0 : w31.cell? ⟨gb355, 0, none⟩ = some (.string t343) := (bc_ BK355.out 0).trans rfl; have hcz35_1 : w31.cell? ⟨gb355, 1, none⟩ = some (.string t344) := (bc_ BK355.out 1).trans rfl; have hcz35_2 : w31.cell? ⟨gb355, 2, none⟩ = some (.string t345) := (bc_ BK355.out 2).trans rfl; have hcz35_3 : w31.cell? ⟨gb355, 3, none⟩ = some (.int .u8 t346) := (bc_ BK355.out 3).trans rfl; have hcz35_4 : w31.cell? ⟨gb355, 4, none⟩ = some (.int .i64 t347) := (bc_ BK355.out 4).trans rfl; have hcz35_5 : w31.cell? ⟨gb355, 5, none⟩ = some (.int .i64 t348) := (bc_ BK355.out 5).trans rfl; have hcz35_6 : w31.cell? ⟨gb355, 6, none⟩ = some (.int .i64 t349) := (bc_ BK355.out 6).trans rfl; have hcz35_7 : w31.cell? ⟨gb355, 7, none⟩ = some (.int .i64 t350) := (bc_ BK355.out 7).trans rfl; have hcz35_8 : w31.cell? ⟨gb355, 8, none⟩ = some (.slice Ao22 t351.length co22) := (bc_ BK355.out 8).trans rfl; have hfz35_0 := bf_ BK355.out 0; have hfz35_1 := bf_ BK355.out 1; have hfz35_2 := bf_ BK355.out 2; have hfz35_3 := bf_ BK355.out 3; have hfz35_4 := bf_ BK355.out 4; have hfz35_5 := bf_ BK355.out 5; have hfz35_6 := bf_ BK355.out 6; have hfz35_7 := bf_ BK355.out 7; have hfz35_8 := bf_ BK355.out 8)); try go_wp2_with (first | (go_at_call 23; (with_reducible refine (bindleref08_Find.calls k3 (fun k_ => k_ < w.heap.size) _ _ l0 ((rd_T45 t337 x11_3).f0) t357 t358 t359 t360 t361 t362 t363 t364 t365 t368 _ ?side1 A26.out).mono ?_); (case side1 => exact Kd.V_mk HC0.out (Kd.F_below (Kd.C_F k40_heap HR0.out) (wb1_ HB.out GE355.out))); rintro e w30 ⟨v366, rfl, ho0, hb⟩; have n0_ := A0_ (Vb_ (wV_ HO_5.out) hb); have n1_ := A0_ (Vb_ (wV_ HO_356008.out) hb); have n2_ := A0_ (Vb_ (wV_ HL356_7.out) hb); have n3_ := A0_ (Kd.V_lower (Kd.V_mono (ok' := fun k_ => k_ ≠ gb355) ho0 (fun k_ hk_ => Or.elim hk_ (fun hs_ => fun e_ => Nat.not_le.2 hs_ (by rw [e_]; exact GW355.out)) (fun hn_ => (Kd.freshB (g := gb355) (o := .cells #[.string t343, .string t344, .string t345, .int .u8 t346, .int .i64 t347, .int .i64 t348, .int .i64 t349, .int .i64 t350, .slice Ao22 t351.length co22] 40 (0, 0)) (wB_ BK355.out) k_ hn_)))) (below_size (wb1_ HB.out GE355.out))); have n4_ := A0_ (blk_below (g := gb355) (o := .cells #[.string t343, .string t344, .string t345, .int .u8 t346, .int .i64 t347, .int .i64 t348, .int .i64 t349, .int .i64 t350, .slice Ao22 t351.length co22] 40 (0, 0)) (wB_ BK355.out) hb); have n5_ := A0_ (Kd.C_below (by repeat (first | (with_reducible exact HR356_7.out) | (with_reducible refine Ca_ ?_ _) | (with_reducible refine CN_ ?_ _) | (with_reducible refine C1_ ?_) | exact HR356_7.out)) hb); have n6_ := A0_ (below_step (wb1_ HB.out GE355.out) hb); clear HO_5; clear HO_356008; clear HL356_7; clear BK355; clear HR356_7; clear HB; have HO_5 := n0_; have HO_356008 := n1_; have HL356_7 := n2_; have HO367 := n3_; have BK355 := n4_; have HR356_7 := n5_; have HB := n6_; clear n0_ n1_ n2_ n3_ n4_ n5_ n6_; (try clear hb); (try clear hb2); (try clear hk); (try clear hi); (try clear ho0)) | ((with_reducible refine gate_dst (N := 12) rfl ?_); (try (refine gate_guard (by rfl) ?_; dsimp only)); refine box_event ?hg (N := 12) ?hd (cs := #[.string (⟨#[]⟩ : ByteArray), .string (⟨#[]⟩ : ByteArray), .string (⟨#[]⟩ : ByteArray), .int .u8 0, .int .i64 0, .int .i64 0, .int .i64 0, .int .i64 0, .slice none 0 0]) (t := 40) ?hr ?_; (case hd => rfl); (case hg => rfl); (case hr => first | (go_simp; done) | (go_simp; rfl)); intro gb369 hg w31 hbox hb; have n0_ := A0_ (Vb_ (Kd.V_elderB (wV_ HO_5.out) gb369 (Nat.le_of_eq hg.symm)) hb); have n1_ := A0_ (Vb_ (Kd.V_elderB (wV_ HO_356008.out) gb369 (Nat.le_of_eq hg.symm)) hb); have n2_ := A0_ (Vb_ (Kd.V_elderB (wV_ HL356_7.out) gb369 (Nat.le_of_eq hg.symm)) hb); have n3_ := A0_ (Vb_ (Kd.V_elderB (wV_ HO367.out) gb369 (Nat.le_of_eq hg.symm)) hb); have n4_ := A0_ (blk_below (g := gb355) (o := .cells #[.string t343, .string t344, .string t345, .int .u8 t346, .int .i64 t347, .int .i64 t348, .int .i64 t349, .int .i64 t350, .slice Ao22 t351.length co22] 40 (0, 0)) (wB_ BK355.out) hb); have n5_ := A0_ (Kd.C_below (by repeat (first | (with_reducible exact HR356_7.out) | (with_reducible refine Ca_ ?_ _) | (with_reducible refine CN_ ?_ _) | (with_reducible refine C1_ ?_) | exact HR356_7.out)) hb); have n6_ := A0_ (below_step (wb1_ HB.out GE355.out) hb); have n7_ := A0_ (hbox); have n8_ := A0_ ((by rw [hg]; exact (below_size (wb1_ HB.out GE355.out)) : w.heap.size ≤ gb369)); have n9_ := A0_ ((by rw [hg]; exact (below_size (wb1_ HB.out GE355.out)) : w.heap.size ≤ gb369)); have n10_ := A0_ ((by rw [hg]; exact Nat.ne_of_lt (blk_lt (g := gb355) (o := .cells #[.string t343, .string t344, .string t345, .int .u8 t346, .int .i64 t347, .int .i64 t348, .int .i64 t349, .int .i64 t350, .slice Ao22 t351.length co22] 40 (0, 0)) (wB_ BK355.out)) : gb355 ≠ gb369)); have n11_ := A0_ ((by rw [hg]; exact Nat.ne_of_gt (blk_lt (g := gb355) (o := .cells #[.string t343, .string t344, .string t345, .int .u8 t346, .int .i64 t347, .int .i64 t348, .int .i64 t349, .int .i64 t350, .slice Ao22 t351.length co22] 40 (0, 0)) (wB_ BK355.out)) : gb369 ≠ gb355)); clear HO_5; clear HO_356008; clear HL356_7; clear HO367; clear BK355; clear HR356_7; clear HB; have HO_5 := n0_; have HO_356008 := n1_; have HL356_7 := n2_; have HO367 := n3_; have BK355 := n4_; have HR356_7 := n5_; have HB := n6_; have BK369 := n7_; have GW369 := n8_; have GE369 := n9_; have NB355_369 := n10_; have NB369_355 := n11_; clear n0_ n1_ n2_ n3_ n4_ n5_ n6_ n7_ n8_ n9_ n10_ n11_; clear hb hbox hg; have hnb32 := NB369_355.out; have hnc32 := NB355_369.out; have hcz33_0 : w31.cell? ⟨gb369, 0, none⟩ = some (.string (⟨#[]⟩ : ByteArray)) := (bc_ BK369.out 0).trans rfl; have hcz33_1 : w31.cell? ⟨gb369, 1, none⟩ = some (.string (⟨#[]⟩ : ByteArray)) := (bc_ BK369.out 1).trans rfl; have hcz33_2 : w31.cell? ⟨gb369, 2, none⟩ = some (.string (⟨#[]⟩ : ByteArray)) := (bc_ BK369.out 2).trans rfl; have hcz33_3 : w31.cell? ⟨gb369, 3, none⟩ = some (.int .u8 0) := (bc_ BK369.out 3).trans rfl; have hcz33_4 : w31.cell? ⟨gb369, 4, none⟩ = some (.int .i64 0) := (bc_ BK369.out 4).trans rfl; have hcz33_5 : w31.cell? ⟨gb369, 5, none⟩ = some (.int .i64 0) := (bc_ BK369.out 5).trans rfl; have hcz33_6 : w31.cell? ⟨gb369, 6, none⟩ = some (.int .i64 0) := (bc_ BK369.out 6).trans rfl; have hcz33_7 : w31.cell? ⟨gb369, 7, none⟩ = some (.int .i64 0) := (bc_ BK369.out 7).trans rfl; have hcz33_8 : w31.cell? ⟨gb369, 8, none⟩ = some (.slice none 0 0) := (bc_ BK369.out 8).trans rfl; have hfz33_0 := bf_ BK369.out 0; have hfz33_1 := bf_ BK369.out 1; have hfz33_2 := bf_ BK369.out 2; have hfz33_3 := bf_ BK369.out 3; have hfz33_4 := bf_ BK369.out 4; have hfz33_5 := bf_ BK369.out 5; have hfz33_6 := bf_ BK369.out 6; have hfz33_7 := bf_ BK369.out 7; have hfz33_8 := bf_ BK369.out 8; obtain ⟨Ao34, co34, eo34⟩ := Kd.V_slice HO367.out; subst eo34; have hcz35_0 : w31.cell? ⟨gb355, 0, none⟩ = some (.string t343) := (bc_ BK355.out 0).trans rfl; have hcz35_1 : w31.cell? ⟨gb355, 1, none⟩ = some (.string t344) := (bc_ BK355.out 1).trans rfl; have hcz35_2 : w31.cell? ⟨gb355, 2, none⟩ = some (.string t345) := (bc_ BK355.out 2).trans rfl; have hcz35_3 : w31.cell? ⟨gb355, 3, none⟩ = some (.int .u8 t346) := (bc_ BK355.out 3).trans rfl; have hcz35_4 : w31.cell? ⟨gb355, 4, none⟩ = some (.int .i64 t347) := (bc_ BK355.out 4).trans rfl; have hcz35_5 : w31.cell? ⟨gb355, 5, none⟩ = some (.int .i64 t348) := (bc_ BK355.out 5).trans rfl; have hcz35_6 : w31.cell? ⟨gb355, 6, none⟩ = some (.int .i64 t349) := (bc_ BK355.out 6).trans rfl; have hcz35_7 : w31.cell? ⟨gb355, 7, none⟩ = some (.int .i64 t350) := (bc_ BK355.out 7).trans rfl; have hcz35_8 : w31.cell? ⟨gb355, 8, none⟩ = some (.slice Ao22 t351.length co22) := (bc_ BK355.out 8).trans rfl; have hfz35_0 := bf_ BK355.out 0; have hfz35_1 := bf_ BK355.out 1; have hfz35_2 := bf_ BK355.out 2; have hfz35_3 := bf_ BK355.out 3; have hfz35_4 := bf_ BK355.out 4; have hfz35_5 := bf_ BK355.out 5; have hfz35_6 := bf_ BK355.out 6; have hfz35_7 := bf_ BK355.out 7; have hfz35_8 := bf_ BK355.out 8)))
       go_roundg k3
       case measure => have := HJ6.out; have := HK2.out; have := HK3.out; omega
       case rel => exact ⟨(x11_3), (wrap64 (x11_3 - 1)), wr_, wr_, H', ⟨by have := HJ6.out; have := HK2.out; have := HK3.out; omega⟩, ⟨by (with_reducible repeat (first | apply Va_ | apply VN_ | apply V1_)); exact Kd.V_mono (Kd.V_far (p := ⟨gb369, 8, none⟩) (Kd.V_far (p := ⟨gb369, 7, none⟩) (Kd.V_far (p := ⟨gb369, 6, none⟩) (Kd.V_far (p := ⟨gb369, 5, none⟩) (Kd.V_far (p := ⟨gb369, 4, none⟩) (Kd.V_far (p := ⟨gb369, 3, none⟩) (Kd.V_far (p := ⟨gb369, 2, none⟩) (Kd.V_far (p := ⟨gb369, 1, none⟩) (Kd.V_far (p := ⟨gb369, 0, none⟩) (Kd.V_mono HO_5.out (fun k_ hk => (⟨hk, hk.2⟩ : _ ∧ k_ ≠ gb369))) (fun _ hk => hk.2) (.string t357)) (fun _ hk => hk.2) (.string t358)) (fun _ hk => hk.2) (.string t359)) (fun _ hk => hk.2) (.int .u8 t360)) (fun _ hk => hk.2) (.int .i64 t361)) (fun _ hk => hk.2) (.int .i64 t362)) (fun _ hk => hk.2) (.int .i64 t363)) (fun _ hk => hk.2) (.int .i64 t364)) (fun _ hk => hk.2) (.slice Ao34 t365.length co34)) (fun _ hk => hk.1.1)⟩, ⟨by (with_reducible repeat (first | apply Va_ | apply VN_ | apply V1_)); exact Kd.V_mono (Kd.V_far (p := ⟨gb369, 8, none⟩) (Kd.V_far (p := ⟨gb369, 7, none⟩) (Kd.V_far (p := ⟨gb369, 6, none⟩) (Kd.V_far (p := ⟨gb369, 5, none⟩) (Kd.V_far (p := ⟨gb369, 4, none⟩) (Kd.V_far (p := ⟨gb369, 3, none⟩) (Kd.V_far (p := ⟨gb369, 2, none⟩) (Kd.V_far (p := ⟨gb369, 1, none⟩) (Kd.V_far (p := ⟨gb369, 0, none⟩) (Kd.V_mono HO_356008.out (fun k_ hk => (⟨hk, hk.2⟩ : _ ∧ k_ ≠ gb369))) (fun _ hk => hk.2) (.string t357)) (fun _ hk => hk.2) (.string t358)) (fun _ hk => hk.2) (.string t359)) (fun _ hk => hk.2) (.int .u8 t360)) (fun _ hk => hk.2) (.int .i64 t361)) (fun _ hk => hk.2) (.int .i64 t362)) (fun _ hk => hk.2) (.int .i64 t363)) (fun _ hk => hk.2) (.int .i64 t364)) (fun _ hk => hk.2) (.slice Ao34 t365.length co34)) (fun _ hk => hk.1.1)⟩, ⟨by (with_reducible repeat (first | refine blk_drewN ?_ _ | refine blk_drew ?_ | refine blk_alloc ?_ _)); refine blk_far ?_ NB355_369.out _; (with_reducible repeat (first | refine blk_drewN ?_ _ | refine blk_drew ?_ | refine blk_alloc ?_ _)); refine blk_far ?_ NB355_369.out _; (with_reducible repeat (first | refine blk_drewN ?_ _ | refine blk_drew ?_ | refine blk_alloc ?_ _)); refine blk_far ?_ NB355_369.out _; (with_reducible repeat (first | refine blk_drewN ?_ _ | refine blk_drew ?_ | refine blk_alloc ?_ _)); refine blk_far ?_ NB355_369.out _; (with_reducible repeat (first | refine blk_drewN ?_ _ | refine blk_drew ?_ | refine blk_alloc ?_ _)); refine blk_far ?_ NB355_369.out _; (with_reducible repeat (first | refine blk_drewN ?_ _ | refine blk_drew ?_ | refine blk_alloc ?_ _)); refine blk_far ?_ NB355_369.out _; (with_reducible repeat (first | refine blk_drewN ?_ _ | refine blk_drew ?_ | refine blk_alloc ?_ _)); refine blk_far ?_ NB355_369.out _; (with_reducible repeat (first | refine blk_drewN ?_ _ | refine blk_drew ?_ | refine blk_alloc ?_ _)); refine blk_far ?_ NB355_369.out _; (with_reducible repeat (first | refine blk_drewN ?_ _ | refine blk_drew ?_ | refine blk_alloc ?_ _)); refine blk_far ?_ NB355_369.out _; (with_reducible repeat (first | refine blk_drewN ?_ _ | refine blk_drew ?_ | refine blk_alloc ?_ _)); exact BK355.out⟩, ⟨wb2_ HB.out GE355.out GE369.out⟩⟩
end Go.Proofs.YtfljbidecljlcaaDoor.Print

namespace Go.Proofs.YtfljbidecljlcaaDoor
open Go.RowKit Go.Proofs.YtfljbidecljlcaaDoor.Print Go.Proofs.YtfljbidecljlcaaDoorW.PrintWords
set_option linter.unusedVariables false
theorem answers11f : bindlelaw11_answers.f = some true := by kernel_rfl
def one (xs : List Node) (k i : Nat) : Bool := decide ((xs.getD i z40).f3 = 48 ∧ (xs.getD k z40).f3 = 48 ∧ (xs.getD k z40).f2 = (xs.getD i z40).f2)
theorem gd {xs : List Node} {i : Nat} (h : i < xs.length) : xs.getD i z40 = xs[i] := by rw [List.getD_eq_getElem?_getD, List.getElem?_eq_getElem h]; rfl
theorem gd_app {xs : List Node} {x : Node} {i : Nat} (h : i < xs.length) : (xs ++ [x]).getD i z40 = xs.getD i z40 := by
 rw [List.getD_eq_getElem?_getD, List.getD_eq_getElem?_getD, List.getElem?_append_left h]
theorem gd_last {xs : List Node} {x : Node} : (xs ++ [x]).getD xs.length z40 = x := by
 rw [List.getD_eq_getElem?_getD, List.getElem?_append_right (Nat.le_refl _)]; simp
structure LfInv (xs : List Node) (s : MemSt) : Prop where
 len : s.out.length = xs.length
 some_ : ∀ key r, lk s.first key = some r → ∃ k, k < xs.length ∧ (xs.getD k z40).f3 = 48 ∧ (xs.getD k z40).f2.data.toList = key ∧ r = (xs.getD k z40).f0 ∧ ∀ j, j < k → ¬ ((xs.getD j z40).f3 = 48 ∧ (xs.getD j z40).f2.data.toList = key)
 none_ : ∀ key, lk s.first key = none → ∀ k, k < xs.length → ¬ ((xs.getD k z40).f3 = 48 ∧ (xs.getD k z40).f2.data.toList = key)
 path : ∀ (i : Nat) (hi : i < s.out.length), s.out[i].f0 = (xs.getD i z40).f0
 hard : ∀ (i : Nat) (hi : i < s.out.length) (k : Nat), k < i → one xs k i = true → (∀ j, j < k → one xs j i = false) → s.out[i].f2 = 49 ∧ s.out[i].f1 = (xs.getD k z40).f0 ∧ s.out[i].f4 = []
 file : ∀ (i : Nat) (hi : i < s.out.length), (∀ j, j < i → one xs j i = false) → s.out[i].f2 = (xs.getD i z40).f3
theorem one_app {xs : List Node} {x : Node} {k i : Nat} (hk : k < xs.length) (hi : i < xs.length) : one (xs ++ [x]) k i = one xs k i := by
 unfold one; rw [gd_app hk, gd_app hi]
theorem lfinv_step {xs : List Node} {s : MemSt} (h : LfInv xs s) (x : Node) (sn : List ByteArray) : LfInv (xs ++ [x]) ⟨sn, (memF s.first x).2, s.out ++ [(memF s.first x).1]⟩ := by
 have hold : ∀ (i : Nat) (hi : i < s.out.length), (s.out ++ [(memF s.first x).1])[i]'(by simp; omega) = s.out[i] := fun i hi => List.getElem_append_left hi
 have hnew : ∀ (i : Nat) (hi : i < (s.out ++ [(memF s.first x).1]).length), ¬ i < s.out.length → i = s.out.length ∧ (s.out ++ [(memF s.first x).1])[i] = (memF s.first x).1 := fun i hi hn => by
  simp at hi
  obtain rfl : i = s.out.length := by omega
  exact ⟨rfl, by rw [List.getElem_append_right (Nat.le_refl _)]; simp⟩
 have honel : ∀ j, j < xs.length → (one (xs ++ [x]) j xs.length = true ↔ x.f3 = 48 ∧ (xs.getD j z40).f3 = 48 ∧ (xs.getD j z40).f2 = x.f2) := fun j hj => by
  unfold one; rw [gd_app hj, gd_last, decide_eq_true_iff]
 refine ⟨by simp [h.len], ?_, ?_, ?_, ?_, ?_⟩
 ·intro key r hk
  have hkeep : ∀ key r, lk s.first key = some r → ∃ k, k < (xs ++ [x]).length ∧ ((xs ++ [x]).getD k z40).f3 = 48 ∧ ((xs ++ [x]).getD k z40).f2.data.toList = key ∧ r = ((xs ++ [x]).getD k z40).f0 ∧ ∀ j, j < k → ¬ (((xs ++ [x]).getD j z40).f3 = 48 ∧ ((xs ++ [x]).getD j z40).f2.data.toList = key) := fun key r hk => by
   obtain ⟨k, h1, h2, h3, h4, h5⟩ := h.some_ key r hk
   exact ⟨k, by simp; omega, by rw [gd_app h1]; exact h2, by rw [gd_app h1]; exact h3, by rw [gd_app h1]; exact h4, fun j hj => by rw [gd_app (by omega)]; exact h5 j hj⟩
  dsimp only at hk
  unfold memF at hk
  by_cases h48 : x.f3 = 48
  ·rw [if_pos h48] at hk
   cases hl : lk s.first x.f2.data.toList with
   | some q => rw [hl] at hk; exact hkeep key r hk
   | none =>
    rw [hl] at hk
    dsimp only at hk
    rw [lk] at hk
    by_cases he : key = x.f2.data.toList
    ·rw [if_pos he] at hk
     cases hk
     exact ⟨xs.length, by simp, by rw [gd_last]; exact h48, by rw [gd_last]; exact he.symm, by rw [gd_last], fun j hj => by rw [gd_app hj, he]; exact h.none_ _ hl j hj⟩
    ·rw [if_neg he] at hk
     exact hkeep key r hk
  ·rw [if_neg h48] at hk; exact hkeep key r hk
 ·intro key hk k hkl
  have hlast : ¬ (x.f3 = 48 ∧ x.f2.data.toList = key) ∧ lk s.first key = none := by
   dsimp only at hk
   unfold memF at hk
   by_cases h48 : x.f3 = 48
   ·rw [if_pos h48] at hk
    cases hl : lk s.first x.f2.data.toList with
    | some q =>
     rw [hl] at hk
     refine ⟨fun ⟨_, he⟩ => ?_, hk⟩
     dsimp only at hk
     rw [← he, hl] at hk
     cases hk
    | none =>
     rw [hl] at hk
     dsimp only at hk
     rw [lk] at hk
     by_cases he : key = x.f2.data.toList
     ·rw [if_pos he] at hk; cases hk
     ·rw [if_neg he] at hk
      exact ⟨fun ⟨_, e⟩ => he e.symm, hk⟩
   ·rw [if_neg h48] at hk
    exact ⟨fun ⟨e, _⟩ => h48 e, hk⟩
  by_cases hx : k < xs.length
  ·rw [gd_app hx]; exact h.none_ key hlast.2 k hx
  ·simp at hkl
   obtain rfl : k = xs.length := by omega
   rw [gd_last]; exact hlast.1
 ·intro i hi
  by_cases hil : i < s.out.length
  ·rw [hold i hil, gd_app (by rw [← h.len]; exact hil)]; exact h.path i hil
  ·obtain ⟨rfl, he⟩ := hnew i hi hil
   rw [he, h.len, gd_last]
   unfold memF
   split
   ·split <;> rfl
   ·rfl
 ·intro i hi k hki h1 hmin
  by_cases hil : i < s.out.length
  ·have hx : i < xs.length := by rw [← h.len]; exact hil
   rw [hold i hil, gd_app (by omega)]
   rw [one_app (by omega) hx] at h1
   exact h.hard i hil k hki h1 (fun j hj => by have := hmin j hj; rwa [one_app (by omega) hx] at this)
  ·obtain ⟨rfl, he⟩ := hnew i hi hil
   rw [h.len] at hki h1 hmin
   obtain ⟨e1, e2, e3⟩ := (honel k hki).1 h1
   rw [he, gd_app hki]
   unfold memF
   rw [if_pos e1]
   cases hl : lk s.first x.f2.data.toList with
   | none => exact absurd ⟨e2, by rw [e3]⟩ (h.none_ _ hl k hki)
   | some r =>
    refine ⟨rfl, ?_, rfl⟩
    show r = _
    obtain ⟨k2, g1, g2, g3, g4, g5⟩ := h.some_ _ _ hl
    rw [g4]
    rcases Nat.lt_trichotomy k k2 with h2 | h2 | h2
    ·exact absurd ⟨e2, by rw [e3]⟩ (g5 k h2)
    ·rw [h2]
    ·have := hmin k2 h2
     rw [(honel k2 g1).2 ⟨e1, g2, ba_data.1 g3⟩] at this
     cases this
 ·intro i hi hmin
  by_cases hil : i < s.out.length
  ·have hx : i < xs.length := by rw [← h.len]; exact hil
   rw [hold i hil, gd_app hx]
   exact h.file i hil (fun j hj => by have := hmin j hj; rwa [one_app (by omega) hx] at this)
  ·obtain ⟨rfl, he⟩ := hnew i hi hil
   rw [h.len] at hmin
   rw [he, h.len, gd_last]
   unfold memF
   by_cases h48 : x.f3 = 48
   ·rw [if_pos h48]
    cases hl : lk s.first x.f2.data.toList with
    | none => exact h48.symm
    | some r =>
     obtain ⟨k2, g1, g2, g3, g4, g5⟩ := h.some_ _ _ hl
     have := hmin k2 g1
     rw [(honel k2 g1).2 ⟨h48, g2, ba_data.1 g3⟩] at this
     cases this
   ·rw [if_neg h48]
theorem finv_fold (l : List Node) : ∀ (rest : List ByteArray) (xs : List Node) (s s' : MemSt), LfInv xs s → rest.foldlM (stepM l) s = some s' → ∃ ys : List Node, LfInv (xs ++ ys) s' ∧ ys.length = rest.length ∧ ∀ y ∈ ys, findF l y.f0 = some y := by
 intro rest
 induction rest with
 | nil => intro xs s s' h he; obtain rfl : s = s' := Option.some.inj he; exact ⟨[], by rw [List.append_nil]; exact h, rfl, by simp⟩
 | cons p rest ih =>
  intro xs s s' h he
  rw [List.foldlM_cons] at he
  cases hs : stepM l s p with
  | none => rw [hs] at he; cases he
  | some s1 =>
   rw [hs] at he
   unfold stepM at hs
   cases hf : findF l p with
   | none => rw [hf] at hs; cases hs
   | some x =>
    rw [hf] at hs
    dsimp only at hs
    split at hs
    ·cases hs
    ·simp only [Option.some.injEq] at hs
     subst hs
     obtain ⟨ys, h1, h2, h3⟩ := ih (xs ++ [x]) _ s' (lfinv_step h x (p :: s.seen)) he
     refine ⟨x :: ys, by rw [List.append_assoc] at h1; exact h1, by simp [h2], fun y hy => ?_⟩
     rcases List.mem_cons.1 hy with rfl | hy
     ·obtain ⟨_, e⟩ := findF_mem hf
      rw [e]; exact hf
     ·exact h3 y hy
theorem finv_nil : LfInv [] ⟨[], [], []⟩ := ⟨rfl, fun k r h => (by cases h), fun _ _ k h => absurd h (Nat.not_lt_zero _), fun i h => absurd h (Nat.not_lt_zero _), fun i h => absurd h (Nat.not_lt_zero _), fun i h => absurd h (Nat.not_lt_zero _)⟩
section
variable {l xs : List Node} {M : List Mem} {s : MemSt}
def firstFrom (xs : List Node) (i : Nat) : Nat → Nat → Nat
 | 0, f => f
 | j + 1, f => firstFrom xs i j (if one xs j i = true then j else f)
theorem firstFrom_spec (xs : List Node) (i : Nat) : ∀ (j f : Nat), j ≤ i → (f = i ∧ (∀ t, j ≤ t → t < i → one xs t i = false) ∨ j ≤ f ∧ f < i ∧ one xs f i = true ∧ ∀ t, j ≤ t → t < f → one xs t i = false) →
  (firstFrom xs i j f = i ∧ (∀ t, t < i → one xs t i = false) ∨ firstFrom xs i j f < i ∧ one xs (firstFrom xs i j f) i = true ∧ ∀ t, t < firstFrom xs i j f → one xs t i = false) := by
 intro j
 induction j with
 | zero =>
  intro f _ h
  rcases h with ⟨h1, h2⟩ | ⟨_, h1, h2, h3⟩
  ·exact .inl ⟨h1, fun t ht => h2 t (Nat.zero_le _) ht⟩
  ·exact .inr ⟨h1, h2, fun t ht => h3 t (Nat.zero_le _) ht⟩
 | succ j ih =>
  intro f hj h
  rw [firstFrom]
  apply ih _ (by omega)
  by_cases ho : one xs j i = true
  ·rw [if_pos ho]
   exact .inr ⟨Nat.le_refl _, by omega, ho, fun t h1 h2 => absurd h1 (by omega)⟩
  ·rw [if_neg ho]
   have ho' : one xs j i = false := by cases h : one xs j i with | true => exact absurd h ho | false => rfl
   rcases h with ⟨h1, h2⟩ | ⟨h0, h1, h2, h3⟩
   ·refine .inl ⟨h1, fun t ht1 ht2 => ?_⟩
    rcases Nat.eq_or_lt_of_le ht1 with rfl | h
    ·exact ho'
    ·exact h2 t h ht2
   ·refine .inr ⟨by omega, h1, h2, fun t ht1 ht2 => ?_⟩
    rcases Nat.eq_or_lt_of_le ht1 with rfl | h
    ·exact ho'
    ·exact h3 t h ht2
theorem rdM_j (l : List Mem) (j : Nat) (h : j < l.length) : rd_T45 l (j : Int) = l[j] := rdM_i l j h
theorem w_predI {n : Nat} (h2 : n ≤ 4611686018427387904) : wrap64 ((n : Int) - 1) = (n : Int) - 1 := by unfold wrap64; omega
theorem first_l1 (hlen : l.length ≤ 1000000000000) (hM : M.length ≤ 1000000000000) (hI : LfInv xs s) (hs : s.out = M) (hfx : ∀ (k : Nat) (hk : k < xs.length), findF l xs[k].f0 = some xs[k]) (i : Nat) (hi : i < M.length)
  (hnext : Ev (fun k => bindlelaw11_LinksFirst.l0 k l M ((i + 1 : Nat) : Int)) true) (x : Node) (hx : x = xs.getD i z40) :
  ∀ (j f : Nat), j ≤ i → f ≤ i → (f = i ∧ (∀ t, j ≤ t → t < i → one xs t i = false) ∨ j ≤ f ∧ f < i ∧ one xs f i = true ∧ ∀ t, j ≤ t → t < f → one xs t i = false) →
   Ev (fun k => bindlelaw11_LinksFirst.l1 k l M (i : Int) (f : Int) ((j : Int) - 1) x.f0 x.f1 x.f2 x.f3 x.f4.f0 x.f4.f1 x.f4.f2 x.f4.f3 x.f5) true := by
 have hlx : M.length = xs.length := by rw [← hs]; exact hI.len
 intro j
 induction j with
 | zero =>
  intro f _ hfi h
  have hsp := firstFrom_spec xs i 0 f (Nat.zero_le _) h
  rw [firstFrom] at hsp
  refine Ev.step (fun k => ?_) hnext
  subst hs
  rw [bindlelaw11_LinksFirst.l1, if_neg (by omega)]
  rcases hsp with ⟨h1, h2⟩ | ⟨h1, h2, h3⟩
  ·subst h1
   have hf := hI.file f hi h2
   rw [if_neg (by omega), if_pos rfl, if_pos (by omega), if_pos (by omega), rdM_j s.out f hi, if_pos (by rw [hf, hx]), w_succ (by omega)]
  ·obtain ⟨a1, a2, a3⟩ := hI.hard i hi f h1 h2 h3
   have hp := hI.path f (by omega)
   rw [if_pos (by omega), if_pos (by omega), if_pos (by omega), rdM_j s.out i hi, if_pos a1, if_pos (by omega), if_pos (by omega), rdM_j s.out f (by omega), if_pos (by rw [a2, hp]), if_neg (by rw [a3]; decide), if_neg (by omega), w_succ (by omega)]
 | succ j ih =>
  intro f hj hfi h
  have hjl : j < M.length := by omega
  have hjx : j < xs.length := by omega
  have hp : M[j].f0 = xs[j].f0 := by subst hs; rw [hI.path j hjl, gd hjx]
  have hfi' := rfind_eq l M[j].f0 hlen
  rw [hp, hfx j hjx, ← hp] at hfi'
  have hone : (if one xs j i = true then j else f) ≤ i := by split <;> omega
  have hnx := ih (if one xs j i = true then j else f) (by omega) hone (by
   by_cases ho : one xs j i = true
   ·rw [if_pos ho]
    exact .inr ⟨Nat.le_refl _, by omega, ho, fun t h1 h2 => absurd h1 (by omega)⟩
   ·rw [if_neg ho]
    have ho' : one xs j i = false := by cases h : one xs j i with | true => exact absurd h ho | false => rfl
    rcases h with ⟨h1, h2⟩ | ⟨h0, h1, h2, h3⟩
    ·refine .inl ⟨h1, fun t ht1 ht2 => ?_⟩
     rcases Nat.eq_or_lt_of_le ht1 with rfl | h
     ·exact ho'
     ·exact h2 t h ht2
    ·refine .inr ⟨by omega, h1, h2, fun t ht1 ht2 => ?_⟩
     rcases Nat.eq_or_lt_of_le ht1 with rfl | h
     ·exact ho'
     ·exact h3 t h ht2)
  have e1 : ((j + 1 : Nat) : Int) - 1 = (j : Int) := by omega
  rw [e1]
  refine Ev.step (f := fun k => (bindleref08_Find.f k l M[j].f0).bind fun bt181 => (if x.f3 = 48 then (if bt181.2.2.2.1 = 48 then (if bt181.2.2.1.toList = x.f2.toList then (bindlelaw11_LinksFirst.l1 k l M (i : Int) (j : Int) ((j : Int) - 1) x.f0 x.f1 x.f2 x.f3 x.f4.f0 x.f4.f1 x.f4.f2 x.f4.f3 x.f5) else (bindlelaw11_LinksFirst.l1 k l M (i : Int) (f : Int) ((j : Int) - 1) x.f0 x.f1 x.f2 x.f3 x.f4.f0 x.f4.f1 x.f4.f2 x.f4.f3 x.f5)) else (bindlelaw11_LinksFirst.l1 k l M (i : Int) (f : Int) ((j : Int) - 1) x.f0 x.f1 x.f2 x.f3 x.f4.f0 x.f4.f1 x.f4.f2 x.f4.f3 x.f5)) else (bindlelaw11_LinksFirst.l1 k l M (i : Int) (f : Int) ((j : Int) - 1) x.f0 x.f1 x.f2 x.f3 x.f4.f0 x.f4.f1 x.f4.f2 x.f4.f3 x.f5))) (fun k => ?_) ?_
  ·rw [bindlelaw11_LinksFirst.l1, if_pos (by omega), if_pos (by omega), if_pos (by omega), rdM_j M j hjl, w_predI (by omega)]
  ·refine Ev.bind hfi' ?_
   dsimp only [tupN]
   have hob : one xs j i = decide (x.f3 = 48 ∧ xs[j].f3 = 48 ∧ xs[j].f2 = x.f2) := by unfold one; rw [← hx, gd hjx]
   refine Ev.congr (fun k => ?_) hnx
   by_cases b1 : x.f3 = 48
   ·rw [if_pos b1]
    by_cases b2 : xs[j].f3 = 48
    ·rw [if_pos b2]
     by_cases b3 : xs[j].f2 = x.f2
     ·rw [if_pos (by rw [b3]), if_pos (by rw [hob, decide_eq_true_iff]; exact ⟨b1, b2, b3⟩)]
     ·rw [if_neg (fun e => b3 (ba_ext e)), if_neg (by rw [hob, decide_eq_true_iff]; exact fun h => b3 h.2.2)]
    ·rw [if_neg b2, if_neg (by rw [hob, decide_eq_true_iff]; exact fun h => b2 h.2.1)]
   ·rw [if_neg b1, if_neg (by rw [hob, decide_eq_true_iff]; exact fun h => b1 h.1)]
theorem first_l0 (hlen : l.length ≤ 1000000000000) (hM : M.length ≤ 1000000000000) (hI : LfInv xs s) (hs : s.out = M) (hfx : ∀ (k : Nat) (hk : k < xs.length), findF l xs[k].f0 = some xs[k]) : ∀ (d i : Nat), i + d = M.length → Ev (fun k => bindlelaw11_LinksFirst.l0 k l M (i : Int)) true := by
 have hlx : M.length = xs.length := by rw [← hs]; exact hI.len
 intro d
 induction d with
 | zero =>
  intro i hi
  exact Ev.step (f := fun _ => some true) (fun k => by rw [bindlelaw11_LinksFirst.l0, if_neg (by omega), answers11f]; rfl) (Ev.now _)
 | succ d ih =>
  intro i hi
  have hil : i < M.length := by omega
  have hix : i < xs.length := by omega
  have hp : M[i].f0 = xs[i].f0 := by subst hs; rw [hI.path i hil, gd hix]
  have hfi' := rfind_eq l M[i].f0 hlen
  rw [hp, hfx i hix, ← hp] at hfi'
  have h1 := first_l1 hlen hM hI hs hfx i hil (ih (i + 1) (by omega)) xs[i] (gd hix).symm i i (Nat.le_refl _) (Nat.le_refl _) (.inl ⟨rfl, fun t h1 h2 => absurd h1 (by omega)⟩)
  refine Ev.step (f := fun k => (bindleref08_Find.f k l M[i].f0).bind fun bt167 => (bindlelaw11_LinksFirst.l1 k l M (i : Int) (i : Int) ((i : Int) - 1) bt167.1 bt167.2.1 bt167.2.2.1 bt167.2.2.2.1 bt167.2.2.2.2.1 bt167.2.2.2.2.2.1 bt167.2.2.2.2.2.2.1 bt167.2.2.2.2.2.2.2.1 bt167.2.2.2.2.2.2.2.2.1)) (fun k => by rw [bindlelaw11_LinksFirst.l0, if_pos (by omega), if_pos (by omega), rdM_j M i hil, w_predI (by omega)]) ?_
  refine Ev.bind hfi' ?_
  exact h1
end
theorem LinksFirst_true (l : List Node) (u : List Int) (hz : ∀ x ∈ l, NodeZ x) (hlen : l.length ≤ 140737488351232) (hu : ∀ x ∈ u, 0 ≤ x ∧ x ≤ 255) : Ev (fun k => bindlelaw11_LinksFirst.f k l u) true := by
 obtain ⟨b, h1, h2⟩ := light11 l hz hlen
 unfold bindlelaw11_LinksFirst.f
 refine Ev.bind h1 ?_
 cases b with
 | false => exact Ev.congr (fun k => by rw [if_neg (by decide), answers11f]; rfl) (Ev.now _)
 | true =>
  obtain ⟨h60, hg⟩ := h2 rfl
  obtain ⟨q, h3, hq⟩ := mixed_eq l u (by omega) hu
  obtain ⟨o1, o2, o3⟩ := order_good hg hq
  obtain ⟨m1, m2, m3⟩ := members_good hg o1 o2 o3
  refine Ev.congr (fun k => by rw [if_pos rfl]) ?_
  refine Ev.bind h3 ?_
  have hlm : links_Members.f l q = some (membersF l q) := by
   unfold links_Members.f
   rw [if_pos ⟨(good_parts hg).1, nodesZ_small hz (by omega)⟩]
  have hml : (membersF l q).1.length = l.length := by rw [← List.length_map (f := fun m : Mem => m.f0), m3, o1]
  refine Ev.congr (fun k => by rw [hlm, Option.bind_some, if_pos m1, hml, bne_self_eq_false]) ?_
  have hex : ∃ s, q.foldlM (stepM l) ⟨[], [], []⟩ = some s ∧ s.out = (membersF l q).1 := by
   unfold membersF at m1 ⊢
   rw [if_neg (fun h => h o1)] at m1 ⊢
   cases hf : q.foldlM (stepM l) ⟨[], [], []⟩ with
   | none => rw [hf] at m1; cases m1
   | some s => exact ⟨s, rfl, rfl⟩
  obtain ⟨s, hf, hso⟩ := hex
  obtain ⟨xs, hI, hxl, hxf⟩ := finv_fold l q [] _ s finv_nil hf
  rw [List.nil_append] at hI
  have h0 := first_l0 (l := l) (M := (membersF l q).1) (by omega) (by omega) hI hso (fun k hk => hxf _ (List.getElem_mem hk)) (membersF l q).1.length 0 (by omega)
  exact Ev.step (fun k => by rw [bindlelaw11_LinksFirst.j0, if_neg (by decide)]; rfl) h0
end Go.Proofs.YtfljbidecljlcaaDoor

namespace Go.Proofs.YtfljbidecljlcaaDoor
open Go.RowKit Go.Lib Go.Proofs.YtfljbidecljlcaaDoorW.PrintWords
theorem laidOut : laidOutB Tryd.prog = true := by kernel_rfl
end Go.Proofs.YtfljbidecljlcaaDoor

namespace Go.Proofs.YtfljbidecljlcaaDoor
open Go.ChangeShapes Go.WideShapes Go.RowKit Go.Proofs.YtfljbidecljlcaaDoorW.PrintWords
structure Opens {α : Type} (P : Program) (d : Kd α) (t : TypeId) (B : α → Prop) : Prop where
 sz : P.cellsOf t = d.sz
 get : ∀ {H : Type} {enc : TypeId × Value → H} {W : World} {fuel : Nat} {cs : List Value} {x : DataW H × List MemPlace},
  DataW.trod enc P W 0 (fun _ => true) true fuel t cs = some x → (∀ n ∈ x.1.weights P t, n ≤ reachBytes) → ∃ a, d.K W a cs ∧ B a
theorem Opens.int {P : Program} {t : TypeId} {k : IntKind} (ht : P.underlying t = some (.int k)) (hc : P.cellsOf t = 1) : Opens P (Kd.int k) t (fun n => (Lit.int k n).wf = true) :=
 ⟨hc, fun h _ => by
  obtain ⟨n, rfl, rfl, hw⟩ := DataW.trod_int ht h
  exact ⟨n, rfl, hw⟩⟩
theorem Opens.bool {P : Program} {t : TypeId} (ht : P.underlying t = some .bool) (hc : P.cellsOf t = 1) : Opens P Kd.bool t (fun _ => True) :=
 ⟨hc, fun h _ => by
  obtain ⟨n, rfl, rfl⟩ := DataW.trod_bool ht h
  exact ⟨n, rfl, trivial⟩⟩
theorem Opens.string {P : Program} {t : TypeId} (ht : P.underlying t = some .string) (hc : P.cellsOf t = 1) : Opens P Kd.string t (fun s => s.size ≤ 140737488351232) :=
 ⟨hc, fun h hw => by
  obtain ⟨s, rfl, rfl, _⟩ := DataW.trod_string ht h
  refine ⟨s, rfl, ?_⟩
  have := hw s.data.toList.length (by simp [DataW.weights])
  have e : s.data.toList.length = s.size := by simp
  rw [e] at this
  exact this⟩
theorem each_list {α : Type} {Q : Nat → α → Prop} : ∀ n : Nat, (∀ i, i < n → ∃ x, Q i x) → ∃ xs : List α, xs.length = n ∧ ∀ i x, xs[i]? = some x → Q i x := by
 intro n
 induction n with
 | zero => exact fun _ => ⟨[], rfl, fun i x h => by simp at h⟩
 | succ n ih =>
  intro h
  obtain ⟨xs, hl, hx⟩ := ih (fun i hi => h i (by omega))
  obtain ⟨y, hy⟩ := h n (by omega)
  refine ⟨xs ++ [y], by simp [hl], fun i x hi => ?_⟩
  rcases Nat.lt_or_ge i n with h1 | h1
  ·rw [List.getElem?_append_left (by omega)] at hi
   exact hx i x hi
  ·rw [List.getElem?_append_right (by omega)] at hi
   have h0 : i - xs.length = 0 := by
    have := (List.getElem?_eq_some_iff.1 hi).1
    simp at this
    omega
   rw [h0] at hi
   simp at hi
   subst hi
   obtain rfl : i = n := by omega
   exact hy
theorem weights_all {H : Type} {P : Program} {e : TypeId} : ∀ {l : List (DataW H)} {y : DataW H}, y ∈ l → ∀ n ∈ y.weights P e, n ∈ DataW.weightsAll P e l
 | z :: r, y, hy, n, hn => by
  simp only [DataW.weightsAll, List.mem_append]
  rcases List.mem_cons.1 hy with rfl | hy
  ·exact .inl hn
  ·exact .inr (weights_all hy n hn)
theorem add_add (a : Addr) (x y : Nat) : (a.add x).add y = a.add (x + y) := by
 unfold Addr.add
 split
 ·rename_i h
  subst h
  simp
 ·rename_i h
  split
  ·rename_i h2
   subst h2
   simp [h]
  ·rw [if_neg (by omega)]
   simp [Nat.add_assoc]
theorem Opens.slice {α : Type} {P : Program} {d : Kd α} {B : α → Prop} {t e : TypeId} (ht : P.underlying t = some (.slice e)) (hc : P.cellsOf t = 1) (h : Opens P d e B) :
  Opens P (Kd.slice e d) t (fun xs => xs.length * P.bytesOf e ≤ 140737488351232 ∧ ∀ x ∈ xs, B x) :=
 ⟨hc, fun {H enc W fuel cs x} hf hw => by
  rcases DataW.trod_slice ht hf with ⟨rfl, rfl⟩ | ⟨a, len, cap, elems, rest, n, _, rfl, rfl, hb, hl, hm, hlen, hel, hsp, hns⟩
  ·exact ⟨[], ⟨none, 0, rfl, Nat.le_refl _, Kd.C_nil d W⟩, by simp, fun x hx => by cases hx⟩
  ·simp only [DataW.weights, ht] at hw
   have each : ∀ i, i < len → ∃ z : α, B z ∧ ∃ c, c.length = d.sz ∧ d.K W z c ∧ ∀ j u, c[j]? = some u → W.cell? (a.add (i * d.sz + j)) = some u := by
    intro i hi
    have h1 := hel i hi
    have hi' : i < elems.length := by omega
    rw [List.getElem?_eq_getElem hi', Option.bind_eq_some_iff] at h1
    obtain ⟨c, hcs, hy⟩ := h1
    obtain ⟨-, h2, h3⟩ := World.cells?_some hcs
    obtain ⟨z, hz, hB⟩ := h.get hy (fun n hn => hw n (by
     simp only [List.mem_cons, List.mem_append]
     exact .inr (.inl (weights_all (List.mem_map.2 ⟨_, List.getElem_mem hi', rfl⟩) n hn))))
    refine ⟨z, hB, c, by rw [h2, h.sz], hz, fun j u hj => ?_⟩
    have hj' : j < P.cellsOf e := by
     have := (List.getElem?_eq_some_iff.1 hj).1
     omega
    have h4 := h3 j hj'
    rw [add_add, h.sz] at h4
    rw [h4, hj]
   obtain ⟨xs, hxl, hxs⟩ := each_list len each
   subst hxl
   have hz := hw _ (List.mem_cons_self ..)
   simp only [List.length_map] at hz
   have h5 : xs.length * P.bytesOf e ≤ (elems.length + rest.length) * P.bytesOf e := Nat.mul_le_mul_right _ (by omega)
   have h6 : reachBytes = 140737488351232 := rfl
   refine ⟨xs, ⟨some a, cap, rfl, hl, rfl, ?_, fun _ => ⟨a, rfl, fun j p hj => (hxs j p hj).2⟩⟩, by omega, fun x hx => ?_⟩
   ·have : maxLen = 9223372036854775807 := rfl
    omega
   ·obtain ⟨i, hi⟩ := List.getElem?_of_mem hx
    exact (hxs i x hi).1⟩
structure OpensF {α : Type} (P : Program) (d : Kd α) (fs : List Field) (o : Nat) (B : α → Prop) : Prop where
 get : ∀ {H : Type} {enc : TypeId × Value → H} {W : World} {n : Nat} {cs : List Value} {xs : List (DataW H × List MemPlace)}, xs.length = fs.length →
  (∀ (i : Nat) (f : Field), fs[i]? = some f → DataW.trod enc P W 0 (fun _ => true) true n f.type ((cs.drop f.offset).take (P.cellsOf f.type)) = xs[i]?) →
  (∀ m ∈ DataW.weightsEach P (fs.map (·.type)) (xs.map (·.1)), m ≤ reachBytes) → ∃ a, d.K W a ((cs.drop o).take d.sz) ∧ B a
theorem OpensF.one {α : Type} {P : Program} {d : Kd α} {B : α → Prop} {f : Field} {o : Nat} (ho : f.offset = o) (h : Opens P d f.type B) : OpensF P d [f] o B := by
 refine ⟨fun {H enc W n cs xs} hl hx hw => ?_⟩
 match xs, hl with
 | [x], _ =>
  have h0 := hx 0 f rfl
  rw [h.sz, ho] at h0
  simp only [List.getElem?_cons_zero] at h0
  exact h.get h0 (fun m hm => hw m (by simp only [List.map_cons, List.map_nil, DataW.weightsEach, List.mem_append]; exact .inl hm))
theorem OpensF.cons {α β : Type} {P : Program} {d : Kd α} {d' : Kd β} {B : α → Prop} {B' : β → Prop} {f : Field} {fs : List Field} {o : Nat} (ho : f.offset = o) (h : Opens P d f.type B) (h' : OpensF P d' fs (o + d.sz) B') :
  OpensF P (Kd.pair d d') (f :: fs) o (fun x => B x.1 ∧ B' x.2) := by
 refine ⟨fun {H enc W n cs xs} hl hx hw => ?_⟩
 match xs, hl with
 | x :: xs, hl =>
  have h0 := hx 0 f rfl
  rw [h.sz, ho] at h0
  simp only [List.getElem?_cons_zero] at h0
  obtain ⟨a, ha, hB⟩ := h.get h0 (fun m hm => hw m (by simp only [List.map_cons, DataW.weightsEach, List.mem_append]; exact .inl hm))
  obtain ⟨b, hb, hB'⟩ := h'.get (enc := enc) (W := W) (n := n) (cs := cs) (xs := xs) (by simpa using hl) (fun i g hg => by have := hx (i + 1) g (by simpa using hg); simpa using this)
   (fun m hm => hw m (by simp only [List.map_cons, DataW.weightsEach, List.mem_append]; exact .inr hm))
  refine ⟨(a, b), ⟨_, _, ?_, ha, hb⟩, hB, hB'⟩
  show (cs.drop o).take (d.sz + d'.sz) = _
  rw [List.take_add, List.drop_drop]
theorem Opens.struct {α β : Type} {P : Program} {d : Kd α} {B : α → Prop} {t : TypeId} {fs : Array Field} (ht : P.underlying t = some (.struct fs)) (hc : P.cellsOf t = d.sz) (h : OpensF P d fs.toList 0 B) (f : β → α) (g : α → β) (hg : ∀ a, f (g a) = a) :
  Opens P (Kd.iso d f) t (fun x => B (f x)) :=
 ⟨hc, fun {H enc W fuel cs x} hf hw => by
  obtain ⟨xs, n, _, rfl, hl, hlen, hx⟩ := DataW.trod_struct ht hf
  simp only [DataW.weights, ht] at hw
  obtain ⟨a, ha, hB⟩ := h.get (enc := enc) (W := W) (n := n) (cs := cs) (xs := xs) (by simpa using hlen) (fun i g hg => hx i g (by simpa using hg)) hw
  refine ⟨g a, ?_, by rw [hg]; exact hB⟩
  show d.K W (f (g a)) cs
  rw [hg]
  rw [List.drop_zero, List.take_of_length_le (by omega)] at ha
  exact ha⟩
theorem Opens.imp {α : Type} {P : Program} {d : Kd α} {t : TypeId} {B B' : α → Prop} (h : Opens P d t B) (hB : ∀ a, B a → B' a) : Opens P d t B' :=
 ⟨h.sz, fun hf hw => by obtain ⟨a, ha, hb⟩ := h.get hf hw; exact ⟨a, ha, hB a hb⟩⟩
theorem Opens.param {α : Type} {P : Program} {d : Kd α} {t : TypeId} {B : α → Prop} (h : Opens P d t B) {H : Type} {enc : TypeId × Value → H} {W : World} {v : Value} {x : DataW H} {p : List MemPlace} {ts : List TypeId} {ds : List (DataW H)} {j : Nat}
  (hsz : (DataW.weightsEach P ts ds).all (· ≤ reachBytes) = true) (hj : ts[j]? = some t) (hd : ds[j]? = some x) (ht : DataW.Trod enc P W 0 (fun _ => true) true t v x p) : ∃ a, d.K W a v.cells.toList ∧ B a := by
 obtain ⟨fuel, hf⟩ := ht
 exact h.get hf (fun n hn => by simpa using List.all_eq_true.1 hsz _ (DataW.weights_mem_each hj hd n hn))
theorem Opens.row {α : Type} {P : Program} {d : Kd α} {t e : TypeId} {B : List α → Prop} (h : Opens P (Kd.slice e d) t B) {H : Type} {enc : TypeId × Value → H} {W : World} {A : Option Addr} {n c : Nat} {x : DataW H} {p : List MemPlace} {ts : List TypeId} {ds : List (DataW H)} {j : Nat}
  (hsz : (DataW.weightsEach P ts ds).all (· ≤ reachBytes) = true) (hj : ts[j]? = some t) (hd : ds[j]? = some x) (ht : DataW.Trod enc P W 0 (fun _ => true) true t (.slice A n c) x p) :
  ∃ xs : List α, xs.length = n ∧ d.C W A n xs ∧ n ≤ c ∧ B xs := by
 obtain ⟨xs, ⟨A', c', he, hl, hC⟩, hB⟩ := h.param hsz hj hd ht
 simp [Value.cells] at he
 obtain ⟨rfl, rfl, rfl⟩ := he
 exact ⟨xs, rfl, hC, hl, hB⟩
end Go.Proofs.YtfljbidecljlcaaDoor

namespace Go.Proofs.YtfljbidecljlcaaDoor
open Go.RowKit Go.Proofs.YtfljbidecljlcaaDoor.Print Go.Proofs.YtfljbidecljlcaaDoorW.PrintWords
theorem o_str : Opens Tryd.prog Kd.string 9 (fun s => s.size ≤ 140737488351232) := Opens.string Tryd.underlying9 (by kernel_rfl)
theorem o_u8 : Opens Tryd.prog (Kd.int .u8) 5 (fun n => (Lit.int .u8 n).wf = true) := Opens.int Tryd.underlying5 (by kernel_rfl)
theorem o_int : Opens Tryd.prog (Kd.int .i64) 3 (fun n => (Lit.int .i64 n).wf = true) := Opens.int Tryd.underlying3 (by kernel_rfl)
theorem o_bytes : Opens Tryd.prog (Kd.slice 5 (Kd.int .u8)) 23 (fun xs => xs.length ≤ 140737488351232) :=
 (Opens.slice Tryd.underlying23 (by kernel_rfl) o_u8).imp (fun xs h => by
  have hb : Tryd.prog.bytesOf 5 = 1 := by kernel_rfl
  have h1 := h.1
  rw [hb] at h1
  omega)
theorem o_meta : Opens Tryd.prog k38 38 (fun _ => True) := by
 have h := Opens.struct Tryd.underlying38 (by kernel_rfl) (OpensF.cons rfl o_int (OpensF.cons rfl o_int (OpensF.cons rfl o_int (OpensF.one rfl o_int)))) (fun x : S38 => (x.f0, x.f1, x.f2, x.f3)) (fun p => ⟨p.1, p.2.1, p.2.2.1, p.2.2.2⟩) (fun _ => rfl)
 exact Opens.imp h (fun _ _ => trivial)
theorem o_node : Opens Tryd.prog k40 40 NodeZ := by
 have h := Opens.struct Tryd.underlying40 (by kernel_rfl) (OpensF.cons rfl o_str (OpensF.cons rfl o_str (OpensF.cons rfl o_str (OpensF.cons rfl o_u8 (OpensF.cons rfl o_meta (OpensF.one rfl o_bytes)))))) (fun x : S40 => (x.f0, x.f1, x.f2, x.f3, x.f4, x.f5)) (fun p => ⟨p.1, p.2.1, p.2.2.1, p.2.2.2.1, p.2.2.2.2.1, p.2.2.2.2.2⟩) (fun _ => rfl)
 exact Opens.imp h (fun _ hx => ⟨hx.1, hx.2.1, hx.2.2.1, hx.2.2.2.2.2⟩)
theorem o_nodes : Opens Tryd.prog (Kd.slice 40 k40) 22 (fun xs => (∀ x ∈ xs, NodeZ x) ∧ xs.length ≤ 140737488351232) :=
 (Opens.slice Tryd.underlying22 (by kernel_rfl) o_node).imp (fun xs h => ⟨h.2, by
  have hb : Tryd.prog.bytesOf 40 = 112 := by kernel_rfl
  have h1 := h.1
  rw [hb] at h1
  omega⟩)
theorem u8_range {n : Int} (h : (Lit.int .u8 n).wf = true) : 0 ≤ n ∧ n ≤ 255 := by
 simp [Lit.wf, IntKind.min, IntKind.max, IntKind.bits, IntKind.signed] at h
 omega
theorem o_turns : Opens Tryd.prog (Kd.slice 5 (Kd.int .u8)) 23 (fun xs => (∀ x ∈ xs, 0 ≤ x ∧ x ≤ 255) ∧ xs.length ≤ 140737488351232) :=
 (Opens.slice Tryd.underlying23 (by kernel_rfl) o_u8).imp (fun xs h => ⟨fun x hx => u8_range (h.2 x hx), by
  have hb : Tryd.prog.bytesOf 5 = 1 := by kernel_rfl
  have h1 := h.1
  rw [hb] at h1
  omega⟩)
end Go.Proofs.YtfljbidecljlcaaDoor
