/-
  Part of the proof that LinksMembers answers true: texts put together (wip/bundle.py).
-/
import Derived.Test.YtfljbidecljlcaaDoorCLinksMembers5
import Derived.SizedLaws
import Derived.ChangeSlices
import Derived.OpenShut
namespace Go.Proofs.YtfljbidecljlcaaDoor.Print
open Go.RowKit Go.Proofs.YtfljbidecljlcaaDoorW.PrintWords Go.Proofs.YtfljbidecljlcaaDoorW.PrintLast Go.Proofs.YtfljbidecljlcaaDoorW.PrintMore
attribute [local go_sem] max2_int min2_int max_two min_two max_three min_three max_four min_four   -- for this text's walks alone
set_option linter.unusedVariables false
set_option linter.unusedSimpArgs false
def bindlelaw11_LinksMembers.f (k : Nat) (l0 : List (S40)) (l1 : List Int) : Option (Bool) := (bindlelaw11_light.f k l0).bind fun t237 => (if t237 = true then ((bindlelaw11_mixed.f k l0 l1).bind fun t239 => ((bindleref08_OwnTree.f k l0).bind fun t242 => ((some (([] : List ByteArray) : List ByteArray)).bind fun y245 => (if y245.length + t239.length < 8796093022208 then ((links_Members.f t242 (y245 ++ t239)).bind fun bt251 => ((bindlelaw11_answers.f).bind fun t255 => (if t255 = true then (if bt251.2 = 0 then ((bindleref08_Members.f k l0 t239).bind fun t256 => ((bindleref08_SameAll.f k bt251.1 t256).bind fun t259 => (if t259 = true then ((bindlelaw11_sound.f k bt251.1).bind fun t260 => (if t260 = true then ((links_Sound.f bt251.1).bind fun t261 => (some t261)) else (some false))) else (some false)))) else (some false)) else (some false)))) else (none))))) else ((bindlelaw11_answers.f).bind fun t238 => (some t238)))
set_option maxHeartbeats 8000000 in
set_option maxRecDepth 100000 in
theorem bindlelaw11_LinksMembers.calls (k : Nat) (A0 : Option Addr) (c0 : Nat) (l0 : List (S40)) (A1 : Option Addr) (c1 : Nat) (l1 : List Int) (r : Bool) (w : World) (hT : Aside0 (Tabs w)) (hr0 : Kd.C k40 w A0 l0.length l0) (hc0 : l0.length ≤ c0) (hr1 : Kd.C (Kd.int .u8) w A1 l1.length l1) (hc1 : l1.length ≤ c1) (h : bindlelaw11_LinksMembers.f k l0 l1 = some r) :
  Calls Tryd.prog 3 #[.slice A0 l0.length c0, .slice A1 l1.length c1] w fun e w' => e = .returned (.bool r) ∧ Below w.heap.size w w' := by
 have HR0 := A0_ hr0
 have HC0 := A0_ hc0
 clear hr0 hc0
 have HR1 := A0_ hr1
 have HC1 := A0_ hc1
 clear hr1 hc1
 have HB := A0_ (Below.refl w.heap.size w)
 have H : ((bindlelaw11_light.f k l0).bind fun t237 => (if t237 = true then ((bindlelaw11_mixed.f k l0 l1).bind fun t239 => ((bindleref08_OwnTree.f k l0).bind fun t242 => ((some (([] : List ByteArray) : List ByteArray)).bind fun y245 => (if y245.length + t239.length < 8796093022208 then ((links_Members.f t242 (y245 ++ t239)).bind fun bt251 => ((bindlelaw11_answers.f).bind fun t255 => (if t255 = true then (if bt251.2 = 0 then ((bindleref08_Members.f k l0 t239).bind fun t256 => ((bindleref08_SameAll.f k bt251.1 t256).bind fun t259 => (if t259 = true then ((bindlelaw11_sound.f k bt251.1).bind fun t260 => (if t260 = true then ((links_Sound.f bt251.1).bind fun t261 => (some t261)) else (some false))) else (some false)))) else (some false)) else (some false)))) else (none))))) else ((bindlelaw11_answers.f).bind fun t238 => (some t238)))) = some r := h
 clear h
 replace H := Option.bind_eq_some_iff.mp H
 obtain ⟨t237, A30, H⟩ := H
 replace H : (if t237 = true then ((bindlelaw11_mixed.f k l0 l1).bind fun t239 => ((bindleref08_OwnTree.f k l0).bind fun t242 => ((some (([] : List ByteArray) : List ByteArray)).bind fun y245 => (if y245.length + t239.length < 8796093022208 then ((links_Members.f t242 (y245 ++ t239)).bind fun bt251 => ((bindlelaw11_answers.f).bind fun t255 => (if t255 = true then (if bt251.2 = 0 then ((bindleref08_Members.f k l0 t239).bind fun t256 => ((bindleref08_SameAll.f k bt251.1 t256).bind fun t259 => (if t259 = true then ((bindlelaw11_sound.f k bt251.1).bind fun t260 => (if t260 = true then ((links_Sound.f bt251.1).bind fun t261 => (some t261)) else (some false))) else (some false)))) else (some false)) else (some false)))) else (none))))) else ((bindlelaw11_answers.f).bind fun t238 => (some t238))) = some r := H
 have A3 := A0_ A30
 clear A30
 by_cases c4 : t237 = true
 rotate_left
 ·replace c4 := Bool.eq_false_iff.mpr c4
  subst c4
  have H1 : ((bindlelaw11_answers.f).bind fun t238 => (some t238)) = some r := by rw [if_neg (show ¬ (false = true) by decide)] at H; exact H
  clear H
  have H := H1
  clear H1
  replace H := Option.bind_eq_some_iff.mp H
  obtain ⟨t238, A880, H⟩ := H
  replace H : (some t238) = some r := H
  have A88 := A0_ A880
  clear A880
  obtain rfl := Option.some.inj H
  go_enter Tryd.func3, Tryd.ntmps3
  go_wp2_with (first | ((with_reducible refine gate_callee (f := 14) rfl ?_); refine goesL_ (some 9) rfl rfl Tryd.func14 (by kernel_rfl) rfl #[.slice A0 l0.length c0] rfl wm_ ?_; (with_reducible refine (bindlelaw11_light.calls k _ _ l0 false _ ?side1 ?side2 A3.out).mono ?_); (case side1 => exact wc_ HR0.out); (case side2 => exact HC0.out); rintro e w89 ⟨rfl, hb⟩; refine ⟨_, rfl, ?_⟩; have n0_ := A0_ (below_step (wb_ HB.out) hb); clear HB; have HB := n0_; clear n0_; (try clear hb); (try clear hb2); (try clear hk); (try clear hi)) | ((with_reducible refine gate_callee (f := 15) rfl ?_); refine goesL_ (some 11) rfl rfl Tryd.func15 (by kernel_rfl) rfl #[] rfl wm_ ?_; (with_reducible refine (bindlelaw11_answers.calls  t238 _ ?side1 A88.out).mono ?_); (case side1 => exact A0_ (Tabs.below hT.out (wb_ HB.out))); rintro e w90 ⟨rfl, hb⟩; refine ⟨_, rfl, ?_⟩; have n0_ := A0_ (below_step (wb_ HB.out) hb); clear HB; have HB := n0_; clear n0_; (try clear hb); (try clear hb2); (try clear hk); (try clear hi)))
  go_ret
  exact ⟨we_, wb_ HB.out⟩
 subst c4
 have H1 : ((bindlelaw11_mixed.f k l0 l1).bind fun t239 => ((bindleref08_OwnTree.f k l0).bind fun t242 => ((some (([] : List ByteArray) : List ByteArray)).bind fun y245 => (if y245.length + t239.length < 8796093022208 then ((links_Members.f t242 (y245 ++ t239)).bind fun bt251 => ((bindlelaw11_answers.f).bind fun t255 => (if t255 = true then (if bt251.2 = 0 then ((bindleref08_Members.f k l0 t239).bind fun t256 => ((bindleref08_SameAll.f k bt251.1 t256).bind fun t259 => (if t259 = true then ((bindlelaw11_sound.f k bt251.1).bind fun t260 => (if t260 = true then ((links_Sound.f bt251.1).bind fun t261 => (some t261)) else (some false))) else (some false)))) else (some false)) else (some false)))) else (none))))) = some r := by rw [if_pos rfl] at H; exact H
 clear H
 have H := H1
 clear H1
 replace H := Option.bind_eq_some_iff.mp H
 obtain ⟨t239, A50, H⟩ := H
 replace H : ((bindleref08_OwnTree.f k l0).bind fun t242 => ((some (([] : List ByteArray) : List ByteArray)).bind fun y245 => (if y245.length + t239.length < 8796093022208 then ((links_Members.f t242 (y245 ++ t239)).bind fun bt251 => ((bindlelaw11_answers.f).bind fun t255 => (if t255 = true then (if bt251.2 = 0 then ((bindleref08_Members.f k l0 t239).bind fun t256 => ((bindleref08_SameAll.f k bt251.1 t256).bind fun t259 => (if t259 = true then ((bindlelaw11_sound.f k bt251.1).bind fun t260 => (if t260 = true then ((links_Sound.f bt251.1).bind fun t261 => (some t261)) else (some false))) else (some false)))) else (some false)) else (some false)))) else (none)))) = some r := H
 have A5 := A0_ A50
 clear A50
 replace H := Option.bind_eq_some_iff.mp H
 obtain ⟨t242, A60, H⟩ := H
 replace H : ((some (([] : List ByteArray) : List ByteArray)).bind fun y245 => (if y245.length + t239.length < 8796093022208 then ((links_Members.f t242 (y245 ++ t239)).bind fun bt251 => ((bindlelaw11_answers.f).bind fun t255 => (if t255 = true then (if bt251.2 = 0 then ((bindleref08_Members.f k l0 t239).bind fun t256 => ((bindleref08_SameAll.f k bt251.1 t256).bind fun t259 => (if t259 = true then ((bindlelaw11_sound.f k bt251.1).bind fun t260 => (if t260 = true then ((links_Sound.f bt251.1).bind fun t261 => (some t261)) else (some false))) else (some false)))) else (some false)) else (some false)))) else (none))) = some r := H
 have A6 := A0_ A60
 clear A60
 obtain ⟨y245, hy245⟩ : ∃ y_ : List ByteArray, y_ = (([] : List ByteArray)) := ⟨_, rfl⟩
 replace H : (if y245.length + t239.length < 8796093022208 then ((links_Members.f t242 (y245 ++ t239)).bind fun bt251 => ((bindlelaw11_answers.f).bind fun t255 => (if t255 = true then (if bt251.2 = 0 then ((bindleref08_Members.f k l0 t239).bind fun t256 => ((bindleref08_SameAll.f k bt251.1 t256).bind fun t259 => (if t259 = true then ((bindlelaw11_sound.f k bt251.1).bind fun t260 => (if t260 = true then ((links_Sound.f bt251.1).bind fun t261 => (some t261)) else (some false))) else (some false)))) else (some false)) else (some false)))) else (none)) = some r := by first | (rw [hy245]; with_reducible exact H) | (have H2_ := (Option.bind_some _ _).symm.trans H; rw [hy245]; with_reducible exact H2_) | (have H2_ := (Option.bind_some _ _).symm.trans H; with_reducible exact H2_) | with_reducible exact H | (rw [hy245]; exact H) | exact H
 have Ny245 := A0_ hy245
 clear hy245
 by_cases c7 : y245.length + t239.length < 8796093022208
 rotate_left
 ·rw [if_neg c7] at H
  exact absurd H (by simp)
 rw [if_pos c7] at H
 have LMc7 := A0_ c7
 clear c7
 obtain ⟨y248, hy248⟩ : ∃ y_ : List ByteArray, y_ = (y245 ++ t239) := ⟨_, rfl⟩
 replace H : ((links_Members.f t242 y248).bind fun bt251 => ((bindlelaw11_answers.f).bind fun t255 => (if t255 = true then (if bt251.2 = 0 then ((bindleref08_Members.f k l0 t239).bind fun t256 => ((bindleref08_SameAll.f k bt251.1 t256).bind fun t259 => (if t259 = true then ((bindlelaw11_sound.f k bt251.1).bind fun t260 => (if t260 = true then ((links_Sound.f bt251.1).bind fun t261 => (some t261)) else (some false))) else (some false)))) else (some false)) else (some false)))) = some r := by first | (rw [hy248]; with_reducible exact H) | (have H2_ := (Option.bind_some _ _).symm.trans H; rw [hy248]; with_reducible exact H2_) | (have H2_ := (Option.bind_some _ _).symm.trans H; with_reducible exact H2_) | with_reducible exact H | (rw [hy248]; exact H) | exact H
 have Ny248 := A0_ hy248
 clear hy248
 replace H := Option.bind_eq_some_iff.mp H
 obtain ⟨⟨t251, t254⟩, A80, H⟩ := H
 replace H : ((bindlelaw11_answers.f).bind fun t255 => (if t255 = true then (if t254 = 0 then ((bindleref08_Members.f k l0 t239).bind fun t256 => ((bindleref08_SameAll.f k t251 t256).bind fun t259 => (if t259 = true then ((bindlelaw11_sound.f k t251).bind fun t260 => (if t260 = true then ((links_Sound.f t251).bind fun t261 => (some t261)) else (some false))) else (some false)))) else (some false)) else (some false))) = some r := H
 have A8 := A0_ A80
 clear A80
 replace H := Option.bind_eq_some_iff.mp H
 obtain ⟨t255, A90, H⟩ := H
 replace H : (if t255 = true then (if t254 = 0 then ((bindleref08_Members.f k l0 t239).bind fun t256 => ((bindleref08_SameAll.f k t251 t256).bind fun t259 => (if t259 = true then ((bindlelaw11_sound.f k t251).bind fun t260 => (if t260 = true then ((links_Sound.f t251).bind fun t261 => (some t261)) else (some false))) else (some false)))) else (some false)) else (some false)) = some r := H
 have A9 := A0_ A90
 clear A90
 by_cases c10 : t255 = true
 rotate_left
 ·replace c10 := Bool.eq_false_iff.mpr c10
  subst c10
  have H1 : (some false) = some r := by rw [if_neg (show ¬ (false = true) by decide)] at H; exact H
  clear H
  have H := H1
  clear H1
  obtain rfl := Option.some.inj H
  go_enter Tryd.func3, Tryd.ntmps3
  go_wp2_with (first | ((with_reducible refine gate_callee (f := 14) rfl ?_); refine goesL_ (some 9) rfl rfl Tryd.func14 (by kernel_rfl) rfl #[.slice A0 l0.length c0] rfl wm_ ?_; (with_reducible refine (bindlelaw11_light.calls k _ _ l0 true _ ?side1 ?side2 A3.out).mono ?_); (case side1 => exact wc_ HR0.out); (case side2 => exact HC0.out); rintro e w77 ⟨rfl, hb⟩; refine ⟨_, rfl, ?_⟩; have n0_ := A0_ (below_step (wb_ HB.out) hb); clear HB; have HB := n0_; clear n0_; (try clear hb); (try clear hb2); (try clear hk); (try clear hi)) | ((with_reducible refine gate_callee (f := 16) rfl ?_); refine goesL_ (some 14) rfl rfl Tryd.func16 (by kernel_rfl) rfl #[.slice A0 l0.length c0, .slice A1 l1.length c1] rfl wm_ ?_; (with_reducible refine (bindlelaw11_mixed.calls k _ _ l0 _ _ l1 t239 _ ?side1 ?side2 ?side3 ?side4 A5.out).mono ?_); (case side1 => exact wc_ (Kd.C_below HR0.out HB.out)); (case side2 => exact HC0.out); (case side3 => exact wc_ (Kd.C_below HR1.out HB.out)); (case side4 => exact HC1.out); rintro e w78 ⟨v240, rfl, ho0, hb⟩; refine ⟨_, rfl, ?_⟩; have n0_ := A0_ (Kd.R_lower ho0 (below_size (wb_ HB.out))); have n1_ := A0_ (below_step (wb_ HB.out) hb); clear HB; have HO241 := n0_; have HB := n1_; clear n0_ n1_; (try clear hb); (try clear hb2); (try clear hk); (try clear hi); (try clear ho0)) | ((with_reducible refine gate_callee (f := 18) rfl ?_); refine goesL_ (some 17) rfl rfl Tryd.func18 (by kernel_rfl) rfl #[.slice A0 l0.length c0] rfl wm_ ?_; (with_reducible refine (bindleref08_OwnTree.calls k _ _ l0 t242 _ ?side1 ?side2 A6.out).mono ?_); (case side1 => exact wc_ (Kd.C_below HR0.out HB.out)); (case side2 => exact HC0.out); rintro e w79 ⟨v243, rfl, ho0, hb⟩; refine ⟨_, rfl, ?_⟩; have n0_ := A0_ (Rb_ (wR_ HO241.out) hb); have n1_ := A0_ (Kd.N_lower (Kd.N_mono (ok' := fun k_ => some k_ ≠ (v240 : Value).ownBlock) (Kd.S_N (Kd.S_bound ho0)) (fun k_ hk_ => (Kd.fresh' (Kd.R_lt (wR_ HO241.out)) k_ hk_.2.1))) (below_size (wb_ HB.out))); have n2_ := A0_ (below_step (wb_ HB.out) hb); clear HO241; clear HB; have HO241 := n0_; have HO244 := n1_; have HB := n2_; clear n0_ n1_ n2_; (try clear hb); (try clear hb2); (try clear hk); (try clear hi); (try clear ho0)) | ((with_reducible refine gate_dst (N := 18) rfl ?_); refine Kd.R_lit Kd.string _ 9 ?hg (N := 18) ?hd (xs := ([] : List ByteArray)) (inner := []) (ok := fun _ => True) (okp := fun _ => True) ?hr ?hp (fun _ hk => hk) trivial (Below.refl _ _) (Nat.le_refl _) (by simp) ?_; (case hd => rfl); (case hg => rfl); (case hr => first | (go_simp; done) | (go_simp; rfl)); (case hp => exact (Reps.none _ _)); intro v246 w80 ho81 hb hg_ hnew_; clear hg_ hnew_; (first | rw [← Ny245.out] at ho81 | (simp only [Int.reduceToNat] at ho81; rw [← Ny245.out] at ho81)); have n0_ := A0_ (Kd.R_elder' (wR_ HO241.out) (Kd.R_base ho81) hb); have n1_ := A0_ (Kd.N_elder' (wN_ HO244.out) (Kd.R_base ho81) hb); have n2_ := A0_ (Kd.R_lower (Kd.R_new' ho81 (Kd.R_lt (wR_ HO241.out))) (below_size (wb_ HB.out))); have n3_ := A0_ (below_step (wb_ HB.out) hb); clear HO241; clear HO244; clear HB; have HO241 := n0_; have HO244 := n1_; have HO247 := n2_; have HB := n3_; clear n0_ n1_ n2_ n3_; clear hb ho81; obtain ⟨Ao83, co83, eo83⟩ := Kd.R_slice HO241.out; subst eo83) | ((with_reducible refine gate_builtin (b := .append) (xs := #[.tmp 18, .tmp 19]) rfl ?_); at_builtin; refine Kd.R_append_rows Kd.string (w0 := w) w.heap.size rfl (.tmp 18) (.tmp 19) 26 9 (.string ⟨#[]⟩) 16 rfl Tryd.underlying26 info9 rfl (by decide) (by omega) v246 y245 t239 _ _ _ (fun k_ => some k_ ≠ (.slice Ao83 t239.length co83 : Value).ownBlock) (fun _ => False) rfl rfl ?aO ?aR (fun _ _ h => h) (fun _ h => h.elim) ?aF ?aB ?aS ?aL ?_; (case aR => exact wc_ (Kd.R_reads' HO241.out).2.2); (case aB => exact (wb_ HB.out)); (case aF => exact (fun k_ hk => Kd.fresh' (Kd.R_lt (wR_ HO241.out)) k_ hk)); (case aO => exact (by (with_reducible repeat (first | apply Ra_ | apply RN_ | apply R1_)); exact Kd.R_mono HO247.out (fun _ hk => hk.2))); (case aS => exact (below_size (wb_ HB.out))); (case aL => have := LMc7.out; omega); intro v249 w82 ho hb hg hat; rw [← Ny248.out] at ho; have n0_ := A0_ (Kd.R_after (ok := (fun _ => True)) (wR_ HO241.out) hg hat); have n1_ := A0_ (Kd.N_afterv (ok := (fun k_ => some k_ ≠ (.slice Ao83 t239.length co83 : Value).ownBlock)) (wN_ HO244.out) hg hat); have n2_ := A0_ (hb); have n3_ := A0_ (ho); clear HO241; clear HO244; clear HB; clear HO247; have HO241 := n0_; have HO244 := n1_; have HB := n2_; have HO250 := n3_; clear n0_ n1_ n2_ n3_; clear ho hb hg hat; obtain ⟨Ao84, co84, eo84⟩ := Kd.N_slice HO244.out; subst eo84; obtain ⟨Ao85, co85, eo85⟩ := Kd.R_slice HO250.out; subst eo85) | ((with_reducible refine gate_callee (f := 17) rfl ?_); refine goesL_ (some 21) rfl rfl Tryd.func17 (by kernel_rfl) rfl #[.slice Ao84 t242.length co84, .slice Ao85 y248.length co85] rfl wm_ ?_; (with_reducible refine (links_Members.calls _ _ t242 _ _ y248 t251 t254 _ ?side1 ?side2 ?side3 ?side4 A8.out).mono ?_); (case side1 => exact wc_ (Kd.N_reads' HO244.out).2.2); (case side2 => exact (Kd.N_reads' HO244.out).2.1); (case side3 => exact wc_ (Kd.R_reads' HO250.out).2.2); (case side4 => exact (Kd.R_reads' HO250.out).2.1); rintro e w86 ⟨v252, rfl, ho0, hb⟩; refine ⟨_, rfl, ?_⟩; have n0_ := A0_ (Rb_ (wR_ HO241.out) hb); have n1_ := A0_ (Kd.N_below (wN_ HO244.out) hb); have n2_ := A0_ (Rb_ (wR_ HO250.out) hb); have n3_ := A0_ (Kd.V_lower (Kd.V_mono (ok' := fun k_ => some k_ ≠ (.slice Ao83 t239.length co83 : Value).ownBlock ∧ some k_ ≠ (.slice Ao84 t242.length co84 : Value).ownBlock ∧ some k_ ≠ (.slice Ao85 y248.length co85 : Value).ownBlock) ho0 (fun k_ hk_ => ⟨(Kd.fresh' (Kd.R_lt (wR_ HO241.out)) k_ hk_), (Kd.fresh' (Kd.N_lt (wN_ HO244.out)) k_ hk_), (Kd.fresh' (Kd.R_lt (wR_ HO250.out)) k_ hk_)⟩)) (below_size (wb_ HB.out))); have n4_ := A0_ (below_step (wb_ HB.out) hb); clear HO241; clear HO244; clear HO250; clear HB; have HO241 := n0_; have HO244 := n1_; have HO250 := n2_; have HO253 := n3_; have HB := n4_; clear n0_ n1_ n2_ n3_ n4_; (try clear hb); (try clear hb2); (try clear hk); (try clear hi); (try clear ho0)) | ((with_reducible refine gate_callee (f := 15) rfl ?_); refine goesL_ (some 24) rfl rfl Tryd.func15 (by kernel_rfl) rfl #[] rfl wm_ ?_; (with_reducible refine (bindlelaw11_answers.calls  false _ ?side1 A9.out).mono ?_); (case side1 => exact A0_ (Tabs.below hT.out (wb_ HB.out))); rintro e w87 ⟨rfl, hb⟩; refine ⟨_, rfl, ?_⟩; have n0_ := A0_ (Rb_ (wR_ HO241.out) hb); have n1_ := A0_ (Kd.N_below (wN_ HO244.out) hb); have n2_ := A0_ (Rb_ (wR_ HO250.out) hb); have n3_ := A0_ (Vb_ (wV_ HO253.out) hb); have n4_ := A0_ (below_step (wb_ HB.out) hb); clear HO241; clear HO244; clear HO250; clear HO253; clear HB; have HO241 := n0_; have HO244 := n1_; have HO250 := n2_; have HO253 := n3_; have HB := n4_; clear n0_ n1_ n2_ n3_ n4_; (try clear hb); (try clear hb2); (try clear hk); (try clear hi)))
  go_ret
  exact ⟨we_, wb_ HB.out⟩
 subst c10
 have H1 : (if t254 = 0 then ((bindleref08_Members.f k l0 t239).bind fun t256 => ((bindleref08_SameAll.f k t251 t256).bind fun t259 => (if t259 = true then ((bindlelaw11_sound.f k t251).bind fun t260 => (if t260 = true then ((links_Sound.f t251).bind fun t261 => (some t261)) else (some false))) else (some false)))) else (some false)) = some r := by rw [if_pos rfl] at H; exact H
 clear H
 have H := H1
 clear H1
 by_cases c11 : t254 = 0
 rotate_left
 ·rw [if_neg c11] at H
  have c11b0 : (t254 == 0) = false := beq_eq_false_iff_ne.mpr c11
  have c11b1 : (t254 != 0) = true := bne_iff_ne.mpr c11
  obtain rfl := Option.some.inj H
  go_enter Tryd.func3, Tryd.ntmps3
  go_wp2_with (first | ((with_reducible refine gate_callee (f := 14) rfl ?_); refine goesL_ (some 9) rfl rfl Tryd.func14 (by kernel_rfl) rfl #[.slice A0 l0.length c0] rfl wm_ ?_; (with_reducible refine (bindlelaw11_light.calls k _ _ l0 true _ ?side1 ?side2 A3.out).mono ?_); (case side1 => exact wc_ HR0.out); (case side2 => exact HC0.out); rintro e w66 ⟨rfl, hb⟩; refine ⟨_, rfl, ?_⟩; have n0_ := A0_ (below_step (wb_ HB.out) hb); clear HB; have HB := n0_; clear n0_; (try clear hb); (try clear hb2); (try clear hk); (try clear hi)) | ((with_reducible refine gate_callee (f := 16) rfl ?_); refine goesL_ (some 14) rfl rfl Tryd.func16 (by kernel_rfl) rfl #[.slice A0 l0.length c0, .slice A1 l1.length c1] rfl wm_ ?_; (with_reducible refine (bindlelaw11_mixed.calls k _ _ l0 _ _ l1 t239 _ ?side1 ?side2 ?side3 ?side4 A5.out).mono ?_); (case side1 => exact wc_ (Kd.C_below HR0.out HB.out)); (case side2 => exact HC0.out); (case side3 => exact wc_ (Kd.C_below HR1.out HB.out)); (case side4 => exact HC1.out); rintro e w67 ⟨v240, rfl, ho0, hb⟩; refine ⟨_, rfl, ?_⟩; have n0_ := A0_ (Kd.R_lower ho0 (below_size (wb_ HB.out))); have n1_ := A0_ (below_step (wb_ HB.out) hb); clear HB; have HO241 := n0_; have HB := n1_; clear n0_ n1_; (try clear hb); (try clear hb2); (try clear hk); (try clear hi); (try clear ho0)) | ((with_reducible refine gate_callee (f := 18) rfl ?_); refine goesL_ (some 17) rfl rfl Tryd.func18 (by kernel_rfl) rfl #[.slice A0 l0.length c0] rfl wm_ ?_; (with_reducible refine (bindleref08_OwnTree.calls k _ _ l0 t242 _ ?side1 ?side2 A6.out).mono ?_); (case side1 => exact wc_ (Kd.C_below HR0.out HB.out)); (case side2 => exact HC0.out); rintro e w68 ⟨v243, rfl, ho0, hb⟩; refine ⟨_, rfl, ?_⟩; have n0_ := A0_ (Rb_ (wR_ HO241.out) hb); have n1_ := A0_ (Kd.N_lower (Kd.N_mono (ok' := fun k_ => some k_ ≠ (v240 : Value).ownBlock) (Kd.S_N (Kd.S_bound ho0)) (fun k_ hk_ => (Kd.fresh' (Kd.R_lt (wR_ HO241.out)) k_ hk_.2.1))) (below_size (wb_ HB.out))); have n2_ := A0_ (below_step (wb_ HB.out) hb); clear HO241; clear HB; have HO241 := n0_; have HO244 := n1_; have HB := n2_; clear n0_ n1_ n2_; (try clear hb); (try clear hb2); (try clear hk); (try clear hi); (try clear ho0)) | ((with_reducible refine gate_dst (N := 18) rfl ?_); refine Kd.R_lit Kd.string _ 9 ?hg (N := 18) ?hd (xs := ([] : List ByteArray)) (inner := []) (ok := fun _ => True) (okp := fun _ => True) ?hr ?hp (fun _ hk => hk) trivial (Below.refl _ _) (Nat.le_refl _) (by simp) ?_; (case hd => rfl); (case hg => rfl); (case hr => first | (go_simp; done) | (go_simp; rfl)); (case hp => exact (Reps.none _ _)); intro v246 w69 ho70 hb hg_ hnew_; clear hg_ hnew_; (first | rw [← Ny245.out] at ho70 | (simp only [Int.reduceToNat] at ho70; rw [← Ny245.out] at ho70)); have n0_ := A0_ (Kd.R_elder' (wR_ HO241.out) (Kd.R_base ho70) hb); have n1_ := A0_ (Kd.N_elder' (wN_ HO244.out) (Kd.R_base ho70) hb); have n2_ := A0_ (Kd.R_lower (Kd.R_new' ho70 (Kd.R_lt (wR_ HO241.out))) (below_size (wb_ HB.out))); have n3_ := A0_ (below_step (wb_ HB.out) hb); clear HO241; clear HO244; clear HB; have HO241 := n0_; have HO244 := n1_; have HO247 := n2_; have HB := n3_; clear n0_ n1_ n2_ n3_; clear hb ho70; obtain ⟨Ao72, co72, eo72⟩ := Kd.R_slice HO241.out; subst eo72) | ((with_reducible refine gate_builtin (b := .append) (xs := #[.tmp 18, .tmp 19]) rfl ?_); at_builtin; refine Kd.R_append_rows Kd.string (w0 := w) w.heap.size rfl (.tmp 18) (.tmp 19) 26 9 (.string ⟨#[]⟩) 16 rfl Tryd.underlying26 info9 rfl (by decide) (by omega) v246 y245 t239 _ _ _ (fun k_ => some k_ ≠ (.slice Ao72 t239.length co72 : Value).ownBlock) (fun _ => False) rfl rfl ?aO ?aR (fun _ _ h => h) (fun _ h => h.elim) ?aF ?aB ?aS ?aL ?_; (case aR => exact wc_ (Kd.R_reads' HO241.out).2.2); (case aB => exact (wb_ HB.out)); (case aF => exact (fun k_ hk => Kd.fresh' (Kd.R_lt (wR_ HO241.out)) k_ hk)); (case aO => exact (by (with_reducible repeat (first | apply Ra_ | apply RN_ | apply R1_)); exact Kd.R_mono HO247.out (fun _ hk => hk.2))); (case aS => exact (below_size (wb_ HB.out))); (case aL => have := LMc7.out; omega); intro v249 w71 ho hb hg hat; rw [← Ny248.out] at ho; have n0_ := A0_ (Kd.R_after (ok := (fun _ => True)) (wR_ HO241.out) hg hat); have n1_ := A0_ (Kd.N_afterv (ok := (fun k_ => some k_ ≠ (.slice Ao72 t239.length co72 : Value).ownBlock)) (wN_ HO244.out) hg hat); have n2_ := A0_ (hb); have n3_ := A0_ (ho); clear HO241; clear HO244; clear HB; clear HO247; have HO241 := n0_; have HO244 := n1_; have HB := n2_; have HO250 := n3_; clear n0_ n1_ n2_ n3_; clear ho hb hg hat; obtain ⟨Ao73, co73, eo73⟩ := Kd.N_slice HO244.out; subst eo73; obtain ⟨Ao74, co74, eo74⟩ := Kd.R_slice HO250.out; subst eo74) | ((with_reducible refine gate_callee (f := 17) rfl ?_); refine goesL_ (some 21) rfl rfl Tryd.func17 (by kernel_rfl) rfl #[.slice Ao73 t242.length co73, .slice Ao74 y248.length co74] rfl wm_ ?_; (with_reducible refine (links_Members.calls _ _ t242 _ _ y248 t251 t254 _ ?side1 ?side2 ?side3 ?side4 A8.out).mono ?_); (case side1 => exact wc_ (Kd.N_reads' HO244.out).2.2); (case side2 => exact (Kd.N_reads' HO244.out).2.1); (case side3 => exact wc_ (Kd.R_reads' HO250.out).2.2); (case side4 => exact (Kd.R_reads' HO250.out).2.1); rintro e w75 ⟨v252, rfl, ho0, hb⟩; refine ⟨_, rfl, ?_⟩; have n0_ := A0_ (Rb_ (wR_ HO241.out) hb); have n1_ := A0_ (Kd.N_below (wN_ HO244.out) hb); have n2_ := A0_ (Rb_ (wR_ HO250.out) hb); have n3_ := A0_ (Kd.V_lower (Kd.V_mono (ok' := fun k_ => some k_ ≠ (.slice Ao72 t239.length co72 : Value).ownBlock ∧ some k_ ≠ (.slice Ao73 t242.length co73 : Value).ownBlock ∧ some k_ ≠ (.slice Ao74 y248.length co74 : Value).ownBlock) ho0 (fun k_ hk_ => ⟨(Kd.fresh' (Kd.R_lt (wR_ HO241.out)) k_ hk_), (Kd.fresh' (Kd.N_lt (wN_ HO244.out)) k_ hk_), (Kd.fresh' (Kd.R_lt (wR_ HO250.out)) k_ hk_)⟩)) (below_size (wb_ HB.out))); have n4_ := A0_ (below_step (wb_ HB.out) hb); clear HO241; clear HO244; clear HO250; clear HB; have HO241 := n0_; have HO244 := n1_; have HO250 := n2_; have HO253 := n3_; have HB := n4_; clear n0_ n1_ n2_ n3_ n4_; (try clear hb); (try clear hb2); (try clear hk); (try clear hi); (try clear ho0)) | ((with_reducible refine gate_callee (f := 15) rfl ?_); refine goesL_ (some 24) rfl rfl Tryd.func15 (by kernel_rfl) rfl #[] rfl wm_ ?_; (with_reducible refine (bindlelaw11_answers.calls  true _ ?side1 A9.out).mono ?_); (case side1 => exact A0_ (Tabs.below hT.out (wb_ HB.out))); rintro e w76 ⟨rfl, hb⟩; refine ⟨_, rfl, ?_⟩; have n0_ := A0_ (Rb_ (wR_ HO241.out) hb); have n1_ := A0_ (Kd.N_below (wN_ HO244.out) hb); have n2_ := A0_ (Rb_ (wR_ HO250.out) hb); have n3_ := A0_ (Vb_ (wV_ HO253.out) hb); have n4_ := A0_ (below_step (wb_ HB.out) hb); clear HO241; clear HO244; clear HO250; clear HO253; clear HB; have HO241 := n0_; have HO244 := n1_; have HO250 := n2_; have HO253 := n3_; have HB := n4_; clear n0_ n1_ n2_ n3_ n4_; (try clear hb); (try clear hb2); (try clear hk); (try clear hi)))
  go_ret
  exact ⟨we_, wb_ HB.out⟩
 rw [if_pos c11] at H
 have c11b0 : (t254 == 0) = true := beq_iff_eq.mpr c11
 have c11b1 : (t254 != 0) = false := bne_eq_false_iff_eq.mpr c11
 clear c11
 replace H := Option.bind_eq_some_iff.mp H
 obtain ⟨t256, A120, H⟩ := H
 replace H : ((bindleref08_SameAll.f k t251 t256).bind fun t259 => (if t259 = true then ((bindlelaw11_sound.f k t251).bind fun t260 => (if t260 = true then ((links_Sound.f t251).bind fun t261 => (some t261)) else (some false))) else (some false))) = some r := H
 have A12 := A0_ A120
 clear A120
 replace H := Option.bind_eq_some_iff.mp H
 obtain ⟨t259, A130, H⟩ := H
 replace H : (if t259 = true then ((bindlelaw11_sound.f k t251).bind fun t260 => (if t260 = true then ((links_Sound.f t251).bind fun t261 => (some t261)) else (some false))) else (some false)) = some r := H
 have A13 := A0_ A130
 clear A130
 by_cases c14 : t259 = true
 rotate_left
 ·replace c14 := Bool.eq_false_iff.mpr c14
  subst c14
  have H1 : (some false) = some r := by rw [if_neg (show ¬ (false = true) by decide)] at H; exact H
  clear H
  have H := H1
  clear H1
  obtain rfl := Option.some.inj H
  go_enter Tryd.func3, Tryd.ntmps3
  go_wp2_with (first | ((with_reducible refine gate_callee (f := 14) rfl ?_); refine goesL_ (some 9) rfl rfl Tryd.func14 (by kernel_rfl) rfl #[.slice A0 l0.length c0] rfl wm_ ?_; (with_reducible refine (bindlelaw11_light.calls k _ _ l0 true _ ?side1 ?side2 A3.out).mono ?_); (case side1 => exact wc_ HR0.out); (case side2 => exact HC0.out); rintro e w51 ⟨rfl, hb⟩; refine ⟨_, rfl, ?_⟩; have n0_ := A0_ (below_step (wb_ HB.out) hb); clear HB; have HB := n0_; clear n0_; (try clear hb); (try clear hb2); (try clear hk); (try clear hi)) | ((with_reducible refine gate_callee (f := 16) rfl ?_); refine goesL_ (some 14) rfl rfl Tryd.func16 (by kernel_rfl) rfl #[.slice A0 l0.length c0, .slice A1 l1.length c1] rfl wm_ ?_; (with_reducible refine (bindlelaw11_mixed.calls k _ _ l0 _ _ l1 t239 _ ?side1 ?side2 ?side3 ?side4 A5.out).mono ?_); (case side1 => exact wc_ (Kd.C_below HR0.out HB.out)); (case side2 => exact HC0.out); (case side3 => exact wc_ (Kd.C_below HR1.out HB.out)); (case side4 => exact HC1.out); rintro e w52 ⟨v240, rfl, ho0, hb⟩; refine ⟨_, rfl, ?_⟩; have n0_ := A0_ (Kd.R_lower ho0 (below_size (wb_ HB.out))); have n1_ := A0_ (below_step (wb_ HB.out) hb); clear HB; have HO241 := n0_; have HB := n1_; clear n0_ n1_; (try clear hb); (try clear hb2); (try clear hk); (try clear hi); (try clear ho0)) | ((with_reducible refine gate_callee (f := 18) rfl ?_); refine goesL_ (some 17) rfl rfl Tryd.func18 (by kernel_rfl) rfl #[.slice A0 l0.length c0] rfl wm_ ?_; (with_reducible refine (bindleref08_OwnTree.calls k _ _ l0 t242 _ ?side1 ?side2 A6.out).mono ?_); (case side1 => exact wc_ (Kd.C_below HR0.out HB.out)); (case side2 => exact HC0.out); rintro e w53 ⟨v243, rfl, ho0, hb⟩; refine ⟨_, rfl, ?_⟩; have n0_ := A0_ (Rb_ (wR_ HO241.out) hb); have n1_ := A0_ (Kd.N_lower (Kd.N_mono (ok' := fun k_ => some k_ ≠ (v240 : Value).ownBlock) (Kd.S_N (Kd.S_bound ho0)) (fun k_ hk_ => (Kd.fresh' (Kd.R_lt (wR_ HO241.out)) k_ hk_.2.1))) (below_size (wb_ HB.out))); have n2_ := A0_ (below_step (wb_ HB.out) hb); clear HO241; clear HB; have HO241 := n0_; have HO244 := n1_; have HB := n2_; clear n0_ n1_ n2_; (try clear hb); (try clear hb2); (try clear hk); (try clear hi); (try clear ho0)) | ((with_reducible refine gate_dst (N := 18) rfl ?_); refine Kd.R_lit Kd.string _ 9 ?hg (N := 18) ?hd (xs := ([] : List ByteArray)) (inner := []) (ok := fun _ => True) (okp := fun _ => True) ?hr ?hp (fun _ hk => hk) trivial (Below.refl _ _) (Nat.le_refl _) (by simp) ?_; (case hd => rfl); (case hg => rfl); (case hr => first | (go_simp; done) | (go_simp; rfl)); (case hp => exact (Reps.none _ _)); intro v246 w54 ho55 hb hg_ hnew_; clear hg_ hnew_; (first | rw [← Ny245.out] at ho55 | (simp only [Int.reduceToNat] at ho55; rw [← Ny245.out] at ho55)); have n0_ := A0_ (Kd.R_elder' (wR_ HO241.out) (Kd.R_base ho55) hb); have n1_ := A0_ (Kd.N_elder' (wN_ HO244.out) (Kd.R_base ho55) hb); have n2_ := A0_ (Kd.R_lower (Kd.R_new' ho55 (Kd.R_lt (wR_ HO241.out))) (below_size (wb_ HB.out))); have n3_ := A0_ (below_step (wb_ HB.out) hb); clear HO241; clear HO244; clear HB; have HO241 := n0_; have HO244 := n1_; have HO247 := n2_; have HB := n3_; clear n0_ n1_ n2_ n3_; clear hb ho55; obtain ⟨Ao57, co57, eo57⟩ := Kd.R_slice HO241.out; subst eo57) | ((with_reducible refine gate_builtin (b := .append) (xs := #[.tmp 18, .tmp 19]) rfl ?_); at_builtin; refine Kd.R_append_rows Kd.string (w0 := w) w.heap.size rfl (.tmp 18) (.tmp 19) 26 9 (.string ⟨#[]⟩) 16 rfl Tryd.underlying26 info9 rfl (by decide) (by omega) v246 y245 t239 _ _ _ (fun k_ => some k_ ≠ (.slice Ao57 t239.length co57 : Value).ownBlock) (fun _ => False) rfl rfl ?aO ?aR (fun _ _ h => h) (fun _ h => h.elim) ?aF ?aB ?aS ?aL ?_; (case aR => exact wc_ (Kd.R_reads' HO241.out).2.2); (case aB => exact (wb_ HB.out)); (case aF => exact (fun k_ hk => Kd.fresh' (Kd.R_lt (wR_ HO241.out)) k_ hk)); (case aO => exact (by (with_reducible repeat (first | apply Ra_ | apply RN_ | apply R1_)); exact Kd.R_mono HO247.out (fun _ hk => hk.2))); (case aS => exact (below_size (wb_ HB.out))); (case aL => have := LMc7.out; omega); intro v249 w56 ho hb hg hat; rw [← Ny248.out] at ho; have n0_ := A0_ (Kd.R_after (ok := (fun _ => True)) (wR_ HO241.out) hg hat); have n1_ := A0_ (Kd.N_afterv (ok := (fun k_ => some k_ ≠ (.slice Ao57 t239.length co57 : Value).ownBlock)) (wN_ HO244.out) hg hat); have n2_ := A0_ (hb); have n3_ := A0_ (ho); clear HO241; clear HO244; clear HB; clear HO247; have HO241 := n0_; have HO244 := n1_; have HB := n2_; have HO250 := n3_; clear n0_ n1_ n2_ n3_; clear ho hb hg hat; obtain ⟨Ao58, co58, eo58⟩ := Kd.N_slice HO244.out; subst eo58; obtain ⟨Ao59, co59, eo59⟩ := Kd.R_slice HO250.out; subst eo59) | ((with_reducible refine gate_callee (f := 17) rfl ?_); refine goesL_ (some 21) rfl rfl Tryd.func17 (by kernel_rfl) rfl #[.slice Ao58 t242.length co58, .slice Ao59 y248.length co59] rfl wm_ ?_; (with_reducible refine (links_Members.calls _ _ t242 _ _ y248 t251 t254 _ ?side1 ?side2 ?side3 ?side4 A8.out).mono ?_); (case side1 => exact wc_ (Kd.N_reads' HO244.out).2.2); (case side2 => exact (Kd.N_reads' HO244.out).2.1); (case side3 => exact wc_ (Kd.R_reads' HO250.out).2.2); (case side4 => exact (Kd.R_reads' HO250.out).2.1); rintro e w60 ⟨v252, rfl, ho0, hb⟩; refine ⟨_, rfl, ?_⟩; have n0_ := A0_ (Rb_ (wR_ HO241.out) hb); have n1_ := A0_ (Kd.N_below (wN_ HO244.out) hb); have n2_ := A0_ (Rb_ (wR_ HO250.out) hb); have n3_ := A0_ (Kd.V_lower (Kd.V_mono (ok' := fun k_ => some k_ ≠ (.slice Ao57 t239.length co57 : Value).ownBlock ∧ some k_ ≠ (.slice Ao58 t242.length co58 : Value).ownBlock ∧ some k_ ≠ (.slice Ao59 y248.length co59 : Value).ownBlock) ho0 (fun k_ hk_ => ⟨(Kd.fresh' (Kd.R_lt (wR_ HO241.out)) k_ hk_), (Kd.fresh' (Kd.N_lt (wN_ HO244.out)) k_ hk_), (Kd.fresh' (Kd.R_lt (wR_ HO250.out)) k_ hk_)⟩)) (below_size (wb_ HB.out))); have n4_ := A0_ (below_step (wb_ HB.out) hb); clear HO241; clear HO244; clear HO250; clear HB; have HO241 := n0_; have HO244 := n1_; have HO250 := n2_; have HO253 := n3_; have HB := n4_; clear n0_ n1_ n2_ n3_ n4_; (try clear hb); (try clear hb2); (try clear hk); (try clear hi); (try clear ho0)) | ((with_reducible refine gate_callee (f := 15) rfl ?_); refine goesL_ (some 24) rfl rfl Tryd.func15 (by kernel_rfl) rfl #[] rfl wm_ ?_; (with_reducible refine (bindlelaw11_answers.calls  true _ ?side1 A9.out).mono ?_); (case side1 => exact A0_ (Tabs.below hT.out (wb_ HB.out))); rintro e w61 ⟨rfl, hb⟩; refine ⟨_, rfl, ?_⟩; have n0_ := A0_ (Rb_ (wR_ HO241.out) hb); have n1_ := A0_ (Kd.N_below (wN_ HO244.out) hb); have n2_ := A0_ (Rb_ (wR_ HO250.out) hb); have n3_ := A0_ (Vb_ (wV_ HO253.out) hb); have n4_ := A0_ (below_step (wb_ HB.out) hb); clear HO241; clear HO244; clear HO250; clear HO253; clear HB; have HO241 := n0_; have HO244 := n1_; have HO250 := n2_; have HO253 := n3_; have HB := n4_; clear n0_ n1_ n2_ n3_ n4_; (try clear hb); (try clear hb2); (try clear hk); (try clear hi)) | (go_at_call 20; (with_reducible refine (bindleref08_Members.calls k (fun k_ => k_ < w.heap.size) _ _ l0 _ _ t239 t256 _ ?side1 ?side2 ?side3 A12.out).mono ?_); (case side1 => exact Kd.V_mk HC0.out (Kd.F_below (Kd.C_F k40_heap HR0.out) (wb_ HB.out))); (case side2 => exact wc_ (Kd.R_reads' HO241.out).2.2); (case side3 => exact (Kd.R_reads' HO241.out).2.1); rintro e w62 ⟨v257, rfl, ho0, hb⟩; have n0_ := A0_ (Rb_ (wR_ HO241.out) hb); have n1_ := A0_ (Kd.N_elder' (wN_ HO244.out) (Kd.N_base ho0) hb); have n2_ := A0_ (Rb_ (wR_ HO250.out) hb); have n3_ := A0_ (Kd.V_elder' (wV_ HO253.out) (Kd.N_base ho0) hb); have n4_ := A0_ (Kd.N_lower (Kd.N_mono (ok' := fun k_ => some k_ ≠ (.slice Ao57 t239.length co57 : Value).ownBlock ∧ some k_ ≠ (.slice Ao58 t242.length co58 : Value).ownBlock ∧ some k_ ≠ (.slice Ao59 y248.length co59 : Value).ownBlock) ho0 (fun k_ hk_ => ⟨Or.elim hk_ (fun hs_ => fun e_ => Nat.not_le.2 hs_ (Kd.R_base HO241.out k_ e_.symm)) (fun hn_ => (Kd.fresh' (Kd.R_lt (wR_ HO241.out)) k_ hn_)), Or.elim hk_ (fun hs_ => fun e_ => Nat.not_le.2 hs_ (Kd.N_base HO244.out k_ e_.symm)) (fun hn_ => (Kd.fresh' (Kd.N_lt (wN_ HO244.out)) k_ hn_)), Or.elim hk_ (fun hs_ => fun e_ => Nat.not_le.2 hs_ (Kd.R_base HO250.out k_ e_.symm)) (fun hn_ => (Kd.fresh' (Kd.R_lt (wR_ HO250.out)) k_ hn_))⟩)) (below_size (wb_ HB.out))); have n5_ := A0_ (below_step (wb_ HB.out) hb); clear HO241; clear HO244; clear HO250; clear HO253; clear HB; have HO241 := n0_; have HO244 := n1_; have HO250 := n2_; have HO253 := n3_; have HO258 := n4_; have HB := n5_; clear n0_ n1_ n2_ n3_ n4_ n5_; (try clear hb); (try clear hb2); (try clear hk); (try clear hi); (try clear ho0); obtain ⟨Ao63, co63, eo63⟩ := Kd.V_slice HO253.out; subst eo63; obtain ⟨Ao64, co64, eo64⟩ := Kd.N_slice HO258.out; subst eo64) | (go_at_call 19; (with_reducible refine (bindleref08_SameAll.calls k _ _ t251 _ _ t256 false _ ?side1 ?side2 ?side3 ?side4 A13.out).mono ?_); (case side1 => exact wc_ (Kd.V_reads' HO253.out).2.2); (case side2 => exact (Kd.V_reads' HO253.out).2.1); (case side3 => exact wc_ (Kd.N_reads' HO258.out).2.2); (case side4 => exact (Kd.N_reads' HO258.out).2.1); rintro e w65 ⟨rfl, hb⟩; have n0_ := A0_ (Rb_ (wR_ HO241.out) hb); have n1_ := A0_ (Kd.N_below (wN_ HO244.out) hb); have n2_ := A0_ (Rb_ (wR_ HO250.out) hb); have n3_ := A0_ (Vb_ (wV_ HO253.out) hb); have n4_ := A0_ (Kd.N_below (wN_ HO258.out) hb); have n5_ := A0_ (below_step (wb_ HB.out) hb); clear HO241; clear HO244; clear HO250; clear HO253; clear HO258; clear HB; have HO241 := n0_; have HO244 := n1_; have HO250 := n2_; have HO253 := n3_; have HO258 := n4_; have HB := n5_; clear n0_ n1_ n2_ n3_ n4_ n5_; (try clear hb); (try clear hb2); (try clear hk); (try clear hi)))
  go_ret
  exact ⟨we_, wb_ HB.out⟩
 subst c14
 have H1 : ((bindlelaw11_sound.f k t251).bind fun t260 => (if t260 = true then ((links_Sound.f t251).bind fun t261 => (some t261)) else (some false))) = some r := by rw [if_pos rfl] at H; exact H
 clear H
 have H := H1
 clear H1
 replace H := Option.bind_eq_some_iff.mp H
 obtain ⟨t260, A150, H⟩ := H
 replace H : (if t260 = true then ((links_Sound.f t251).bind fun t261 => (some t261)) else (some false)) = some r := H
 have A15 := A0_ A150
 clear A150
 by_cases c16 : t260 = true
 rotate_left
 ·replace c16 := Bool.eq_false_iff.mpr c16
  subst c16
  have H1 : (some false) = some r := by rw [if_neg (show ¬ (false = true) by decide)] at H; exact H
  clear H
  have H := H1
  clear H1
  obtain rfl := Option.some.inj H
  go_enter Tryd.func3, Tryd.ntmps3
  go_wp2_with (first | ((with_reducible refine gate_callee (f := 14) rfl ?_); refine goesL_ (some 9) rfl rfl Tryd.func14 (by kernel_rfl) rfl #[.slice A0 l0.length c0] rfl wm_ ?_; (with_reducible refine (bindlelaw11_light.calls k _ _ l0 true _ ?side1 ?side2 A3.out).mono ?_); (case side1 => exact wc_ HR0.out); (case side2 => exact HC0.out); rintro e w35 ⟨rfl, hb⟩; refine ⟨_, rfl, ?_⟩; have n0_ := A0_ (below_step (wb_ HB.out) hb); clear HB; have HB := n0_; clear n0_; (try clear hb); (try clear hb2); (try clear hk); (try clear hi)) | ((with_reducible refine gate_callee (f := 16) rfl ?_); refine goesL_ (some 14) rfl rfl Tryd.func16 (by kernel_rfl) rfl #[.slice A0 l0.length c0, .slice A1 l1.length c1] rfl wm_ ?_; (with_reducible refine (bindlelaw11_mixed.calls k _ _ l0 _ _ l1 t239 _ ?side1 ?side2 ?side3 ?side4 A5.out).mono ?_); (case side1 => exact wc_ (Kd.C_below HR0.out HB.out)); (case side2 => exact HC0.out); (case side3 => exact wc_ (Kd.C_below HR1.out HB.out)); (case side4 => exact HC1.out); rintro e w36 ⟨v240, rfl, ho0, hb⟩; refine ⟨_, rfl, ?_⟩; have n0_ := A0_ (Kd.R_lower ho0 (below_size (wb_ HB.out))); have n1_ := A0_ (below_step (wb_ HB.out) hb); clear HB; have HO241 := n0_; have HB := n1_; clear n0_ n1_; (try clear hb); (try clear hb2); (try clear hk); (try clear hi); (try clear ho0)) | ((with_reducible refine gate_callee (f := 18) rfl ?_); refine goesL_ (some 17) rfl rfl Tryd.func18 (by kernel_rfl) rfl #[.slice A0 l0.length c0] rfl wm_ ?_; (with_reducible refine (bindleref08_OwnTree.calls k _ _ l0 t242 _ ?side1 ?side2 A6.out).mono ?_); (case side1 => exact wc_ (Kd.C_below HR0.out HB.out)); (case side2 => exact HC0.out); rintro e w37 ⟨v243, rfl, ho0, hb⟩; refine ⟨_, rfl, ?_⟩; have n0_ := A0_ (Rb_ (wR_ HO241.out) hb); have n1_ := A0_ (Kd.N_lower (Kd.N_mono (ok' := fun k_ => some k_ ≠ (v240 : Value).ownBlock) (Kd.S_N (Kd.S_bound ho0)) (fun k_ hk_ => (Kd.fresh' (Kd.R_lt (wR_ HO241.out)) k_ hk_.2.1))) (below_size (wb_ HB.out))); have n2_ := A0_ (below_step (wb_ HB.out) hb); clear HO241; clear HB; have HO241 := n0_; have HO244 := n1_; have HB := n2_; clear n0_ n1_ n2_; (try clear hb); (try clear hb2); (try clear hk); (try clear hi); (try clear ho0)) | ((with_reducible refine gate_dst (N := 18) rfl ?_); refine Kd.R_lit Kd.string _ 9 ?hg (N := 18) ?hd (xs := ([] : List ByteArray)) (inner := []) (ok := fun _ => True) (okp := fun _ => True) ?hr ?hp (fun _ hk => hk) trivial (Below.refl _ _) (Nat.le_refl _) (by simp) ?_; (case hd => rfl); (case hg => rfl); (case hr => first | (go_simp; done) | (go_simp; rfl)); (case hp => exact (Reps.none _ _)); intro v246 w38 ho39 hb hg_ hnew_; clear hg_ hnew_; (first | rw [← Ny245.out] at ho39 | (simp only [Int.reduceToNat] at ho39; rw [← Ny245.out] at ho39)); have n0_ := A0_ (Kd.R_elder' (wR_ HO241.out) (Kd.R_base ho39) hb); have n1_ := A0_ (Kd.N_elder' (wN_ HO244.out) (Kd.R_base ho39) hb); have n2_ := A0_ (Kd.R_lower (Kd.R_new' ho39 (Kd.R_lt (wR_ HO241.out))) (below_size (wb_ HB.out))); have n3_ := A0_ (below_step (wb_ HB.out) hb); clear HO241; clear HO244; clear HB; have HO241 := n0_; have HO244 := n1_; have HO247 := n2_; have HB := n3_; clear n0_ n1_ n2_ n3_; clear hb ho39; obtain ⟨Ao41, co41, eo41⟩ := Kd.R_slice HO241.out; subst eo41) | ((with_reducible refine gate_builtin (b := .append) (xs := #[.tmp 18, .tmp 19]) rfl ?_); at_builtin; refine Kd.R_append_rows Kd.string (w0 := w) w.heap.size rfl (.tmp 18) (.tmp 19) 26 9 (.string ⟨#[]⟩) 16 rfl Tryd.underlying26 info9 rfl (by decide) (by omega) v246 y245 t239 _ _ _ (fun k_ => some k_ ≠ (.slice Ao41 t239.length co41 : Value).ownBlock) (fun _ => False) rfl rfl ?aO ?aR (fun _ _ h => h) (fun _ h => h.elim) ?aF ?aB ?aS ?aL ?_; (case aR => exact wc_ (Kd.R_reads' HO241.out).2.2); (case aB => exact (wb_ HB.out)); (case aF => exact (fun k_ hk => Kd.fresh' (Kd.R_lt (wR_ HO241.out)) k_ hk)); (case aO => exact (by (with_reducible repeat (first | apply Ra_ | apply RN_ | apply R1_)); exact Kd.R_mono HO247.out (fun _ hk => hk.2))); (case aS => exact (below_size (wb_ HB.out))); (case aL => have := LMc7.out; omega); intro v249 w40 ho hb hg hat; rw [← Ny248.out] at ho; have n0_ := A0_ (Kd.R_after (ok := (fun _ => True)) (wR_ HO241.out) hg hat); have n1_ := A0_ (Kd.N_afterv (ok := (fun k_ => some k_ ≠ (.slice Ao41 t239.length co41 : Value).ownBlock)) (wN_ HO244.out) hg hat); have n2_ := A0_ (hb); have n3_ := A0_ (ho); clear HO241; clear HO244; clear HB; clear HO247; have HO241 := n0_; have HO244 := n1_; have HB := n2_; have HO250 := n3_; clear n0_ n1_ n2_ n3_; clear ho hb hg hat; obtain ⟨Ao42, co42, eo42⟩ := Kd.N_slice HO244.out; subst eo42; obtain ⟨Ao43, co43, eo43⟩ := Kd.R_slice HO250.out; subst eo43) | ((with_reducible refine gate_callee (f := 17) rfl ?_); refine goesL_ (some 21) rfl rfl Tryd.func17 (by kernel_rfl) rfl #[.slice Ao42 t242.length co42, .slice Ao43 y248.length co43] rfl wm_ ?_; (with_reducible refine (links_Members.calls _ _ t242 _ _ y248 t251 t254 _ ?side1 ?side2 ?side3 ?side4 A8.out).mono ?_); (case side1 => exact wc_ (Kd.N_reads' HO244.out).2.2); (case side2 => exact (Kd.N_reads' HO244.out).2.1); (case side3 => exact wc_ (Kd.R_reads' HO250.out).2.2); (case side4 => exact (Kd.R_reads' HO250.out).2.1); rintro e w44 ⟨v252, rfl, ho0, hb⟩; refine ⟨_, rfl, ?_⟩; have n0_ := A0_ (Rb_ (wR_ HO241.out) hb); have n1_ := A0_ (Kd.N_below (wN_ HO244.out) hb); have n2_ := A0_ (Rb_ (wR_ HO250.out) hb); have n3_ := A0_ (Kd.V_lower (Kd.V_mono (ok' := fun k_ => some k_ ≠ (.slice Ao41 t239.length co41 : Value).ownBlock ∧ some k_ ≠ (.slice Ao42 t242.length co42 : Value).ownBlock ∧ some k_ ≠ (.slice Ao43 y248.length co43 : Value).ownBlock) ho0 (fun k_ hk_ => ⟨(Kd.fresh' (Kd.R_lt (wR_ HO241.out)) k_ hk_), (Kd.fresh' (Kd.N_lt (wN_ HO244.out)) k_ hk_), (Kd.fresh' (Kd.R_lt (wR_ HO250.out)) k_ hk_)⟩)) (below_size (wb_ HB.out))); have n4_ := A0_ (below_step (wb_ HB.out) hb); clear HO241; clear HO244; clear HO250; clear HB; have HO241 := n0_; have HO244 := n1_; have HO250 := n2_; have HO253 := n3_; have HB := n4_; clear n0_ n1_ n2_ n3_ n4_; (try clear hb); (try clear hb2); (try clear hk); (try clear hi); (try clear ho0)) | ((with_reducible refine gate_callee (f := 15) rfl ?_); refine goesL_ (some 24) rfl rfl Tryd.func15 (by kernel_rfl) rfl #[] rfl wm_ ?_; (with_reducible refine (bindlelaw11_answers.calls  true _ ?side1 A9.out).mono ?_); (case side1 => exact A0_ (Tabs.below hT.out (wb_ HB.out))); rintro e w45 ⟨rfl, hb⟩; refine ⟨_, rfl, ?_⟩; have n0_ := A0_ (Rb_ (wR_ HO241.out) hb); have n1_ := A0_ (Kd.N_below (wN_ HO244.out) hb); have n2_ := A0_ (Rb_ (wR_ HO250.out) hb); have n3_ := A0_ (Vb_ (wV_ HO253.out) hb); have n4_ := A0_ (below_step (wb_ HB.out) hb); clear HO241; clear HO244; clear HO250; clear HO253; clear HB; have HO241 := n0_; have HO244 := n1_; have HO250 := n2_; have HO253 := n3_; have HB := n4_; clear n0_ n1_ n2_ n3_ n4_; (try clear hb); (try clear hb2); (try clear hk); (try clear hi)) | (go_at_call 20; (with_reducible refine (bindleref08_Members.calls k (fun k_ => k_ < w.heap.size) _ _ l0 _ _ t239 t256 _ ?side1 ?side2 ?side3 A12.out).mono ?_); (case side1 => exact Kd.V_mk HC0.out (Kd.F_below (Kd.C_F k40_heap HR0.out) (wb_ HB.out))); (case side2 => exact wc_ (Kd.R_reads' HO241.out).2.2); (case side3 => exact (Kd.R_reads' HO241.out).2.1); rintro e w46 ⟨v257, rfl, ho0, hb⟩; have n0_ := A0_ (Rb_ (wR_ HO241.out) hb); have n1_ := A0_ (Kd.N_elder' (wN_ HO244.out) (Kd.N_base ho0) hb); have n2_ := A0_ (Rb_ (wR_ HO250.out) hb); have n3_ := A0_ (Kd.V_elder' (wV_ HO253.out) (Kd.N_base ho0) hb); have n4_ := A0_ (Kd.N_lower (Kd.N_mono (ok' := fun k_ => some k_ ≠ (.slice Ao41 t239.length co41 : Value).ownBlock ∧ some k_ ≠ (.slice Ao42 t242.length co42 : Value).ownBlock ∧ some k_ ≠ (.slice Ao43 y248.length co43 : Value).ownBlock) ho0 (fun k_ hk_ => ⟨Or.elim hk_ (fun hs_ => fun e_ => Nat.not_le.2 hs_ (Kd.R_base HO241.out k_ e_.symm)) (fun hn_ => (Kd.fresh' (Kd.R_lt (wR_ HO241.out)) k_ hn_)), Or.elim hk_ (fun hs_ => fun e_ => Nat.not_le.2 hs_ (Kd.N_base HO244.out k_ e_.symm)) (fun hn_ => (Kd.fresh' (Kd.N_lt (wN_ HO244.out)) k_ hn_)), Or.elim hk_ (fun hs_ => fun e_ => Nat.not_le.2 hs_ (Kd.R_base HO250.out k_ e_.symm)) (fun hn_ => (Kd.fresh' (Kd.R_lt (wR_ HO250.out)) k_ hn_))⟩)) (below_size (wb_ HB.out))); have n5_ := A0_ (below_step (wb_ HB.out) hb); clear HO241; clear HO244; clear HO250; clear HO253; clear HB; have HO241 := n0_; have HO244 := n1_; have HO250 := n2_; have HO253 := n3_; have HO258 := n4_; have HB := n5_; clear n0_ n1_ n2_ n3_ n4_ n5_; (try clear hb); (try clear hb2); (try clear hk); (try clear hi); (try clear ho0); obtain ⟨Ao47, co47, eo47⟩ := Kd.V_slice HO253.out; subst eo47; obtain ⟨Ao48, co48, eo48⟩ := Kd.N_slice HO258.out; subst eo48) | (go_at_call 19; (with_reducible refine (bindleref08_SameAll.calls k _ _ t251 _ _ t256 true _ ?side1 ?side2 ?side3 ?side4 A13.out).mono ?_); (case side1 => exact wc_ (Kd.V_reads' HO253.out).2.2); (case side2 => exact (Kd.V_reads' HO253.out).2.1); (case side3 => exact wc_ (Kd.N_reads' HO258.out).2.2); (case side4 => exact (Kd.N_reads' HO258.out).2.1); rintro e w49 ⟨rfl, hb⟩; have n0_ := A0_ (Rb_ (wR_ HO241.out) hb); have n1_ := A0_ (Kd.N_below (wN_ HO244.out) hb); have n2_ := A0_ (Rb_ (wR_ HO250.out) hb); have n3_ := A0_ (Vb_ (wV_ HO253.out) hb); have n4_ := A0_ (Kd.N_below (wN_ HO258.out) hb); have n5_ := A0_ (below_step (wb_ HB.out) hb); clear HO241; clear HO244; clear HO250; clear HO253; clear HO258; clear HB; have HO241 := n0_; have HO244 := n1_; have HO250 := n2_; have HO253 := n3_; have HO258 := n4_; have HB := n5_; clear n0_ n1_ n2_ n3_ n4_ n5_; (try clear hb); (try clear hb2); (try clear hk); (try clear hi)) | (go_at_call 21; (with_reducible refine (bindlelaw11_sound.calls k _ _ t251 false _ ?side1 ?side2 A15.out).mono ?_); (case side1 => exact wc_ (Kd.V_reads' HO253.out).2.2); (case side2 => exact (Kd.V_reads' HO253.out).2.1); rintro e w50 ⟨rfl, hb⟩; have n0_ := A0_ (Rb_ (wR_ HO241.out) hb); have n1_ := A0_ (Kd.N_below (wN_ HO244.out) hb); have n2_ := A0_ (Rb_ (wR_ HO250.out) hb); have n3_ := A0_ (Vb_ (wV_ HO253.out) hb); have n4_ := A0_ (Kd.N_below (wN_ HO258.out) hb); have n5_ := A0_ (below_step (wb_ HB.out) hb); clear HO241; clear HO244; clear HO250; clear HO253; clear HO258; clear HB; have HO241 := n0_; have HO244 := n1_; have HO250 := n2_; have HO253 := n3_; have HO258 := n4_; have HB := n5_; clear n0_ n1_ n2_ n3_ n4_ n5_; (try clear hb); (try clear hb2); (try clear hk); (try clear hi)))
  go_ret
  exact ⟨we_, wb_ HB.out⟩
 subst c16
 have H1 : ((links_Sound.f t251).bind fun t261 => (some t261)) = some r := by rw [if_pos rfl] at H; exact H
 clear H
 have H := H1
 clear H1
 replace H := Option.bind_eq_some_iff.mp H
 obtain ⟨t261, A170, H⟩ := H
 replace H : (some t261) = some r := H
 have A17 := A0_ A170
 clear A170
 obtain rfl := Option.some.inj H
 go_enter Tryd.func3, Tryd.ntmps3
 go_wp2_with (first | ((with_reducible refine gate_callee (f := 14) rfl ?_); refine goesL_ (some 9) rfl rfl Tryd.func14 (by kernel_rfl) rfl #[.slice A0 l0.length c0] rfl wm_ ?_; (with_reducible refine (bindlelaw11_light.calls k _ _ l0 true _ ?side1 ?side2 A3.out).mono ?_); (case side1 => exact wc_ HR0.out); (case side2 => exact HC0.out); rintro e w18 ⟨rfl, hb⟩; refine ⟨_, rfl, ?_⟩; have n0_ := A0_ (below_step (wb_ HB.out) hb); clear HB; have HB := n0_; clear n0_; (try clear hb); (try clear hb2); (try clear hk); (try clear hi)) | ((with_reducible refine gate_callee (f := 16) rfl ?_); refine goesL_ (some 14) rfl rfl Tryd.func16 (by kernel_rfl) rfl #[.slice A0 l0.length c0, .slice A1 l1.length c1] rfl wm_ ?_; (with_reducible refine (bindlelaw11_mixed.calls k _ _ l0 _ _ l1 t239 _ ?side1 ?side2 ?side3 ?side4 A5.out).mono ?_); (case side1 => exact wc_ (Kd.C_below HR0.out HB.out)); (case side2 => exact HC0.out); (case side3 => exact wc_ (Kd.C_below HR1.out HB.out)); (case side4 => exact HC1.out); rintro e w19 ⟨v240, rfl, ho0, hb⟩; refine ⟨_, rfl, ?_⟩; have n0_ := A0_ (Kd.R_lower ho0 (below_size (wb_ HB.out))); have n1_ := A0_ (below_step (wb_ HB.out) hb); clear HB; have HO241 := n0_; have HB := n1_; clear n0_ n1_; (try clear hb); (try clear hb2); (try clear hk); (try clear hi); (try clear ho0)) | ((with_reducible refine gate_callee (f := 18) rfl ?_); refine goesL_ (some 17) rfl rfl Tryd.func18 (by kernel_rfl) rfl #[.slice A0 l0.length c0] rfl wm_ ?_; (with_reducible refine (bindleref08_OwnTree.calls k _ _ l0 t242 _ ?side1 ?side2 A6.out).mono ?_); (case side1 => exact wc_ (Kd.C_below HR0.out HB.out)); (case side2 => exact HC0.out); rintro e w20 ⟨v243, rfl, ho0, hb⟩; refine ⟨_, rfl, ?_⟩; have n0_ := A0_ (Rb_ (wR_ HO241.out) hb); have n1_ := A0_ (Kd.N_lower (Kd.N_mono (ok' := fun k_ => some k_ ≠ (v240 : Value).ownBlock) (Kd.S_N (Kd.S_bound ho0)) (fun k_ hk_ => (Kd.fresh' (Kd.R_lt (wR_ HO241.out)) k_ hk_.2.1))) (below_size (wb_ HB.out))); have n2_ := A0_ (below_step (wb_ HB.out) hb); clear HO241; clear HB; have HO241 := n0_; have HO244 := n1_; have HB := n2_; clear n0_ n1_ n2_; (try clear hb); (try clear hb2); (try clear hk); (try clear hi); (try clear ho0)) | ((with_reducible refine gate_dst (N := 18) rfl ?_); refine Kd.R_lit Kd.string _ 9 ?hg (N := 18) ?hd (xs := ([] : List ByteArray)) (inner := []) (ok := fun _ => True) (okp := fun _ => True) ?hr ?hp (fun _ hk => hk) trivial (Below.refl _ _) (Nat.le_refl _) (by simp) ?_; (case hd => rfl); (case hg => rfl); (case hr => first | (go_simp; done) | (go_simp; rfl)); (case hp => exact (Reps.none _ _)); intro v246 w21 ho22 hb hg_ hnew_; clear hg_ hnew_; (first | rw [← Ny245.out] at ho22 | (simp only [Int.reduceToNat] at ho22; rw [← Ny245.out] at ho22)); have n0_ := A0_ (Kd.R_elder' (wR_ HO241.out) (Kd.R_base ho22) hb); have n1_ := A0_ (Kd.N_elder' (wN_ HO244.out) (Kd.R_base ho22) hb); have n2_ := A0_ (Kd.R_lower (Kd.R_new' ho22 (Kd.R_lt (wR_ HO241.out))) (below_size (wb_ HB.out))); have n3_ := A0_ (below_step (wb_ HB.out) hb); clear HO241; clear HO244; clear HB; have HO241 := n0_; have HO244 := n1_; have HO247 := n2_; have HB := n3_; clear n0_ n1_ n2_ n3_; clear hb ho22; obtain ⟨Ao24, co24, eo24⟩ := Kd.R_slice HO241.out; subst eo24) | ((with_reducible refine gate_builtin (b := .append) (xs := #[.tmp 18, .tmp 19]) rfl ?_); at_builtin; refine Kd.R_append_rows Kd.string (w0 := w) w.heap.size rfl (.tmp 18) (.tmp 19) 26 9 (.string ⟨#[]⟩) 16 rfl Tryd.underlying26 info9 rfl (by decide) (by omega) v246 y245 t239 _ _ _ (fun k_ => some k_ ≠ (.slice Ao24 t239.length co24 : Value).ownBlock) (fun _ => False) rfl rfl ?aO ?aR (fun _ _ h => h) (fun _ h => h.elim) ?aF ?aB ?aS ?aL ?_; (case aR => exact wc_ (Kd.R_reads' HO241.out).2.2); (case aB => exact (wb_ HB.out)); (case aF => exact (fun k_ hk => Kd.fresh' (Kd.R_lt (wR_ HO241.out)) k_ hk)); (case aO => exact (by (with_reducible repeat (first | apply Ra_ | apply RN_ | apply R1_)); exact Kd.R_mono HO247.out (fun _ hk => hk.2))); (case aS => exact (below_size (wb_ HB.out))); (case aL => have := LMc7.out; omega); intro v249 w23 ho hb hg hat; rw [← Ny248.out] at ho; have n0_ := A0_ (Kd.R_after (ok := (fun _ => True)) (wR_ HO241.out) hg hat); have n1_ := A0_ (Kd.N_afterv (ok := (fun k_ => some k_ ≠ (.slice Ao24 t239.length co24 : Value).ownBlock)) (wN_ HO244.out) hg hat); have n2_ := A0_ (hb); have n3_ := A0_ (ho); clear HO241; clear HO244; clear HB; clear HO247; have HO241 := n0_; have HO244 := n1_; have HB := n2_; have HO250 := n3_; clear n0_ n1_ n2_ n3_; clear ho hb hg hat; obtain ⟨Ao25, co25, eo25⟩ := Kd.N_slice HO244.out; subst eo25; obtain ⟨Ao26, co26, eo26⟩ := Kd.R_slice HO250.out; subst eo26) | ((with_reducible refine gate_callee (f := 17) rfl ?_); refine goesL_ (some 21) rfl rfl Tryd.func17 (by kernel_rfl) rfl #[.slice Ao25 t242.length co25, .slice Ao26 y248.length co26] rfl wm_ ?_; (with_reducible refine (links_Members.calls _ _ t242 _ _ y248 t251 t254 _ ?side1 ?side2 ?side3 ?side4 A8.out).mono ?_); (case side1 => exact wc_ (Kd.N_reads' HO244.out).2.2); (case side2 => exact (Kd.N_reads' HO244.out).2.1); (case side3 => exact wc_ (Kd.R_reads' HO250.out).2.2); (case side4 => exact (Kd.R_reads' HO250.out).2.1); rintro e w27 ⟨v252, rfl, ho0, hb⟩; refine ⟨_, rfl, ?_⟩; have n0_ := A0_ (Rb_ (wR_ HO241.out) hb); have n1_ := A0_ (Kd.N_below (wN_ HO244.out) hb); have n2_ := A0_ (Rb_ (wR_ HO250.out) hb); have n3_ := A0_ (Kd.V_lower (Kd.V_mono (ok' := fun k_ => some k_ ≠ (.slice Ao24 t239.length co24 : Value).ownBlock ∧ some k_ ≠ (.slice Ao25 t242.length co25 : Value).ownBlock ∧ some k_ ≠ (.slice Ao26 y248.length co26 : Value).ownBlock) ho0 (fun k_ hk_ => ⟨(Kd.fresh' (Kd.R_lt (wR_ HO241.out)) k_ hk_), (Kd.fresh' (Kd.N_lt (wN_ HO244.out)) k_ hk_), (Kd.fresh' (Kd.R_lt (wR_ HO250.out)) k_ hk_)⟩)) (below_size (wb_ HB.out))); have n4_ := A0_ (below_step (wb_ HB.out) hb); clear HO241; clear HO244; clear HO250; clear HB; have HO241 := n0_; have HO244 := n1_; have HO250 := n2_; have HO253 := n3_; have HB := n4_; clear n0_ n1_ n2_ n3_ n4_; (try clear hb); (try clear hb2); (try clear hk); (try clear hi); (try clear ho0)) | ((with_reducible refine gate_callee (f := 15) rfl ?_); refine goesL_ (some 24) rfl rfl Tryd.func15 (by kernel_rfl) rfl #[] rfl wm_ ?_; (with_reducible refine (bindlelaw11_answers.calls  true _ ?side1 A9.out).mono ?_); (case side1 => exact A0_ (Tabs.below hT.out (wb_ HB.out))); rintro e w28 ⟨rfl, hb⟩; refine ⟨_, rfl, ?_⟩; have n0_ := A0_ (Rb_ (wR_ HO241.out) hb); have n1_ := A0_ (Kd.N_below (wN_ HO244.out) hb); have n2_ := A0_ (Rb_ (wR_ HO250.out) hb); have n3_ := A0_ (Vb_ (wV_ HO253.out) hb); have n4_ := A0_ (below_step (wb_ HB.out) hb); clear HO241; clear HO244; clear HO250; clear HO253; clear HB; have HO241 := n0_; have HO244 := n1_; have HO250 := n2_; have HO253 := n3_; have HB := n4_; clear n0_ n1_ n2_ n3_ n4_; (try clear hb); (try clear hb2); (try clear hk); (try clear hi)) | (go_at_call 20; (with_reducible refine (bindleref08_Members.calls k (fun k_ => k_ < w.heap.size) _ _ l0 _ _ t239 t256 _ ?side1 ?side2 ?side3 A12.out).mono ?_); (case side1 => exact Kd.V_mk HC0.out (Kd.F_below (Kd.C_F k40_heap HR0.out) (wb_ HB.out))); (case side2 => exact wc_ (Kd.R_reads' HO241.out).2.2); (case side3 => exact (Kd.R_reads' HO241.out).2.1); rintro e w29 ⟨v257, rfl, ho0, hb⟩; have n0_ := A0_ (Rb_ (wR_ HO241.out) hb); have n1_ := A0_ (Kd.N_elder' (wN_ HO244.out) (Kd.N_base ho0) hb); have n2_ := A0_ (Rb_ (wR_ HO250.out) hb); have n3_ := A0_ (Kd.V_elder' (wV_ HO253.out) (Kd.N_base ho0) hb); have n4_ := A0_ (Kd.N_lower (Kd.N_mono (ok' := fun k_ => some k_ ≠ (.slice Ao24 t239.length co24 : Value).ownBlock ∧ some k_ ≠ (.slice Ao25 t242.length co25 : Value).ownBlock ∧ some k_ ≠ (.slice Ao26 y248.length co26 : Value).ownBlock) ho0 (fun k_ hk_ => ⟨Or.elim hk_ (fun hs_ => fun e_ => Nat.not_le.2 hs_ (Kd.R_base HO241.out k_ e_.symm)) (fun hn_ => (Kd.fresh' (Kd.R_lt (wR_ HO241.out)) k_ hn_)), Or.elim hk_ (fun hs_ => fun e_ => Nat.not_le.2 hs_ (Kd.N_base HO244.out k_ e_.symm)) (fun hn_ => (Kd.fresh' (Kd.N_lt (wN_ HO244.out)) k_ hn_)), Or.elim hk_ (fun hs_ => fun e_ => Nat.not_le.2 hs_ (Kd.R_base HO250.out k_ e_.symm)) (fun hn_ => (Kd.fresh' (Kd.R_lt (wR_ HO250.out)) k_ hn_))⟩)) (below_size (wb_ HB.out))); have n5_ := A0_ (below_step (wb_ HB.out) hb); clear HO241; clear HO244; clear HO250; clear HO253; clear HB; have HO241 := n0_; have HO244 := n1_; have HO250 := n2_; have HO253 := n3_; have HO258 := n4_; have HB := n5_; clear n0_ n1_ n2_ n3_ n4_ n5_; (try clear hb); (try clear hb2); (try clear hk); (try clear hi); (try clear ho0); obtain ⟨Ao30, co30, eo30⟩ := Kd.V_slice HO253.out; subst eo30; obtain ⟨Ao31, co31, eo31⟩ := Kd.N_slice HO258.out; subst eo31) | (go_at_call 19; (with_reducible refine (bindleref08_SameAll.calls k _ _ t251 _ _ t256 true _ ?side1 ?side2 ?side3 ?side4 A13.out).mono ?_); (case side1 => exact wc_ (Kd.V_reads' HO253.out).2.2); (case side2 => exact (Kd.V_reads' HO253.out).2.1); (case side3 => exact wc_ (Kd.N_reads' HO258.out).2.2); (case side4 => exact (Kd.N_reads' HO258.out).2.1); rintro e w32 ⟨rfl, hb⟩; have n0_ := A0_ (Rb_ (wR_ HO241.out) hb); have n1_ := A0_ (Kd.N_below (wN_ HO244.out) hb); have n2_ := A0_ (Rb_ (wR_ HO250.out) hb); have n3_ := A0_ (Vb_ (wV_ HO253.out) hb); have n4_ := A0_ (Kd.N_below (wN_ HO258.out) hb); have n5_ := A0_ (below_step (wb_ HB.out) hb); clear HO241; clear HO244; clear HO250; clear HO253; clear HO258; clear HB; have HO241 := n0_; have HO244 := n1_; have HO250 := n2_; have HO253 := n3_; have HO258 := n4_; have HB := n5_; clear n0_ n1_ n2_ n3_ n4_ n5_; (try clear hb); (try clear hb2); (try clear hk); (try clear hi)) | (go_at_call 21; (with_reducible refine (bindlelaw11_sound.calls k _ _ t251 true _ ?side1 ?side2 A15.out).mono ?_); (case side1 => exact wc_ (Kd.V_reads' HO253.out).2.2); (case side2 => exact (Kd.V_reads' HO253.out).2.1); rintro e w33 ⟨rfl, hb⟩; have n0_ := A0_ (Rb_ (wR_ HO241.out) hb); have n1_ := A0_ (Kd.N_below (wN_ HO244.out) hb); have n2_ := A0_ (Rb_ (wR_ HO250.out) hb); have n3_ := A0_ (Vb_ (wV_ HO253.out) hb); have n4_ := A0_ (Kd.N_below (wN_ HO258.out) hb); have n5_ := A0_ (below_step (wb_ HB.out) hb); clear HO241; clear HO244; clear HO250; clear HO253; clear HO258; clear HB; have HO241 := n0_; have HO244 := n1_; have HO250 := n2_; have HO253 := n3_; have HO258 := n4_; have HB := n5_; clear n0_ n1_ n2_ n3_ n4_ n5_; (try clear hb); (try clear hb2); (try clear hk); (try clear hi)) | (go_at_call 22; (with_reducible refine (links_Sound.calls _ _ t251 t261 _ ?side1 ?side2 ?side3 A17.out).mono ?_); (case side1 => exact A0_ (Tabs.below hT.out (wb_ HB.out))); (case side2 => exact wc_ (Kd.V_reads' HO253.out).2.2); (case side3 => exact (Kd.V_reads' HO253.out).2.1); rintro e w34 ⟨rfl, hb⟩; have n0_ := A0_ (Rb_ (wR_ HO241.out) hb); have n1_ := A0_ (Kd.N_below (wN_ HO244.out) hb); have n2_ := A0_ (Rb_ (wR_ HO250.out) hb); have n3_ := A0_ (Vb_ (wV_ HO253.out) hb); have n4_ := A0_ (Kd.N_below (wN_ HO258.out) hb); have n5_ := A0_ (below_step (wb_ HB.out) hb); clear HO241; clear HO244; clear HO250; clear HO253; clear HO258; clear HB; have HO241 := n0_; have HO244 := n1_; have HO250 := n2_; have HO253 := n3_; have HO258 := n4_; have HB := n5_; clear n0_ n1_ n2_ n3_ n4_ n5_; (try clear hb); (try clear hb2); (try clear hk); (try clear hi)))
 go_ret
 exact ⟨we_, wb_ HB.out⟩
end Go.Proofs.YtfljbidecljlcaaDoor.Print

namespace Go.Proofs.YtfljbidecljlcaaDoor.Print
open Go.RowKit Go.Proofs.YtfljbidecljlcaaDoorW.PrintWords Go.Proofs.YtfljbidecljlcaaDoorW.PrintLast Go.Proofs.YtfljbidecljlcaaDoorW.PrintMore
attribute [local go_sem] max2_int min2_int max_two min_two max_three min_three max_four min_four   -- for this text's walks alone
set_option linter.unusedVariables false
set_option linter.unusedSimpArgs false
end Go.Proofs.YtfljbidecljlcaaDoor.Print

namespace Go.Proofs.YtfljbidecljlcaaDoor.Print
open Go.RowKit Go.Proofs.YtfljbidecljlcaaDoorW.PrintWords Go.Proofs.YtfljbidecljlcaaDoorW.PrintLast Go.Proofs.YtfljbidecljlcaaDoorW.PrintMore
attribute [local go_sem] max2_int min2_int max_two min_two max_three min_three max_four min_four   -- for this text's walks alone
set_option linter.unusedVariables false
set_option linter.unusedSimpArgs false
end Go.Proofs.YtfljbidecljlcaaDoor.Print

namespace Go.Proofs.YtfljbidecljlcaaDoor
open Go.RowKit Go.Proofs.YtfljbidecljlcaaDoor.Print Go.Proofs.YtfljbidecljlcaaDoorW.PrintWords
theorem rdM_nat (l : List Mem) (j : Nat) (h : j < l.length) : rd_T45 l (j : Int) = l[j] := by rw [rdM_at l j (by omega) (by omega)]; simp
theorem wr64 {n : Nat} (h : n ≤ 4611686018427387904) : wrap64 ((n : Int) + 1) = ((n + 1 : Nat) : Int) := by unfold wrap64; omega
theorem answers11 : bindlelaw11_answers.f = some true := by kernel_rfl
def kindsF (l : List Mem) (i : Nat) : List (List UInt8 × Int) := ((l.take i).map (fun m => (m.f0.data.toList, m.f2))).reverse
theorem kindsF_succ (l : List Mem) (i : Nat) (h : i < l.length) : kindsF l (i + 1) = (l[i].f0.data.toList, l[i].f2) :: kindsF l i := by
 unfold kindsF
 rw [List.take_add_one, List.getElem?_eq_getElem h, List.map_append, List.reverse_append]
 rfl
theorem lkI_some (f : List (List UInt8 × Int)) (s : List UInt8) {v : Int} (h : lkI f s = some v) : ∃ p ∈ f, p.1 = s := by
 induction f with
 | nil => cases h
 | cons p r ih =>
  rw [lkI] at h
  split at h
  ·rename_i e; exact ⟨p, List.mem_cons_self, e.symm⟩
  ·obtain ⟨q, hq, e⟩ := ih h; exact ⟨q, List.mem_cons_of_mem _ hq, e⟩
theorem lkI_mem (f : List (List UInt8 × Int)) {p : List UInt8 × Int} (h : p ∈ f) : (lkI f p.1).isSome = true := by
 induction f with
 | nil => cases h
 | cons q r ih =>
  rw [lkI]
  split
  ·rfl
  ·rename_i e
   rcases List.mem_cons.1 h with rfl | h
   ·exact absurd rfl e
   ·exact ih h
theorem stepS_some {f g : List (List UInt8 × Int)} {m : Mem} (h : stepS f m = some g) : g = (m.f0.data.toList, m.f2) :: f ∧ lkI f m.f0.data.toList = none := by
 unfold stepS at h
 split at h
 ·cases h
 ·rename_i hn
  simp only [Option.some.injEq] at h
  exact ⟨h.symm, by cases hk : lkI f m.f0.data.toList with | none => rfl | some v => exact absurd (.inl (by rw [hk]; rfl)) hn⟩
theorem foldS (l : List Mem) (i : Nat) (hi : i ≤ l.length) {f : List (List UInt8 × Int)} (h : (l.take i).foldlM stepS [] = some f) : f = kindsF l i ∧ ∀ (j : Nat) (hj : j < l.length), j < i → lkI (kindsF l j) l[j].f0.data.toList = none := by
 induction i generalizing f with
 | zero => cases h; exact ⟨rfl, fun j hj h => absurd h (by omega)⟩
 | succ i ih =>
  cases hp : (l.take i).foldlM stepS [] with
  | none =>
   rw [List.take_add_one, List.foldlM_append, hp] at h
   cases h
  | some g =>
   obtain ⟨rfl, hn⟩ := ih (by omega) hp
   rw [sound_take l i (by omega) hp] at h
   obtain ⟨rfl, h2⟩ := stepS_some h
   refine ⟨(kindsF_succ l i (by omega)).symm, fun j hj hji => ?_⟩
   rcases Nat.lt_or_ge j i with h3 | h3
   ·exact hn j hj h3
   ·obtain rfl : j = i := by omega
    exact h2
def bAt (l : List Mem) (m : Mem) (j : Nat) : Bool := m.f2 != 49 || decide ((lkI (kindsF l j) m.f1.data.toList).getD 0 = 48)
theorem inner_f (l : List Mem) (hz : ∀ x ∈ l, MemR x) (hlen : l.length ≤ 1000000000000) (i : Nat) (hi : i < l.length) (hd : ∀ (j : Nat) (hj : j < l.length), j < i → lkI (kindsF l j) l[j].f0.data.toList = none)
  (hf : (l.take i).foldlM stepS [] = some (kindsF l i)) (hrest : ∀ f, (l.take (i + 1)).foldlM stepS [] = some f → Ev (fun k => bindlelaw11_sound.l0 k l ((i + 1 : Nat) : Int)) (soundF l)) (d : Nat) :
  ∀ j : Nat, j + d = i → (∀ (t : Nat) (ht : t < l.length), t < j → l[t].f0.toList ≠ l[i].f0.toList) → Ev (fun k => bindlelaw11_sound.l1 k l (i : Int) (bAt l l[i] j) (j : Int)) (soundF l) := by
 have hstep := sound_take l i hi hf
 induction d with
 | zero =>
  intro j hj hno
  obtain rfl : j = i := by omega
  have hnone : lkI (kindsF l j) l[j].f0.data.toList = none := by
   cases hk : lkI (kindsF l j) l[j].f0.data.toList with
   | none => rfl
   | some v =>
    obtain ⟨p, hp, e⟩ := lkI_some _ _ hk
    unfold kindsF at hp
    rw [List.mem_reverse, List.mem_map] at hp
    obtain ⟨m, hm, rfl⟩ := hp
    obtain ⟨t, ht, rfl⟩ := List.getElem_of_mem hm
    rw [List.length_take] at ht
    rw [List.getElem_take] at e
    rw [← Lib.toList_data, ← Lib.toList_data] at e
    exact absurd e (hno t (by omega) (by omega))
  cases hb : bAt l l[j] j with
  | false =>
   have hs : stepS (kindsF l j) l[j] = none := by
    unfold stepS
    unfold bAt at hb
    rw [Bool.or_eq_false_iff, bne_eq_false_iff_eq, decide_eq_false_iff_not] at hb
    rw [if_pos (.inr (.inr hb))]
   rw [sound_stop l j hi hf hs]
   exact Ev.step (f := fun _ => some false) (fun k => by rw [bindlelaw11_sound.l1, if_neg (by omega), if_neg (by decide)]) (Ev.now _)
  | true =>
   refine Ev.step (f := fun k => (bindleref08_Good.f k (l[j].f0) (l[j].f1) (l[j].f2) (l[j].f3.f0) (l[j].f3.f1) (l[j].f3.f2) (l[j].f3.f3) (l[j].f4)).bind fun t186 => (if t186 = true then (bindlelaw11_sound.l0 k l (((j + 1 : Nat)) : Int)) else (some false))) (fun k => ?_) ?_
   ·rw [bindlelaw11_sound.l1, if_neg (by omega), if_pos rfl, if_pos (by omega), if_pos (by omega), rdM_nat l j hi, wr64 (by omega)]
   refine Ev.bind (refGood_eq l[j] (hz _ (List.getElem_mem hi))) ?_
   cases hg : goodM l[j] with
   | false =>
    have hs : stepS (kindsF l j) l[j] = none := by unfold stepS; rw [if_pos (.inr (.inl hg))]
    rw [sound_stop l j hi hf hs]
    exact Ev.congr (fun k => by rw [if_neg (by decide)]) (Ev.now _)
   | true =>
    have hs : stepS (kindsF l j) l[j] = some ((l[j].f0.data.toList, l[j].f2) :: kindsF l j) := by
     unfold stepS
     unfold bAt at hb
     rw [Bool.or_eq_true, bne_iff_ne, decide_eq_true_iff] at hb
     rw [if_neg]
     rintro (h | h | ⟨h, h2⟩)
     ·rw [hnone] at h; cases h
     ·rw [hg] at h; cases h
     ·exact hb.elim (fun h3 => h3 h) h2
    exact Ev.congr (fun k => by rw [if_pos rfl]) (hrest _ (by rw [hstep, hs]))
 | succ d ih =>
  intro j hj hno
  have hjl : j < l.length := by omega
  by_cases he : l[j].f0.toList = l[i].f0.toList
  ·have hs : stepS (kindsF l i) l[i] = none := by
    unfold stepS
    have hm : (l[j].f0.data.toList, l[j].f2) ∈ kindsF l i := by
     unfold kindsF
     rw [List.mem_reverse, List.mem_map]
     exact ⟨l[j], List.mem_take_iff_getElem.2 ⟨j, by omega, rfl⟩, rfl⟩
    have := lkI_mem _ hm
    dsimp only at this
    rw [Lib.toList_data, Lib.toList_data] at he
    rw [he] at this
    rw [if_pos (.inl this)]
   rw [sound_stop l i hi hf hs]
   exact Ev.step (f := fun _ => some false) (fun k => by rw [bindlelaw11_sound.l1, if_pos (by omega), if_pos (by omega), if_pos (by omega), if_pos (by omega), if_pos (by omega), rdM_nat l j hjl, rdM_nat l i hi, if_pos he]) (Ev.now _)
  ·have hnext := ih (j + 1) (by omega) (fun t ht h => by
    rcases Nat.lt_or_ge t j with h3 | h3
    ·exact hno t ht h3
    ·obtain rfl : t = j := by omega
     exact he)
   have hk := kindsF_succ l j hjl
   refine Ev.step (f := fun k => bindlelaw11_sound.l1 k l (i : Int) (bAt l l[i] (j + 1)) ((j + 1 : Nat) : Int)) (fun k => ?_) hnext
   rw [bindlelaw11_sound.l1, if_pos (by omega), if_pos (by omega), if_pos (by omega), if_pos (by omega), if_pos (by omega), rdM_nat l j hjl, rdM_nat l i hi, if_neg he, wr64 (by omega)]
   have hdj := hd j hjl (by omega)
   cases hb : bAt l l[i] j with
   | true =>
    rw [if_pos rfl]
    have : bAt l l[i] (j + 1) = true := by
     unfold bAt at hb ⊢
     rw [Bool.or_eq_true, bne_iff_ne, decide_eq_true_iff] at hb ⊢
     rcases hb with h | h
     ·exact .inl h
     ·refine .inr ?_
      rw [hk, lkI]
      by_cases e : l[i].f1.data.toList = l[j].f0.data.toList
      ·rw [e, hdj] at h; cases h
      ·rw [if_neg e]; exact h
    rw [this]
   | false =>
    rw [if_neg (by decide)]
    unfold bAt at hb
    rw [Bool.or_eq_false_iff, bne_eq_false_iff_eq, decide_eq_false_iff_not] at hb
    by_cases e : l[j].f0.toList = l[i].f1.toList
    ·rw [if_pos e]
     have : bAt l l[i] (j + 1) = (l[j].f2 == 48) := by
      unfold bAt
      rw [hb.1, hk, lkI, if_pos (by rw [Lib.toList_data, Lib.toList_data] at e; exact e.symm), Option.getD_some]
      rw [show ((49 : Int) != 49) = false from rfl, Bool.false_or, Bool.eq_iff_iff, decide_eq_true_iff, beq_iff_eq]
     rw [this]
    ·rw [if_neg e]
     have : bAt l l[i] (j + 1) = false := by
      unfold bAt
      rw [hb.1, hk, lkI, if_neg (fun h => e (by rw [Lib.toList_data, Lib.toList_data]; exact h.symm)), decide_eq_false hb.2]
      rfl
     rw [this]
theorem outer_f (l : List Mem) (hz : ∀ x ∈ l, MemR x) (hlen : l.length ≤ 1000000000000) (d : Nat) : ∀ (i : Nat) (f : List (List UInt8 × Int)), i + d = l.length → (l.take i).foldlM stepS [] = some f → Ev (fun k => bindlelaw11_sound.l0 k l (i : Int)) (soundF l) := by
 induction d with
 | zero =>
  intro i f hi hf
  rw [sound_end l (f := f) (by rw [show l.length = i from by omega]; exact hf)]
  exact Ev.step (f := fun _ => some true) (fun k => by rw [bindlelaw11_sound.l0, if_neg (by omega)]) (Ev.now _)
 | succ d ih =>
  intro i f hi hf
  have hil : i < l.length := by omega
  obtain ⟨rfl, hd⟩ := foldS l i (by omega) hf
  have h := inner_f l hz hlen i hil hd hf (fun g hg => ih (i + 1) g (by omega) hg) i 0 (by omega) (fun t ht h => absurd h (by omega))
  refine Ev.step (fun k => ?_) h
  have hb : bAt l l[i] 0 = (l[i].f2 != 49) := by
   unfold bAt
   rw [show lkI (kindsF l 0) l[i].f1.data.toList = none from rfl]
   simp
  rw [bindlelaw11_sound.l0, if_pos (by omega), if_pos (by omega), rdM_nat l i hil, hb]
  rfl
theorem Sound_eq (l : List Mem) (hz : ∀ x ∈ l, MemR x) (hlen : l.length ≤ 1000000000000) : Ev (fun k => bindlelaw11_sound.f k l) (soundF l) := outer_f l hz hlen l.length 0 [] (by omega) rfl
end Go.Proofs.YtfljbidecljlcaaDoor

namespace Go.Proofs.YtfljbidecljlcaaDoor
open Go.RowKit Go.Proofs.YtfljbidecljlcaaDoor.Print Go.Proofs.YtfljbidecljlcaaDoorW.PrintWords
set_option linter.unusedVariables false
theorem links_f {l : List Node} (hz : ∀ x ∈ l, NodeZ x) (hl : l.length ≤ 1000000000000) (hg : goodTree l = true) (o : List ByteArray) : links_Members.f l o = some (membersF l o) := by
 unfold links_Members.f
 rw [if_pos ⟨(good_parts hg).1, nodesZ_small hz hl⟩]
theorem members_from (l : List Node) (f : List (List UInt8 × ByteArray)) (x : Node) (hf : ∀ q r, lk f q = some r → r.size ≤ 8000000000000) (hx : NodeZ x) (hp : x.f0.size ≤ 8000000000000 ∧ x.f1.size ≤ 8000000000000) : MemZ (memF f x).1 ∧ ∀ q r, lk (memF f x).2 q = some r → r.size ≤ 8000000000000 := by
 unfold memF
 by_cases h48 : x.f3 = 48
 ·rw [if_pos h48]
  cases hl : lk f x.f2.data.toList with
  | some q => exact ⟨⟨hp.1, hf _ _ hl, by show ([] : List Int).length ≤ _; simp⟩, hf⟩
  | none =>
   refine ⟨⟨hp.1, hp.2, hx.2.2.2⟩, fun q r h => ?_⟩
   dsimp only at h
   rw [lk] at h
   split at h
   ·cases h; exact hp.1
   ·exact hf q r h
 ·rw [if_neg h48]
  exact ⟨⟨hp.1, hp.2, hx.2.2.2⟩, hf⟩
theorem fold_memZ {l : List Node} (hx : ∀ x ∈ l, NodeZ x ∧ x.f0.size ≤ 8000000000000 ∧ x.f1.size ≤ 8000000000000) : ∀ (rest : List ByteArray) (s s' : MemSt), rest.foldlM (stepM l) s = some s' → (∀ m ∈ s.out, MemZ m) → (∀ q r, lk s.first q = some r → r.size ≤ 8000000000000) → (∀ m ∈ s'.out, MemZ m) ∧ s'.out.length = s.out.length + rest.length := by
 intro rest
 induction rest with
 | nil => intro s s' h h1 h2; obtain rfl : s = s' := Option.some.inj h; exact ⟨h1, rfl⟩
 | cons p rest ih =>
  intro s s' h h1 h2
  rw [List.foldlM_cons] at h
  cases hs : stepM l s p with
  | none => rw [hs] at h; cases h
  | some s1 =>
   rw [hs] at h
   unfold stepM at hs
   cases hf : findF l p with
   | none => rw [hf] at hs; cases hs
   | some x =>
    rw [hf] at hs
    dsimp only at hs
    split at hs
    ·cases hs
    ·simp only [Option.some.injEq] at hs
     subst hs
     obtain ⟨g1, g2, g3⟩ := hx x (findF_mem hf).1
     obtain ⟨k1, k2⟩ := members_from l s.first x h2 g1 ⟨g2, g3⟩
     obtain ⟨r1, r2⟩ := ih _ s' h (fun m hm => by
      rcases List.mem_append.1 hm with hm | hm
      ·exact h1 m hm
      ·rw [List.mem_singleton] at hm; rw [hm]; exact k1) k2
     exact ⟨r1, by rw [r2]; simp; omega⟩
theorem cleanF_short (s : ByteArray) (h : (cleanF s).2 = 0) : (cleanF s).1.size ≤ 200 := by
 unfold cleanF at h ⊢
 by_cases a : rightB s = false
 ·rw [if_pos a] at h; cases h
 ·rw [if_neg a] at h ⊢
  by_cases b : Lib.hasPrefix s.data.toList [47] = true
  ·rw [if_pos b] at h; cases h
  ·rw [if_neg b] at h ⊢
   by_cases c : (splitS s).any isUp = true
   ·rw [if_pos c] at h; cases h
   ·rw [if_neg c] at h ⊢
    by_cases d : ((outOf s).toList == [] || decide (200 < (outOf s).size)) = true
    ·rw [if_pos d] at h; cases h
    ·rw [if_neg d]
     rw [Bool.or_eq_true, not_or, decide_eq_true_iff] at d
     have := d.2
     show (outOf s).size ≤ 200
     omega
theorem clean_short {p : ByteArray} (h : cleanOk p = true) : p.size ≤ 200 := by
 unfold cleanOk at h
 rw [Bool.and_eq_true, decide_eq_true_iff, decide_eq_true_iff] at h
 have h2 := cleanF_short p h.1
 rw [ba_ext h.2]
 exact h2
theorem good_short {x : Node} (h : goodM (memOf x) = true) : x.f0.size ≤ 200 ∧ x.f1.size ≤ 200 := by
 refine ⟨clean_short (goodM_clean h).1, ?_⟩
 unfold goodM at h
 simp only [Bool.and_eq_true] at h
 have h2 := h.2
 split at h2
 ·have := ba_ext (b := (⟨#[]⟩ : ByteArray)) (by rw [of_decide_eq_true h2, Lib.toList_data])
  have h3 : (memOf x).f1 = x.f1 := rfl
  rw [← h3, this]
  exact Nat.zero_le _
 ·split at h2
  ·exact clean_short h2
  ·split at h2
   ·unfold targetOk at h2
    rw [Bool.and_eq_true, decide_eq_true_iff] at h2
    exact h2.2.2
   ·cases h2
theorem members_Z {l : List Node} (hz : ∀ x ∈ l, NodeZ x) (hg : goodTree l = true) (hl : l.length ≤ 1000000000000) (order : List ByteArray) : memsZ (membersF l order).1 = true := by
 rw [memsZ_iff]
 unfold membersF
 split
 ·exact ⟨Nat.zero_le _, by simp⟩
 ·rename_i ho
  cases hf : order.foldlM (stepM l) ⟨[], [], []⟩ with
  | none => exact ⟨Nat.zero_le _, by simp⟩
  | some s =>
   have hsh := fun x (hx : x ∈ l) => good_short ((good_parts hg).2.1 x hx).2
   obtain ⟨h1, h2⟩ := fold_memZ (fun x hx => ⟨hz x hx, by have := (hsh x hx).1; omega, by have := (hsh x hx).2; omega⟩) order _ s hf (by simp) (fun q r h => by cases h)
   refine ⟨?_, h1⟩
   rw [h2]
   have : order.length = l.length := Decidable.of_not_not ho
   simp
   omega
theorem LinksMembers_true (l : List Node) (u : List Int) (hz : ∀ x ∈ l, NodeZ x) (hlen : l.length ≤ 140737488351232) (hu : ∀ x ∈ u, 0 ≤ x ∧ x ≤ 255) : Ev (fun k => bindlelaw11_LinksMembers.f k l u) true := by
 obtain ⟨b, h1, h2⟩ := light11 l hz hlen
 unfold bindlelaw11_LinksMembers.f
 refine Ev.bind h1 ?_
 cases b with
 | false => exact Ev.congr (fun k => by rw [if_neg (by decide), answers11]; rfl) (Ev.now _)
 | true =>
  obtain ⟨h60, hg⟩ := h2 rfl
  obtain ⟨q, h3, hq⟩ := mixed_eq l u (by omega) hu
  obtain ⟨o1, o2, o3⟩ := order_good hg hq
  obtain ⟨m1, m2, m3⟩ := members_good hg o1 o2 o3
  refine Ev.congr (fun k => by rw [if_pos rfl]) ?_
  refine Ev.bind h3 ?_
  refine Ev.bind (ownTree_eq l (by omega) (fun x hx => (hz x hx).2.2.2)) ?_
  have hmz := members_Z hz hg (by omega) q
  have hml : (membersF l q).1.length ≤ 1000000000000 := by
   have := ((memsZ_iff _).1 hmz).1; exact this
  refine Ev.congr (fun k => by rw [Option.bind_some, if_pos (by simp; omega), List.nil_append, links_f hz (by omega) hg, Option.bind_some, answers11, Option.bind_some, if_pos rfl, if_pos m1]) ?_
  refine Ev.bind (refMembers_eq l q (by omega) m1) ?_
  refine Ev.bind (sameAll_refl _ hml) ?_
  refine Ev.congr (fun k => by rw [if_pos rfl]) ?_
  refine Ev.bind (Sound_eq _ (fun x hx => (((memsZ_iff _).1 hmz).2 x hx).r) hml) ?_
  rw [m2]
  refine Ev.congr (fun k => ?_) (Ev.now true)
  rw [if_pos rfl]
  unfold links_Sound.f
  rw [if_pos hmz, m2]
  rfl
end Go.Proofs.YtfljbidecljlcaaDoor

namespace Go.Proofs.YtfljbidecljlcaaDoor
open Go.RowKit Go.Lib Go.Proofs.YtfljbidecljlcaaDoorW.PrintWords
theorem laidOut : laidOutB Tryd.prog = true := by kernel_rfl
end Go.Proofs.YtfljbidecljlcaaDoor

namespace Go.Proofs.YtfljbidecljlcaaDoor
open Go.ChangeShapes Go.WideShapes Go.RowKit Go.Proofs.YtfljbidecljlcaaDoorW.PrintWords
structure Opens {α : Type} (P : Program) (d : Kd α) (t : TypeId) (B : α → Prop) : Prop where
 sz : P.cellsOf t = d.sz
 get : ∀ {H : Type} {enc : TypeId × Value → H} {W : World} {fuel : Nat} {cs : List Value} {x : DataW H × List MemPlace},
  DataW.trod enc P W 0 (fun _ => true) true fuel t cs = some x → (∀ n ∈ x.1.weights P t, n ≤ reachBytes) → ∃ a, d.K W a cs ∧ B a
theorem Opens.int {P : Program} {t : TypeId} {k : IntKind} (ht : P.underlying t = some (.int k)) (hc : P.cellsOf t = 1) : Opens P (Kd.int k) t (fun n => (Lit.int k n).wf = true) :=
 ⟨hc, fun h _ => by
  obtain ⟨n, rfl, rfl, hw⟩ := DataW.trod_int ht h
  exact ⟨n, rfl, hw⟩⟩
theorem Opens.bool {P : Program} {t : TypeId} (ht : P.underlying t = some .bool) (hc : P.cellsOf t = 1) : Opens P Kd.bool t (fun _ => True) :=
 ⟨hc, fun h _ => by
  obtain ⟨n, rfl, rfl⟩ := DataW.trod_bool ht h
  exact ⟨n, rfl, trivial⟩⟩
theorem Opens.string {P : Program} {t : TypeId} (ht : P.underlying t = some .string) (hc : P.cellsOf t = 1) : Opens P Kd.string t (fun s => s.size ≤ 140737488351232) :=
 ⟨hc, fun h hw => by
  obtain ⟨s, rfl, rfl, _⟩ := DataW.trod_string ht h
  refine ⟨s, rfl, ?_⟩
  have := hw s.data.toList.length (by simp [DataW.weights])
  have e : s.data.toList.length = s.size := by simp
  rw [e] at this
  exact this⟩
theorem each_list {α : Type} {Q : Nat → α → Prop} : ∀ n : Nat, (∀ i, i < n → ∃ x, Q i x) → ∃ xs : List α, xs.length = n ∧ ∀ i x, xs[i]? = some x → Q i x := by
 intro n
 induction n with
 | zero => exact fun _ => ⟨[], rfl, fun i x h => by simp at h⟩
 | succ n ih =>
  intro h
  obtain ⟨xs, hl, hx⟩ := ih (fun i hi => h i (by omega))
  obtain ⟨y, hy⟩ := h n (by omega)
  refine ⟨xs ++ [y], by simp [hl], fun i x hi => ?_⟩
  rcases Nat.lt_or_ge i n with h1 | h1
  ·rw [List.getElem?_append_left (by omega)] at hi
   exact hx i x hi
  ·rw [List.getElem?_append_right (by omega)] at hi
   have h0 : i - xs.length = 0 := by
    have := (List.getElem?_eq_some_iff.1 hi).1
    simp at this
    omega
   rw [h0] at hi
   simp at hi
   subst hi
   obtain rfl : i = n := by omega
   exact hy
theorem weights_all {H : Type} {P : Program} {e : TypeId} : ∀ {l : List (DataW H)} {y : DataW H}, y ∈ l → ∀ n ∈ y.weights P e, n ∈ DataW.weightsAll P e l
 | z :: r, y, hy, n, hn => by
  simp only [DataW.weightsAll, List.mem_append]
  rcases List.mem_cons.1 hy with rfl | hy
  ·exact .inl hn
  ·exact .inr (weights_all hy n hn)
theorem add_add (a : Addr) (x y : Nat) : (a.add x).add y = a.add (x + y) := by
 unfold Addr.add
 split
 ·rename_i h
  subst h
  simp
 ·rename_i h
  split
  ·rename_i h2
   subst h2
   simp [h]
  ·rw [if_neg (by omega)]
   simp [Nat.add_assoc]
theorem Opens.slice {α : Type} {P : Program} {d : Kd α} {B : α → Prop} {t e : TypeId} (ht : P.underlying t = some (.slice e)) (hc : P.cellsOf t = 1) (h : Opens P d e B) :
  Opens P (Kd.slice e d) t (fun xs => xs.length * P.bytesOf e ≤ 140737488351232 ∧ ∀ x ∈ xs, B x) :=
 ⟨hc, fun {H enc W fuel cs x} hf hw => by
  rcases DataW.trod_slice ht hf with ⟨rfl, rfl⟩ | ⟨a, len, cap, elems, rest, n, _, rfl, rfl, hb, hl, hm, hlen, hel, hsp, hns⟩
  ·exact ⟨[], ⟨none, 0, rfl, Nat.le_refl _, Kd.C_nil d W⟩, by simp, fun x hx => by cases hx⟩
  ·simp only [DataW.weights, ht] at hw
   have each : ∀ i, i < len → ∃ z : α, B z ∧ ∃ c, c.length = d.sz ∧ d.K W z c ∧ ∀ j u, c[j]? = some u → W.cell? (a.add (i * d.sz + j)) = some u := by
    intro i hi
    have h1 := hel i hi
    have hi' : i < elems.length := by omega
    rw [List.getElem?_eq_getElem hi', Option.bind_eq_some_iff] at h1
    obtain ⟨c, hcs, hy⟩ := h1
    obtain ⟨-, h2, h3⟩ := World.cells?_some hcs
    obtain ⟨z, hz, hB⟩ := h.get hy (fun n hn => hw n (by
     simp only [List.mem_cons, List.mem_append]
     exact .inr (.inl (weights_all (List.mem_map.2 ⟨_, List.getElem_mem hi', rfl⟩) n hn))))
    refine ⟨z, hB, c, by rw [h2, h.sz], hz, fun j u hj => ?_⟩
    have hj' : j < P.cellsOf e := by
     have := (List.getElem?_eq_some_iff.1 hj).1
     omega
    have h4 := h3 j hj'
    rw [add_add, h.sz] at h4
    rw [h4, hj]
   obtain ⟨xs, hxl, hxs⟩ := each_list len each
   subst hxl
   have hz := hw _ (List.mem_cons_self ..)
   simp only [List.length_map] at hz
   have h5 : xs.length * P.bytesOf e ≤ (elems.length + rest.length) * P.bytesOf e := Nat.mul_le_mul_right _ (by omega)
   have h6 : reachBytes = 140737488351232 := rfl
   refine ⟨xs, ⟨some a, cap, rfl, hl, rfl, ?_, fun _ => ⟨a, rfl, fun j p hj => (hxs j p hj).2⟩⟩, by omega, fun x hx => ?_⟩
   ·have : maxLen = 9223372036854775807 := rfl
    omega
   ·obtain ⟨i, hi⟩ := List.getElem?_of_mem hx
    exact (hxs i x hi).1⟩
structure OpensF {α : Type} (P : Program) (d : Kd α) (fs : List Field) (o : Nat) (B : α → Prop) : Prop where
 get : ∀ {H : Type} {enc : TypeId × Value → H} {W : World} {n : Nat} {cs : List Value} {xs : List (DataW H × List MemPlace)}, xs.length = fs.length →
  (∀ (i : Nat) (f : Field), fs[i]? = some f → DataW.trod enc P W 0 (fun _ => true) true n f.type ((cs.drop f.offset).take (P.cellsOf f.type)) = xs[i]?) →
  (∀ m ∈ DataW.weightsEach P (fs.map (·.type)) (xs.map (·.1)), m ≤ reachBytes) → ∃ a, d.K W a ((cs.drop o).take d.sz) ∧ B a
theorem OpensF.one {α : Type} {P : Program} {d : Kd α} {B : α → Prop} {f : Field} {o : Nat} (ho : f.offset = o) (h : Opens P d f.type B) : OpensF P d [f] o B := by
 refine ⟨fun {H enc W n cs xs} hl hx hw => ?_⟩
 match xs, hl with
 | [x], _ =>
  have h0 := hx 0 f rfl
  rw [h.sz, ho] at h0
  simp only [List.getElem?_cons_zero] at h0
  exact h.get h0 (fun m hm => hw m (by simp only [List.map_cons, List.map_nil, DataW.weightsEach, List.mem_append]; exact .inl hm))
theorem OpensF.cons {α β : Type} {P : Program} {d : Kd α} {d' : Kd β} {B : α → Prop} {B' : β → Prop} {f : Field} {fs : List Field} {o : Nat} (ho : f.offset = o) (h : Opens P d f.type B) (h' : OpensF P d' fs (o + d.sz) B') :
  OpensF P (Kd.pair d d') (f :: fs) o (fun x => B x.1 ∧ B' x.2) := by
 refine ⟨fun {H enc W n cs xs} hl hx hw => ?_⟩
 match xs, hl with
 | x :: xs, hl =>
  have h0 := hx 0 f rfl
  rw [h.sz, ho] at h0
  simp only [List.getElem?_cons_zero] at h0
  obtain ⟨a, ha, hB⟩ := h.get h0 (fun m hm => hw m (by simp only [List.map_cons, DataW.weightsEach, List.mem_append]; exact .inl hm))
  obtain ⟨b, hb, hB'⟩ := h'.get (enc := enc) (W := W) (n := n) (cs := cs) (xs := xs) (by simpa using hl) (fun i g hg => by have := hx (i + 1) g (by simpa using hg); simpa using this)
   (fun m hm => hw m (by simp only [List.map_cons, DataW.weightsEach, List.mem_append]; exact .inr hm))
  refine ⟨(a, b), ⟨_, _, ?_, ha, hb⟩, hB, hB'⟩
  show (cs.drop o).take (d.sz + d'.sz) = _
  rw [List.take_add, List.drop_drop]
theorem Opens.struct {α β : Type} {P : Program} {d : Kd α} {B : α → Prop} {t : TypeId} {fs : Array Field} (ht : P.underlying t = some (.struct fs)) (hc : P.cellsOf t = d.sz) (h : OpensF P d fs.toList 0 B) (f : β → α) (g : α → β) (hg : ∀ a, f (g a) = a) :
  Opens P (Kd.iso d f) t (fun x => B (f x)) :=
 ⟨hc, fun {H enc W fuel cs x} hf hw => by
  obtain ⟨xs, n, _, rfl, hl, hlen, hx⟩ := DataW.trod_struct ht hf
  simp only [DataW.weights, ht] at hw
  obtain ⟨a, ha, hB⟩ := h.get (enc := enc) (W := W) (n := n) (cs := cs) (xs := xs) (by simpa using hlen) (fun i g hg => hx i g (by simpa using hg)) hw
  refine ⟨g a, ?_, by rw [hg]; exact hB⟩
  show d.K W (f (g a)) cs
  rw [hg]
  rw [List.drop_zero, List.take_of_length_le (by omega)] at ha
  exact ha⟩
theorem Opens.imp {α : Type} {P : Program} {d : Kd α} {t : TypeId} {B B' : α → Prop} (h : Opens P d t B) (hB : ∀ a, B a → B' a) : Opens P d t B' :=
 ⟨h.sz, fun hf hw => by obtain ⟨a, ha, hb⟩ := h.get hf hw; exact ⟨a, ha, hB a hb⟩⟩
theorem Opens.param {α : Type} {P : Program} {d : Kd α} {t : TypeId} {B : α → Prop} (h : Opens P d t B) {H : Type} {enc : TypeId × Value → H} {W : World} {v : Value} {x : DataW H} {p : List MemPlace} {ts : List TypeId} {ds : List (DataW H)} {j : Nat}
  (hsz : (DataW.weightsEach P ts ds).all (· ≤ reachBytes) = true) (hj : ts[j]? = some t) (hd : ds[j]? = some x) (ht : DataW.Trod enc P W 0 (fun _ => true) true t v x p) : ∃ a, d.K W a v.cells.toList ∧ B a := by
 obtain ⟨fuel, hf⟩ := ht
 exact h.get hf (fun n hn => by simpa using List.all_eq_true.1 hsz _ (DataW.weights_mem_each hj hd n hn))
theorem Opens.row {α : Type} {P : Program} {d : Kd α} {t e : TypeId} {B : List α → Prop} (h : Opens P (Kd.slice e d) t B) {H : Type} {enc : TypeId × Value → H} {W : World} {A : Option Addr} {n c : Nat} {x : DataW H} {p : List MemPlace} {ts : List TypeId} {ds : List (DataW H)} {j : Nat}
  (hsz : (DataW.weightsEach P ts ds).all (· ≤ reachBytes) = true) (hj : ts[j]? = some t) (hd : ds[j]? = some x) (ht : DataW.Trod enc P W 0 (fun _ => true) true t (.slice A n c) x p) :
  ∃ xs : List α, xs.length = n ∧ d.C W A n xs ∧ n ≤ c ∧ B xs := by
 obtain ⟨xs, ⟨A', c', he, hl, hC⟩, hB⟩ := h.param hsz hj hd ht
 simp [Value.cells] at he
 obtain ⟨rfl, rfl, rfl⟩ := he
 exact ⟨xs, rfl, hC, hl, hB⟩
end Go.Proofs.YtfljbidecljlcaaDoor

namespace Go.Proofs.YtfljbidecljlcaaDoor
open Go.RowKit Go.Proofs.YtfljbidecljlcaaDoor.Print Go.Proofs.YtfljbidecljlcaaDoorW.PrintWords
theorem o_str : Opens Tryd.prog Kd.string 9 (fun s => s.size ≤ 140737488351232) := Opens.string Tryd.underlying9 (by kernel_rfl)
theorem o_u8 : Opens Tryd.prog (Kd.int .u8) 5 (fun n => (Lit.int .u8 n).wf = true) := Opens.int Tryd.underlying5 (by kernel_rfl)
theorem o_int : Opens Tryd.prog (Kd.int .i64) 3 (fun n => (Lit.int .i64 n).wf = true) := Opens.int Tryd.underlying3 (by kernel_rfl)
theorem o_bytes : Opens Tryd.prog (Kd.slice 5 (Kd.int .u8)) 23 (fun xs => xs.length ≤ 140737488351232) :=
 (Opens.slice Tryd.underlying23 (by kernel_rfl) o_u8).imp (fun xs h => by
  have hb : Tryd.prog.bytesOf 5 = 1 := by kernel_rfl
  have h1 := h.1
  rw [hb] at h1
  omega)
theorem o_meta : Opens Tryd.prog k38 38 (fun _ => True) := by
 have h := Opens.struct Tryd.underlying38 (by kernel_rfl) (OpensF.cons rfl o_int (OpensF.cons rfl o_int (OpensF.cons rfl o_int (OpensF.one rfl o_int)))) (fun x : S38 => (x.f0, x.f1, x.f2, x.f3)) (fun p => ⟨p.1, p.2.1, p.2.2.1, p.2.2.2⟩) (fun _ => rfl)
 exact Opens.imp h (fun _ _ => trivial)
theorem o_node : Opens Tryd.prog k40 40 NodeZ := by
 have h := Opens.struct Tryd.underlying40 (by kernel_rfl) (OpensF.cons rfl o_str (OpensF.cons rfl o_str (OpensF.cons rfl o_str (OpensF.cons rfl o_u8 (OpensF.cons rfl o_meta (OpensF.one rfl o_bytes)))))) (fun x : S40 => (x.f0, x.f1, x.f2, x.f3, x.f4, x.f5)) (fun p => ⟨p.1, p.2.1, p.2.2.1, p.2.2.2.1, p.2.2.2.2.1, p.2.2.2.2.2⟩) (fun _ => rfl)
 exact Opens.imp h (fun _ hx => ⟨hx.1, hx.2.1, hx.2.2.1, hx.2.2.2.2.2⟩)
theorem o_nodes : Opens Tryd.prog (Kd.slice 40 k40) 22 (fun xs => (∀ x ∈ xs, NodeZ x) ∧ xs.length ≤ 140737488351232) :=
 (Opens.slice Tryd.underlying22 (by kernel_rfl) o_node).imp (fun xs h => ⟨h.2, by
  have hb : Tryd.prog.bytesOf 40 = 112 := by kernel_rfl
  have h1 := h.1
  rw [hb] at h1
  omega⟩)
theorem u8_range {n : Int} (h : (Lit.int .u8 n).wf = true) : 0 ≤ n ∧ n ≤ 255 := by
 simp [Lit.wf, IntKind.min, IntKind.max, IntKind.bits, IntKind.signed] at h
 omega
theorem o_turns : Opens Tryd.prog (Kd.slice 5 (Kd.int .u8)) 23 (fun xs => (∀ x ∈ xs, 0 ≤ x ∧ x ≤ 255) ∧ xs.length ≤ 140737488351232) :=
 (Opens.slice Tryd.underlying23 (by kernel_rfl) o_u8).imp (fun xs h => ⟨fun x hx => u8_range (h.2 x hx), by
  have hb : Tryd.prog.bytesOf 5 = 1 := by kernel_rfl
  have h1 := h.1
  rw [hb] at h1
  omega⟩)
end Go.Proofs.YtfljbidecljlcaaDoor
