/-
  Part of the proof that TreeFinds answers true: texts put together (wip/bundle.py).
-/
import Derived.Test.YtfljbidecljlcaaDoorCTreeFinds5
import Derived.SizedLaws
import Derived.ChangeSlices
import Derived.OpenShut
namespace Go.Proofs.YtfljbidecljlcaaDoor.Print
open Go.RowKit Go.Proofs.YtfljbidecljlcaaDoorW.PrintWords Go.Proofs.YtfljbidecljlcaaDoorW.PrintLast Go.Proofs.YtfljbidecljlcaaDoorW.PrintMore
attribute [local go_sem] max2_int min2_int max_two min_two max_three min_three max_four min_four   -- for this text's walks alone
set_option linter.unusedVariables false
set_option linter.unusedSimpArgs false
abbrev q12_0 : Array Bool := #[false, false, false, false, false, false, false, false, false, false, false, false, false, false, false, false, false, false, false]
abbrev q12_1 : Array Bool := #[true, false, false, false, false, false, false, false, false, false, false, false, false, false, false, false, false, false, false]
abbrev q12_2 : Array Bool := #[true, true, false, false, false, false, false, false, false, false, false, false, false, false, false, false, false, false, false]
abbrev q12_3 : Array Bool := #[true, true, true, false, false, false, false, false, false, false, false, false, false, false, false, false, false, false, false]
abbrev q12_4 : Array Bool := #[true, true, true, false, true, false, false, false, false, false, false, false, false, false, false, false, false, false, false]
abbrev q12_5 : Array Bool := #[true, true, true, false, true, true, false, false, false, false, false, false, false, false, false, false, false, false, false]
abbrev q12_6 : Array Bool := #[true, true, true, false, true, true, true, false, false, false, false, false, false, false, false, false, false, false, false]
abbrev q12_7 : Array Bool := #[true, true, true, false, true, true, true, false, false, true, false, false, false, false, false, false, false, false, false]
abbrev q12_8 : Array Bool := #[true, true, true, false, true, true, true, false, false, true, true, false, false, false, false, false, false, false, false]
abbrev q12_9 : Array Bool := #[true, true, true, false, true, true, true, false, false, true, true, true, false, false, false, false, false, false, false]
abbrev q12_10 : Array Bool := #[true, true, true, false, true, true, true, false, false, true, true, true, false, true, false, false, false, false, false]
abbrev q12_11 : Array Bool := #[true, true, true, false, true, true, true, false, false, true, true, true, false, true, true, false, false, false, false]
abbrev q12_12 : Array Bool := #[true, true, true, false, true, true, true, false, false, true, true, true, false, true, true, true, false, false, false]
abbrev q12_13 : Array Bool := #[true, true, true, true, true, true, true, false, false, true, true, true, false, true, true, true, false, false, false]
abbrev q12_14 : Array Bool := #[true, true, true, true, true, true, true, true, false, true, true, true, false, true, true, true, false, false, false]
abbrev q12_15 : Array Bool := #[true, true, true, true, true, true, true, true, false, true, true, true, true, true, true, true, false, false, false]
abbrev q12_16 : Array Bool := #[true, true, true, true, true, true, true, true, false, true, true, true, true, true, true, true, true, false, false]
abbrev q12_17 : Array Bool := #[true, true, true, true, true, true, true, true, true, true, true, true, true, true, true, true, true, false, false]
abbrev q12_18 : Array Bool := #[true, true, true, true, true, true, true, true, true, true, true, true, true, true, true, true, true, true, false]
abbrev q12_19 : Array Bool := #[true, true, true, true, true, true, true, true, true, true, true, true, true, true, true, true, true, true, true]
mutual
def bindlelaw10_TreeFinds.j0 : Nat → List (S40) → List (S40) → ByteArray → Bool → Option (Bool)
 | 0, _, _, _, _ => none
 | k + 1, x0, x1, x2, x24 => if x24 = true then ((bindlelaw10_answers.f).bind fun t532 => (some t532)) else ((tree_Find.f x0 x2).bind fun bt533 => ((bindleref08_Find.f k x0 x2).bind fun bt546 => (if (bt533.2.2.2.2.2.2.2.2.2 != bt546.2.2.2.2.2.2.2.2.2) = true then (bindlelaw10_TreeFinds.j1 k x0 x1 true) else ((tree_Equal.f bt533.1 bt533.2.1 bt533.2.2.1 bt533.2.2.2.1 bt533.2.2.2.2.1 bt533.2.2.2.2.2.1 bt533.2.2.2.2.2.2.1 bt533.2.2.2.2.2.2.2.1 bt533.2.2.2.2.2.2.2.2.1 bt546.1 bt546.2.1 bt546.2.2.1 bt546.2.2.2.1 bt546.2.2.2.2.1 bt546.2.2.2.2.2.1 bt546.2.2.2.2.2.2.1 bt546.2.2.2.2.2.2.2.1 bt546.2.2.2.2.2.2.2.2.1).bind fun t559 => (if t559 = true then (bindlelaw10_TreeFinds.j1 k x0 x1 (bt533.2.2.1.toList != bt546.2.2.1.toList)) else (bindlelaw10_TreeFinds.j1 k x0 x1 true))))))
def bindlelaw10_TreeFinds.j1 : Nat → List (S40) → List (S40) → Bool → Option (Bool)
 | 0, _, _, _ => none
 | k + 1, x0, x1, x53 => if x53 = true then (some false) else (bindlelaw10_TreeFinds.l0 k x0 x1 0)
def bindlelaw10_TreeFinds.l0 : Nat → List (S40) → List (S40) → Int → Option (Bool)
 | 0, _, _, _ => none
 | k + 1, x0, x1, x11 => if x11 < (x0.length : Int) then (bindlelaw10_TreeFinds.j3 k x0 x1 x11 (decide (x11 < (x1.length : Int)))) else (bindlelaw10_TreeFinds.j3 k x0 x1 x11 false)
def bindlelaw10_TreeFinds.j3 : Nat → List (S40) → List (S40) → Int → Bool → Option (Bool)
 | 0, _, _, _, _ => none
 | k + 1, x0, x1, x11, x63 => if x63 = true then (if 0 ≤ x11 then (if x11 < (x0.length : Int) then (if x11 < (x1.length : Int) then ((tree_Equal.f ((rd_T40 x0 x11).f0) ((rd_T40 x0 x11).f1) ((rd_T40 x0 x11).f2) ((rd_T40 x0 x11).f3) ((rd_T40 x0 x11).f4.f0) ((rd_T40 x0 x11).f4.f1) ((rd_T40 x0 x11).f4.f2) ((rd_T40 x0 x11).f4.f3) ((rd_T40 x0 x11).f5) ((rd_T40 x1 x11).f0) ((rd_T40 x1 x11).f1) ((rd_T40 x1 x11).f2) ((rd_T40 x1 x11).f3) ((rd_T40 x1 x11).f4.f0) ((rd_T40 x1 x11).f4.f1) ((rd_T40 x1 x11).f4.f2) ((rd_T40 x1 x11).f4.f3) ((rd_T40 x1 x11).f5)).bind fun t562 => ((bindleref08_Equal.f ((rd_T40 x0 x11).f0) ((rd_T40 x0 x11).f1) ((rd_T40 x0 x11).f2) ((rd_T40 x0 x11).f3) ((rd_T40 x0 x11).f4.f0) ((rd_T40 x0 x11).f4.f1) ((rd_T40 x0 x11).f4.f2) ((rd_T40 x0 x11).f4.f3) ((rd_T40 x0 x11).f5) ((rd_T40 x1 x11).f0) ((rd_T40 x1 x11).f1) ((rd_T40 x1 x11).f2) ((rd_T40 x1 x11).f3) ((rd_T40 x1 x11).f4.f0) ((rd_T40 x1 x11).f4.f1) ((rd_T40 x1 x11).f4.f2) ((rd_T40 x1 x11).f4.f3) ((rd_T40 x1 x11).f5)).bind fun t565 => (if (t562 != t565) = true then (some false) else (bindlelaw10_TreeFinds.l0 k x0 x1 (wrap64 (x11 + 1)))))) else (none)) else (none)) else (none)) else ((bindlelaw10_answers.f).bind fun t566 => (if t566 = true then ((tree_Same.f x0 x1).bind fun t567 => ((bindleref08_SameTree.f k x0 x1).bind fun t568 => (if (t567 == t568) = true then ((bindleref08_OwnTree.f k x0).bind fun t569 => ((tree_Same.f x0 t569).bind fun t572 => (some t572))) else (some false)))) else (some false)))
end
def bindlelaw10_TreeFinds.f (k : Nat) (l0 : List (S40)) (l1 : List (S40)) (a2 : ByteArray) : Option (Bool) := (bindlelaw10_slight.f k l0).bind fun t529 => (if t529 = true then ((bindlelaw10_slight.f k l1).bind fun t530 => (if t530 = true then ((bindleref08_GoodTree.f l0).bind fun t531 => (bindlelaw10_TreeFinds.j0 k l0 l1 a2 (!t531))) else (bindlelaw10_TreeFinds.j0 k l0 l1 a2 true))) else (bindlelaw10_TreeFinds.j0 k l0 l1 a2 true))
def bindlelaw10_TreeFinds.T10 : Bool × List (List Nat × List Nat) := (true, [([], []), ([], []), ([0, 1], [0, 1]), ([2], [2]), ([], []), ([], []), ([4, 5], [4, 5]), ([6], [6]), ([3, 7], [3, 7]), ([], []), ([], []), ([9, 10], [9, 10]), ([11], [11]), ([], []), ([], []), ([13, 14], [13, 14]), ([15], [15]), ([12, 16, 8], [12, 16]), ([8, 17], [8, 17])])
def bindlelaw10_TreeFinds.B10 : List Nat := [0, 0, 3, 7, 0, 0, 48, 112, 255, 0, 0, 1536, 3584, 0, 0, 24576, 57344, 131071, 262143]
theorem bindlelaw10_TreeFinds.tab10 : rtab .any (opsOf Tryd.f12 10) = bindlelaw10_TreeFinds.T10 := by kernel_rfl
theorem bindlelaw10_TreeFinds.bits10 : waitsOk bindlelaw10_TreeFinds.T10.2 bindlelaw10_TreeFinds.B10 = true := by kernel_rfl
set_option maxHeartbeats 8000000 in
set_option maxRecDepth 100000 in
theorem bindlelaw10_TreeFinds.calls (k : Nat) (A0 : Option Addr) (c0 : Nat) (l0 : List (S40)) (A1 : Option Addr) (c1 : Nat) (l1 : List (S40)) (a2 : ByteArray) (r : Bool) (w : World) (hT : Aside0 (Tabs w)) (hr0 : Kd.C k40 w A0 l0.length l0) (hc0 : l0.length ≤ c0) (hr1 : Kd.C k40 w A1 l1.length l1) (hc1 : l1.length ≤ c1) (h : bindlelaw10_TreeFinds.f k l0 l1 a2 = some r) :
  Calls Tryd.prog 12 #[.slice A0 l0.length c0, .slice A1 l1.length c1, .string a2] w fun e w' => e = .returned (.bool r) ∧ Below w.heap.size w w' := by
 have hu40 := Tryd.underlying40
 have HR0 := A0_ hr0
 have HC0 := A0_ hc0
 clear hr0 hc0
 have HR1 := A0_ hr1
 have HC1 := A0_ hc1
 clear hr1 hc1
 have HB := A0_ (Below.refl w.heap.size w)
 have H : ((bindlelaw10_slight.f k l0).bind fun t529 => (if t529 = true then ((bindlelaw10_slight.f k l1).bind fun t530 => (if t530 = true then ((bindleref08_GoodTree.f l0).bind fun t531 => (bindlelaw10_TreeFinds.j0 k l0 l1 a2 (!t531))) else (bindlelaw10_TreeFinds.j0 k l0 l1 a2 true))) else (bindlelaw10_TreeFinds.j0 k l0 l1 a2 true))) = some r := h
 clear h
 have HC4 := A0_ H
 clear H
 go_enter Tryd.func12, Tryd.ntmps12
 go_upto_region 1 with (fail)
 go_cut [24] (fun v24 wc => ∃ (kq : Nat) (x24_3 : Bool), v24 = .bool x24_3 ∧ Aside0 (bindlelaw10_TreeFinds.j0 kq l0 l1 a2 x24_3 = some r) ∧ Aside0 (kq ≤ k) ∧ Aside0 (Below w.heap.size w wc))
 case first =>
  have H := HC4.out
  clear HC4
  replace H := Option.bind_eq_some_iff.mp H
  obtain ⟨t529, A50, H⟩ := H
  replace H : (if t529 = true then ((bindlelaw10_slight.f k l1).bind fun t530 => (if t530 = true then ((bindleref08_GoodTree.f l0).bind fun t531 => (bindlelaw10_TreeFinds.j0 k l0 l1 a2 (!t531))) else (bindlelaw10_TreeFinds.j0 k l0 l1 a2 true))) else (bindlelaw10_TreeFinds.j0 k l0 l1 a2 true)) = some r := H
  have A5 := A0_ A50
  clear A50
  by_cases c6 : t529 = true
  rotate_left
  ·replace c6 := Bool.eq_false_iff.mpr c6
   subst c6
   have H1 : (bindlelaw10_TreeFinds.j0 k l0 l1 a2 true) = some r := by rw [if_neg (show ¬ (false = true) by decide)] at H; exact H
   clear H
   have H := H1
   clear H1
   have H' := A0_ H
   clear H
   go_wp2_with (first | ((with_reducible refine gate_callee (f := 32) rfl ?_); refine goesL_ (some 13) rfl rfl Tryd.func32 (by kernel_rfl) rfl #[.slice A0 l0.length c0] rfl wm_ ?_; (with_reducible refine (bindlelaw10_slight.calls k _ _ l0 false _ ?side1 ?side2 A5.out).mono ?_); (case side1 => exact wc_ (Kd.C_below HR0.out HB.out)); (case side2 => exact HC0.out); rintro e w' ⟨rfl, ⟨nd, rfl⟩⟩; refine ⟨_, rfl, ?_⟩))
   go_meet
   case rel => exact ⟨_, (true), wr_, H', ⟨by first | omega | exact Nat.le_refl _⟩, ⟨wb_ HB.out⟩⟩
  subst c6
  have H1 : ((bindlelaw10_slight.f k l1).bind fun t530 => (if t530 = true then ((bindleref08_GoodTree.f l0).bind fun t531 => (bindlelaw10_TreeFinds.j0 k l0 l1 a2 (!t531))) else (bindlelaw10_TreeFinds.j0 k l0 l1 a2 true))) = some r := by rw [if_pos rfl] at H; exact H
  clear H
  have H := H1
  clear H1
  replace H := Option.bind_eq_some_iff.mp H
  obtain ⟨t530, A70, H⟩ := H
  replace H : (if t530 = true then ((bindleref08_GoodTree.f l0).bind fun t531 => (bindlelaw10_TreeFinds.j0 k l0 l1 a2 (!t531))) else (bindlelaw10_TreeFinds.j0 k l0 l1 a2 true)) = some r := H
  have A7 := A0_ A70
  clear A70
  by_cases c8 : t530 = true
  rotate_left
  ·replace c8 := Bool.eq_false_iff.mpr c8
   subst c8
   have H1 : (bindlelaw10_TreeFinds.j0 k l0 l1 a2 true) = some r := by rw [if_neg (show ¬ (false = true) by decide)] at H; exact H
   clear H
   have H := H1
   clear H1
   have H' := A0_ H
   clear H
   go_wp2_with (first | ((with_reducible refine gate_callee (f := 32) rfl ?_); refine goesL_ (some 13) rfl rfl Tryd.func32 (by kernel_rfl) rfl #[.slice A0 l0.length c0] rfl wm_ ?_; (with_reducible refine (bindlelaw10_slight.calls k _ _ l0 true _ ?side1 ?side2 A5.out).mono ?_); (case side1 => exact wc_ (Kd.C_below HR0.out HB.out)); (case side2 => exact HC0.out); rintro e w' ⟨rfl, ⟨nd, rfl⟩⟩; refine ⟨_, rfl, ?_⟩) | (go_at_call 32; (with_reducible refine (bindlelaw10_slight.calls k _ _ l1 false _ ?side1 ?side2 A7.out).mono ?_); (case side1 => exact wc_ (Kd.C_below HR1.out (wb_ HB.out))); (case side2 => exact HC1.out); rintro e w' ⟨rfl, ⟨nd, rfl⟩⟩))
   go_meet
   case rel => exact ⟨_, (true), wr_, H', ⟨by first | omega | exact Nat.le_refl _⟩, ⟨wb_ HB.out⟩⟩
  subst c8
  have H1 : ((bindleref08_GoodTree.f l0).bind fun t531 => (bindlelaw10_TreeFinds.j0 k l0 l1 a2 (!t531))) = some r := by rw [if_pos rfl] at H; exact H
  clear H
  have H := H1
  clear H1
  replace H := Option.bind_eq_some_iff.mp H
  obtain ⟨t531, A90, H⟩ := H
  replace H : (bindlelaw10_TreeFinds.j0 k l0 l1 a2 (!t531)) = some r := H
  have A9 := A0_ A90
  clear A90
  have H' := A0_ H
  clear H
  go_wp2_with (first | ((with_reducible refine gate_callee (f := 32) rfl ?_); refine goesL_ (some 13) rfl rfl Tryd.func32 (by kernel_rfl) rfl #[.slice A0 l0.length c0] rfl wm_ ?_; (with_reducible refine (bindlelaw10_slight.calls k _ _ l0 true _ ?side1 ?side2 A5.out).mono ?_); (case side1 => exact wc_ (Kd.C_below HR0.out HB.out)); (case side2 => exact HC0.out); rintro e w' ⟨rfl, ⟨nd, rfl⟩⟩; refine ⟨_, rfl, ?_⟩) | (go_at_call 32; (with_reducible refine (bindlelaw10_slight.calls k _ _ l1 true _ ?side1 ?side2 A7.out).mono ?_); (case side1 => exact wc_ (Kd.C_below HR1.out (wb_ HB.out))); (case side2 => exact HC1.out); rintro e w' ⟨rfl, ⟨nd, rfl⟩⟩) | (go_at_call 33; (with_reducible refine (bindleref08_GoodTree.calls _ _ l0 t531 _ ?side1 ?side2 A9.out).mono ?_); (case side1 => exact wc_ (Kd.C_below HR0.out (wb_ HB.out))); (case side2 => exact HC0.out); rintro e w10 ⟨rfl, hb⟩; have n0_ := A0_ (below_step (wb_ HB.out) hb); clear HB; have HB := n0_; clear n0_; (try clear hb); (try clear hb2); (try clear hk); (try clear hi)))
  go_meet
  case rel => exact ⟨_, (!t531), wr_, H', ⟨by first | omega | exact Nat.le_refl _⟩, ⟨wb_ HB.out⟩⟩
 case rest =>
  clear HC4
  try clear c1
  try clear p2
  try clear c3
  try clear c6
  try clear c8
  obtain ⟨kq, x24_3, rfl, HA, HJ3, HB⟩ := hcut
  cases kq with
  | zero => exact absurd HA.out (by simp [bindlelaw10_TreeFinds.j0])
  | succ kj3 =>
   have H := HA.out
   clear HA
   simp only [bindlelaw10_TreeFinds.j0] at H
   by_cases c11 : x24_3 = true
   ·subst c11
    have H1 : ((bindlelaw10_answers.f).bind fun t532 => (some t532)) = some r := by rw [if_pos rfl] at H; exact H
    clear H
    have H := H1
    clear H1
    replace H := Option.bind_eq_some_iff.mp H
    obtain ⟨t532, A120, H⟩ := H
    replace H : (some t532) = some r := H
    have A12 := A0_ A120
    clear A120
    obtain rfl := Option.some.inj H
    go_wp2_with (first | ((with_reducible refine gate_callee (f := 26) rfl ?_); refine goesL_ (some 25) rfl rfl Tryd.func26 (by kernel_rfl) rfl #[] rfl wm_ ?_; (with_reducible refine (bindlelaw10_answers.calls  t532 _ ?side1 A12.out).mono ?_); (case side1 => exact A0_ (Tabs.below hT.out (wb_ HB.out))); rintro e w13 ⟨rfl, hb⟩; refine ⟨_, rfl, ?_⟩; have n0_ := A0_ (below_step (wb_ HB.out) hb); clear HB; have HB := n0_; clear n0_; (try clear hb); (try clear hb2); (try clear hk); (try clear hi)))
    go_ret
    exact ⟨we_, wb_ HB.out⟩
   replace c11 := Bool.eq_false_iff.mpr c11
   subst c11
   have H1 : ((tree_Find.f l0 a2).bind fun bt533 => ((bindleref08_Find.f kj3 l0 a2).bind fun bt546 => (if (bt533.2.2.2.2.2.2.2.2.2 != bt546.2.2.2.2.2.2.2.2.2) = true then (bindlelaw10_TreeFinds.j1 kj3 l0 l1 true) else ((tree_Equal.f bt533.1 bt533.2.1 bt533.2.2.1 bt533.2.2.2.1 bt533.2.2.2.2.1 bt533.2.2.2.2.2.1 bt533.2.2.2.2.2.2.1 bt533.2.2.2.2.2.2.2.1 bt533.2.2.2.2.2.2.2.2.1 bt546.1 bt546.2.1 bt546.2.2.1 bt546.2.2.2.1 bt546.2.2.2.2.1 bt546.2.2.2.2.2.1 bt546.2.2.2.2.2.2.1 bt546.2.2.2.2.2.2.2.1 bt546.2.2.2.2.2.2.2.2.1).bind fun t559 => (if t559 = true then (bindlelaw10_TreeFinds.j1 kj3 l0 l1 (bt533.2.2.1.toList != bt546.2.2.1.toList)) else (bindlelaw10_TreeFinds.j1 kj3 l0 l1 true)))))) = some r := by rw [if_neg (show ¬ (false = true) by decide)] at H; exact H
   clear H
   have H := H1
   clear H1
   replace H := Option.bind_eq_some_iff.mp H
   obtain ⟨⟨t533, t534, t535, t536, t537, t538, t539, t540, t541, t544⟩, A140, H⟩ := H
   replace H : ((bindleref08_Find.f kj3 l0 a2).bind fun bt546 => (if (t544 != bt546.2.2.2.2.2.2.2.2.2) = true then (bindlelaw10_TreeFinds.j1 kj3 l0 l1 true) else ((tree_Equal.f t533 t534 t535 t536 t537 t538 t539 t540 t541 bt546.1 bt546.2.1 bt546.2.2.1 bt546.2.2.2.1 bt546.2.2.2.2.1 bt546.2.2.2.2.2.1 bt546.2.2.2.2.2.2.1 bt546.2.2.2.2.2.2.2.1 bt546.2.2.2.2.2.2.2.2.1).bind fun t559 => (if t559 = true then (bindlelaw10_TreeFinds.j1 kj3 l0 l1 (t535.toList != bt546.2.2.1.toList)) else (bindlelaw10_TreeFinds.j1 kj3 l0 l1 true))))) = some r := H
   have A14 := A0_ A140
   clear A140
   replace H := Option.bind_eq_some_iff.mp H
   obtain ⟨⟨t546, t547, t548, t549, t550, t551, t552, t553, t554, t557⟩, A150, H⟩ := H
   replace H : (if (t544 != t557) = true then (bindlelaw10_TreeFinds.j1 kj3 l0 l1 true) else ((tree_Equal.f t533 t534 t535 t536 t537 t538 t539 t540 t541 t546 t547 t548 t549 t550 t551 t552 t553 t554).bind fun t559 => (if t559 = true then (bindlelaw10_TreeFinds.j1 kj3 l0 l1 (t535.toList != t548.toList)) else (bindlelaw10_TreeFinds.j1 kj3 l0 l1 true)))) = some r := H
   have A15 := A0_ A150
   clear A150
   have HC16 := A0_ H
   clear H
   go_upto_region 5 with (first | ((with_reducible refine gate_callee (f := 36) rfl ?_); refine goesL_ (some 29) rfl rfl Tryd.func36 (by kernel_rfl) rfl #[.slice A0 l0.length c0, .string a2] rfl wm_ ?_; (with_reducible refine (tree_Find.calls _ _ l0 a2 t533 t534 t535 t536 t537 t538 t539 t540 t541 t544 _ ?side1 ?side2 A14.out).mono ?_); (case side1 => exact wc_ (Kd.C_below HR0.out HB.out)); (case side2 => exact HC0.out); rintro e w17 ⟨v542, rfl, ho0, hb⟩; refine ⟨_, rfl, ?_⟩; have n0_ := A0_ (Kd.V_lower (Kd.V_mono (ok' := fun k_ => True) ho0 (fun k_ hk_ => trivial)) (below_size (wb_ HB.out))); have n1_ := A0_ (below_step (wb_ HB.out) hb); clear HB; have HO543 := n0_; have HB := n1_; clear n0_ n1_; (try clear hb); (try clear hb2); (try clear hk); (try clear hi); (try clear ho0)) | ((with_reducible refine gate_dst (N := 7) rfl ?_); (try (refine gate_guard (by rfl) ?_; dsimp only)); refine box_event ?hg (N := 7) ?hd (cs := #[.string (⟨#[]⟩ : ByteArray), .string (⟨#[]⟩ : ByteArray), .string (⟨#[]⟩ : ByteArray), .int .u8 0, .int .i64 0, .int .i64 0, .int .i64 0, .int .i64 0, .slice none 0 0]) (t := 40) ?hr ?_; (case hd => rfl); (case hg => rfl); (case hr => first | (go_simp; done) | (go_simp; rfl)); intro gb545 hg w18 hbox hb; have n0_ := A0_ (Vb_ (Kd.V_elderB (wV_ HO543.out) gb545 (Nat.le_of_eq hg.symm)) hb); have n1_ := A0_ (below_step (wb_ HB.out) hb); have n2_ := A0_ (hbox); have n3_ := A0_ ((by rw [hg]; exact (below_size (wb_ HB.out)) : w.heap.size ≤ gb545)); have n4_ := A0_ ((by rw [hg]; exact (below_size (wb_ HB.out)) : w.heap.size ≤ gb545)); clear HO543; clear HB; have HO543 := n0_; have HB := n1_; have BK545 := n2_; have GW545 := n3_; have GE545 := n4_; clear n0_ n1_ n2_ n3_ n4_; clear hb hbox hg; have hcz19_0 : w18.cell? ⟨gb545, 0, none⟩ = some (.string (⟨#[]⟩ : ByteArray)) := (bc_ BK545.out 0).trans rfl; have hcz19_1 : w18.cell? ⟨gb545, 1, none⟩ = some (.string (⟨#[]⟩ : ByteArray)) := (bc_ BK545.out 1).trans rfl; have hcz19_2 : w18.cell? ⟨gb545, 2, none⟩ = some (.string (⟨#[]⟩ : ByteArray)) := (bc_ BK545.out 2).trans rfl; have hcz19_3 : w18.cell? ⟨gb545, 3, none⟩ = some (.int .u8 0) := (bc_ BK545.out 3).trans rfl; have hcz19_4 : w18.cell? ⟨gb545, 4, none⟩ = some (.int .i64 0) := (bc_ BK545.out 4).trans rfl; have hcz19_5 : w18.cell? ⟨gb545, 5, none⟩ = some (.int .i64 0) := (bc_ BK545.out 5).trans rfl; have hcz19_6 : w18.cell? ⟨gb545, 6, none⟩ = some (.int .i64 0) := (bc_ BK545.out 6).trans rfl; have hcz19_7 : w18.cell? ⟨gb545, 7, none⟩ = some (.int .i64 0) := (bc_ BK545.out 7).trans rfl; have hcz19_8 : w18.cell? ⟨gb545, 8, none⟩ = some (.slice none 0 0) := (bc_ BK545.out 8).trans rfl; have hfz19_0 := bf_ BK545.out 0; have hfz19_1 := bf_ BK545.out 1; have hfz19_2 := bf_ BK545.out 2; have hfz19_3 := bf_ BK545.out 3; have hfz19_4 := bf_ BK545.out 4; have hfz19_5 := bf_ BK545.out 5; have hfz19_6 := bf_ BK545.out 6; have hfz19_7 := bf_ BK545.out 7; have hfz19_8 := bf_ BK545.out 8; obtain ⟨Ao20, co20, eo20⟩ := Kd.V_slice HO543.out; subst eo20) | ((with_reducible refine gate_store (t := 40) (p := 7) rfl ?_); refine store_event (t := 40) (p := 7) (v := ?vo_w21) (w1 := (((((((((w18.setCell ⟨gb545, 0, none⟩ (.string t533)).setCell ⟨gb545, 1, none⟩ (.string t534)).setCell ⟨gb545, 2, none⟩ (.string t535)).setCell ⟨gb545, 3, none⟩ (.int .u8 t536)).setCell ⟨gb545, 4, none⟩ (.int .i64 t537)).setCell ⟨gb545, 5, none⟩ (.int .i64 t538)).setCell ⟨gb545, 6, none⟩ (.int .i64 t539)).setCell ⟨gb545, 7, none⟩ (.int .i64 t540)).setCell ⟨gb545, 8, none⟩ (.slice Ao20 t541.length co20))) ?hg ?ho ?hn ?hr ?_; (case ho => rfl); (case hg => rfl); (case hn => rfl); (case hr => first | (go_simp; done) | (go_simp; rfl)); intro w21 hw; have n0_ : Aside0 (Kd.V (Kd.int .u8) 5 w21 w.heap.size (fun k_ => k_ ≠ gb545) (.slice Ao20 t541.length co20) t541) := ⟨(by rw [hw]; exact (by (with_reducible repeat (first | apply Va_ | apply VN_ | apply V1_)); exact Kd.V_mono (Kd.V_far (p := ⟨gb545, 8, none⟩) (Kd.V_far (p := ⟨gb545, 7, none⟩) (Kd.V_far (p := ⟨gb545, 6, none⟩) (Kd.V_far (p := ⟨gb545, 5, none⟩) (Kd.V_far (p := ⟨gb545, 4, none⟩) (Kd.V_far (p := ⟨gb545, 3, none⟩) (Kd.V_far (p := ⟨gb545, 2, none⟩) (Kd.V_far (p := ⟨gb545, 1, none⟩) (Kd.V_far (p := ⟨gb545, 0, none⟩) (Kd.V_mono HO543.out (fun k_ hk => (⟨hk, hk.2⟩ : _ ∧ k_ ≠ gb545))) (fun _ hk => hk.2) (.string t533)) (fun _ hk => hk.2) (.string t534)) (fun _ hk => hk.2) (.string t535)) (fun _ hk => hk.2) (.int .u8 t536)) (fun _ hk => hk.2) (.int .i64 t537)) (fun _ hk => hk.2) (.int .i64 t538)) (fun _ hk => hk.2) (.int .i64 t539)) (fun _ hk => hk.2) (.int .i64 t540)) (fun _ hk => hk.2) (.slice Ao20 t541.length co20)) (fun _ hk => hk.1.2)))⟩; have n1_ : Aside0 (w21.heap[gb545]? = some (.cells #[.string t533, .string t534, .string t535, .int .u8 t536, .int .i64 t537, .int .i64 t538, .int .i64 t539, .int .i64 t540, .slice Ao20 t541.length co20] 40 (0, 0))) := ⟨(by rw [hw]; exact (by (with_reducible repeat (first | refine blk_drewN ?_ _ | refine blk_drew ?_ | refine blk_alloc ?_ _)); refine blk_put (cs := #[.string t533, .string t534, .string t535, .int .u8 t536, .int .i64 t537, .int .i64 t538, .int .i64 t539, .int .i64 t540, .slice none 0 0]) ?_ 8 _ rfl; (with_reducible repeat (first | refine blk_drewN ?_ _ | refine blk_drew ?_ | refine blk_alloc ?_ _)); refine blk_put (cs := #[.string t533, .string t534, .string t535, .int .u8 t536, .int .i64 t537, .int .i64 t538, .int .i64 t539, .int .i64 0, .slice none 0 0]) ?_ 7 _ rfl; (with_reducible repeat (first | refine blk_drewN ?_ _ | refine blk_drew ?_ | refine blk_alloc ?_ _)); refine blk_put (cs := #[.string t533, .string t534, .string t535, .int .u8 t536, .int .i64 t537, .int .i64 t538, .int .i64 0, .int .i64 0, .slice none 0 0]) ?_ 6 _ rfl; (with_reducible repeat (first | refine blk_drewN ?_ _ | refine blk_drew ?_ | refine blk_alloc ?_ _)); refine blk_put (cs := #[.string t533, .string t534, .string t535, .int .u8 t536, .int .i64 t537, .int .i64 0, .int .i64 0, .int .i64 0, .slice none 0 0]) ?_ 5 _ rfl; (with_reducible repeat (first | refine blk_drewN ?_ _ | refine blk_drew ?_ | refine blk_alloc ?_ _)); refine blk_put (cs := #[.string t533, .string t534, .string t535, .int .u8 t536, .int .i64 0, .int .i64 0, .int .i64 0, .int .i64 0, .slice none 0 0]) ?_ 4 _ rfl; (with_reducible repeat (first | refine blk_drewN ?_ _ | refine blk_drew ?_ | refine blk_alloc ?_ _)); refine blk_put (cs := #[.string t533, .string t534, .string t535, .int .u8 0, .int .i64 0, .int .i64 0, .int .i64 0, .int .i64 0, .slice none 0 0]) ?_ 3 _ rfl; (with_reducible repeat (first | refine blk_drewN ?_ _ | refine blk_drew ?_ | refine blk_alloc ?_ _)); refine blk_put (cs := #[.string t533, .string t534, .string (⟨#[]⟩ : ByteArray), .int .u8 0, .int .i64 0, .int .i64 0, .int .i64 0, .int .i64 0, .slice none 0 0]) ?_ 2 _ rfl; (with_reducible repeat (first | refine blk_drewN ?_ _ | refine blk_drew ?_ | refine blk_alloc ?_ _)); refine blk_put (cs := #[.string t533, .string (⟨#[]⟩ : ByteArray), .string (⟨#[]⟩ : ByteArray), .int .u8 0, .int .i64 0, .int .i64 0, .int .i64 0, .int .i64 0, .slice none 0 0]) ?_ 1 _ rfl; (with_reducible repeat (first | refine blk_drewN ?_ _ | refine blk_drew ?_ | refine blk_alloc ?_ _)); refine blk_put (cs := #[.string (⟨#[]⟩ : ByteArray), .string (⟨#[]⟩ : ByteArray), .string (⟨#[]⟩ : ByteArray), .int .u8 0, .int .i64 0, .int .i64 0, .int .i64 0, .int .i64 0, .slice none 0 0]) ?_ 0 _ rfl; (with_reducible repeat (first | refine blk_drewN ?_ _ | refine blk_drew ?_ | refine blk_alloc ?_ _)); exact BK545.out))⟩; have n2_ : Aside0 (Below w.heap.size w w21) := ⟨(by rw [hw]; exact (wb1_ HB.out GE545.out))⟩; clear hw; clear HO543; clear BK545; clear HB; have HO543 := n0_; have BK545 := n1_; have HB := n2_; clear n0_ n1_ n2_) | ((with_reducible refine gate_callee (f := 23) rfl ?_); refine goesL_ (some 35) rfl rfl Tryd.func23 (by kernel_rfl) rfl #[.slice A0 l0.length c0, .string a2] rfl wm_ ?_; (with_reducible refine (bindleref08_Find.calls kj3 (fun k_ => k_ < w.heap.size) _ _ l0 a2 t546 t547 t548 t549 t550 t551 t552 t553 t554 t557 _ ?side1 A15.out).mono ?_); (case side1 => exact Kd.V_mk HC0.out (Kd.F_below (Kd.C_F k40_heap HR0.out) (wb1_ HB.out GE545.out))); rintro e w22 ⟨v555, rfl, ho0, hb⟩; refine ⟨_, rfl, ?_⟩; have n0_ := A0_ (Vb_ (wV_ HO543.out) hb); have n1_ := A0_ (Kd.V_lower (Kd.V_mono (ok' := fun k_ => k_ ≠ gb545) ho0 (fun k_ hk_ => Or.elim hk_ (fun hs_ => fun e_ => Nat.not_le.2 hs_ (by rw [e_]; exact GW545.out)) (fun hn_ => (Kd.freshB (g := gb545) (o := .cells #[.string t533, .string t534, .string t535, .int .u8 t536, .int .i64 t537, .int .i64 t538, .int .i64 t539, .int .i64 t540, .slice Ao20 t541.length co20] 40 (0, 0)) (wB_ BK545.out) k_ hn_)))) (below_size (wb1_ HB.out GE545.out))); have n2_ := A0_ (blk_below (g := gb545) (o := .cells #[.string t533, .string t534, .string t535, .int .u8 t536, .int .i64 t537, .int .i64 t538, .int .i64 t539, .int .i64 t540, .slice Ao20 t541.length co20] 40 (0, 0)) (wB_ BK545.out) hb); have n3_ := A0_ (below_step (wb1_ HB.out GE545.out) hb); clear HO543; clear BK545; clear HB; have HO543 := n0_; have HO556 := n1_; have BK545 := n2_; have HB := n3_; clear n0_ n1_ n2_ n3_; (try clear hb); (try clear hb2); (try clear hk); (try clear hi); (try clear ho0)) | ((with_reducible refine gate_dst (N := 9) rfl ?_); (try (refine gate_guard (by rfl) ?_; dsimp only)); refine box_event ?hg (N := 9) ?hd (cs := #[.string (⟨#[]⟩ : ByteArray), .string (⟨#[]⟩ : ByteArray), .string (⟨#[]⟩ : ByteArray), .int .u8 0, .int .i64 0, .int .i64 0, .int .i64 0, .int .i64 0, .slice none 0 0]) (t := 40) ?hr ?_; (case hd => rfl); (case hg => rfl); (case hr => first | (go_simp; done) | (go_simp; rfl)); intro gb558 hg w23 hbox hb; have n0_ := A0_ (Vb_ (Kd.V_elderB (wV_ HO543.out) gb558 (Nat.le_of_eq hg.symm)) hb); have n1_ := A0_ (Vb_ (Kd.V_elderB (wV_ HO556.out) gb558 (Nat.le_of_eq hg.symm)) hb); have n2_ := A0_ (blk_below (g := gb545) (o := .cells #[.string t533, .string t534, .string t535, .int .u8 t536, .int .i64 t537, .int .i64 t538, .int .i64 t539, .int .i64 t540, .slice Ao20 t541.length co20] 40 (0, 0)) (wB_ BK545.out) hb); have n3_ := A0_ (below_step (wb1_ HB.out GE545.out) hb); have n4_ := A0_ (hbox); have n5_ := A0_ ((by rw [hg]; exact (below_size (wb1_ HB.out GE545.out)) : w.heap.size ≤ gb558)); have n6_ := A0_ ((by rw [hg]; exact (below_size (wb1_ HB.out GE545.out)) : w.heap.size ≤ gb558)); have n7_ := A0_ ((by rw [hg]; exact Nat.ne_of_lt (blk_lt (g := gb545) (o := .cells #[.string t533, .string t534, .string t535, .int .u8 t536, .int .i64 t537, .int .i64 t538, .int .i64 t539, .int .i64 t540, .slice Ao20 t541.length co20] 40 (0, 0)) (wB_ BK545.out)) : gb545 ≠ gb558)); have n8_ := A0_ ((by rw [hg]; exact Nat.ne_of_gt (blk_lt (g := gb545) (o := .cells #[.string t533, .string t534, .string t535, .int .u8 t536, .int .i64 t537, .int .i64 t538, .int .i64 t539, .int .i64 t540, .slice Ao20 t541.length co20] 40 (0, 0)) (wB_ BK545.out)) : gb558 ≠ gb545)); clear HO543; clear HO556; clear BK545; clear HB; have HO543 := n0_; have HO556 := n1_; have BK545 := n2_; have HB := n3_; have BK558 := n4_; have GW558 := n5_; have GE558 := n6_; have NB545_558 := n7_; have NB558_545 := n8_; clear n0_ n1_ n2_ n3_ n4_ n5_ n6_ n7_ n8_; clear hb hbox hg; have hnb24 := NB558_545.out; have hnc24 := NB545_558.out; have hcz25_0 : w23.cell? ⟨gb558, 0, none⟩ = some (.string (⟨#[]⟩ : ByteArray)) := (bc_ BK558.out 0).trans rfl; have hcz25_1 : w23.cell? ⟨gb558, 1, none⟩ = some (.string (⟨#[]⟩ : ByteArray)) := (bc_ BK558.out 1).trans rfl; have hcz25_2 : w23.cell? ⟨gb558, 2, none⟩ = some (.string (⟨#[]⟩ : ByteArray)) := (bc_ BK558.out 2).trans rfl; have hcz25_3 : w23.cell? ⟨gb558, 3, none⟩ = some (.int .u8 0) := (bc_ BK558.out 3).trans rfl; have hcz25_4 : w23.cell? ⟨gb558, 4, none⟩ = some (.int .i64 0) := (bc_ BK558.out 4).trans rfl; have hcz25_5 : w23.cell? ⟨gb558, 5, none⟩ = some (.int .i64 0) := (bc_ BK558.out 5).trans rfl; have hcz25_6 : w23.cell? ⟨gb558, 6, none⟩ = some (.int .i64 0) := (bc_ BK558.out 6).trans rfl; have hcz25_7 : w23.cell? ⟨gb558, 7, none⟩ = some (.int .i64 0) := (bc_ BK558.out 7).trans rfl; have hcz25_8 : w23.cell? ⟨gb558, 8, none⟩ = some (.slice none 0 0) := (bc_ BK558.out 8).trans rfl; have hfz25_0 := bf_ BK558.out 0; have hfz25_1 := bf_ BK558.out 1; have hfz25_2 := bf_ BK558.out 2; have hfz25_3 := bf_ BK558.out 3; have hfz25_4 := bf_ BK558.out 4; have hfz25_5 := bf_ BK558.out 5; have hfz25_6 := bf_ BK558.out 6; have hfz25_7 := bf_ BK558.out 7; have hfz25_8 := bf_ BK558.out 8; obtain ⟨Ao26, co26, eo26⟩ := Kd.V_slice HO556.out; subst eo26))
   (try simp only [Act.put, List.setIfInBounds_toArray, List.set_cons_zero, List.set_cons_succ])
   go_cut [53] (fun v53 wc => ∃ (kq : Nat) (x53_15 : Bool), v53 = .bool x53_15 ∧ Aside0 (bindlelaw10_TreeFinds.j1 kq l0 l1 x53_15 = some r) ∧ Aside0 (kq ≤ kj3) ∧ Aside0 (Kd.V (Kd.int .u8) 5 wc w.heap.size (fun k_ => k_ ≠ gb545 ∧ k_ ≠ gb558) (.slice Ao20 t541.length co20) t541) ∧ Aside0 (Kd.V (Kd.int .u8) 5 wc w.heap.size (fun k_ => k_ ≠ gb545 ∧ k_ ≠ gb558) (.slice Ao26 t554.length co26) t554) ∧ Aside0 (wc.heap[gb545]? = some (.cells #[.string t533, .string t534, .string t535, .int .u8 t536, .int .i64 t537, .int .i64 t538, .int .i64 t539, .int .i64 t540, (.slice Ao20 t541.length co20)] 40 (0, 0))) ∧ Aside0 (wc.heap[gb558]? = some (.cells #[.string t546, .string t547, .string t548, .int .u8 t549, .int .i64 t550, .int .i64 t551, .int .i64 t552, .int .i64 t553, (.slice Ao26 t554.length co26)] 40 (0, 0))) ∧ Aside0 (Below w.heap.size w wc))
   case first =>
    have H := HC16.out
    clear HC16
    by_cases c27 : (t544 != t557) = true
    ·rw [if_pos c27] at H
     have c27b0 : (t544 != t557) = true := c27
     (try (have c27b1 : decide (t544 = t557) = false := by simpa using c27))
     (try (have c27b2 : (t544 == t557) = false := by simpa using c27))
     (try (have c27b3 : ¬ (t544 = t557) := by simpa using c27))
     clear c27
     (first | rw [c27b0] | (simp only [i64_w, i32_w]; rw [c27b0]) | skip)
     have H' := A0_ H
     clear H
     go_wp2
     go_meet
     case rel => exact ⟨_, (true), wr_, H', ⟨by have := HJ3.out; first | omega | exact Nat.le_refl _⟩, ⟨by (with_reducible repeat (first | apply Va_ | apply VN_ | apply V1_)); exact Kd.V_mono (Kd.V_far (p := ⟨gb558, 8, none⟩) (Kd.V_far (p := ⟨gb558, 7, none⟩) (Kd.V_far (p := ⟨gb558, 6, none⟩) (Kd.V_far (p := ⟨gb558, 5, none⟩) (Kd.V_far (p := ⟨gb558, 4, none⟩) (Kd.V_far (p := ⟨gb558, 3, none⟩) (Kd.V_far (p := ⟨gb558, 2, none⟩) (Kd.V_far (p := ⟨gb558, 1, none⟩) (Kd.V_far (p := ⟨gb558, 0, none⟩) (Kd.V_mono HO543.out (fun k_ hk => (⟨hk, hk.2⟩ : _ ∧ k_ ≠ gb558))) (fun _ hk => hk.2) (.string t546)) (fun _ hk => hk.2) (.string t547)) (fun _ hk => hk.2) (.string t548)) (fun _ hk => hk.2) (.int .u8 t549)) (fun _ hk => hk.2) (.int .i64 t550)) (fun _ hk => hk.2) (.int .i64 t551)) (fun _ hk => hk.2) (.int .i64 t552)) (fun _ hk => hk.2) (.int .i64 t553)) (fun _ hk => hk.2) (.slice Ao26 t554.length co26)) (fun _ hk => ⟨hk.1.1, hk.1.2⟩)⟩, ⟨by (with_reducible repeat (first | apply Va_ | apply VN_ | apply V1_)); exact Kd.V_mono (Kd.V_far (p := ⟨gb558, 8, none⟩) (Kd.V_far (p := ⟨gb558, 7, none⟩) (Kd.V_far (p := ⟨gb558, 6, none⟩) (Kd.V_far (p := ⟨gb558, 5, none⟩) (Kd.V_far (p := ⟨gb558, 4, none⟩) (Kd.V_far (p := ⟨gb558, 3, none⟩) (Kd.V_far (p := ⟨gb558, 2, none⟩) (Kd.V_far (p := ⟨gb558, 1, none⟩) (Kd.V_far (p := ⟨gb558, 0, none⟩) (Kd.V_mono HO556.out (fun k_ hk => (⟨hk, hk.2⟩ : _ ∧ k_ ≠ gb558))) (fun _ hk => hk.2) (.string t546)) (fun _ hk => hk.2) (.string t547)) (fun _ hk => hk.2) (.string t548)) (fun _ hk => hk.2) (.int .u8 t549)) (fun _ hk => hk.2) (.int .i64 t550)) (fun _ hk => hk.2) (.int .i64 t551)) (fun _ hk => hk.2) (.int .i64 t552)) (fun _ hk => hk.2) (.int .i64 t553)) (fun _ hk => hk.2) (.slice Ao26 t554.length co26)) (fun _ hk => ⟨hk.1.1, hk.1.2⟩)⟩, ⟨by (with_reducible repeat (first | refine blk_drewN ?_ _ | refine blk_drew ?_ | refine blk_alloc ?_ _)); refine blk_far ?_ NB545_558.out _; (with_reducible repeat (first | refine blk_drewN ?_ _ | refine blk_drew ?_ | refine blk_alloc ?_ _)); refine blk_far ?_ NB545_558.out _; (with_reducible repeat (first | refine blk_drewN ?_ _ | refine blk_drew ?_ | refine blk_alloc ?_ _)); refine blk_far ?_ NB545_558.out _; (with_reducible repeat (first | refine blk_drewN ?_ _ | refine blk_drew ?_ | refine blk_alloc ?_ _)); refine blk_far ?_ NB545_558.out _; (with_reducible repeat (first | refine blk_drewN ?_ _ | refine blk_drew ?_ | refine blk_alloc ?_ _)); refine blk_far ?_ NB545_558.out _; (with_reducible repeat (first | refine blk_drewN ?_ _ | refine blk_drew ?_ | refine blk_alloc ?_ _)); refine blk_far ?_ NB545_558.out _; (with_reducible repeat (first | refine blk_drewN ?_ _ | refine blk_drew ?_ | refine blk_alloc ?_ _)); refine blk_far ?_ NB545_558.out _; (with_reducible repeat (first | refine blk_drewN ?_ _ | refine blk_drew ?_ | refine blk_alloc ?_ _)); refine blk_far ?_ NB545_558.out _; (with_reducible repeat (first | refine blk_drewN ?_ _ | refine blk_drew ?_ | refine blk_alloc ?_ _)); refine blk_far ?_ NB545_558.out _; (with_reducible repeat (first | refine blk_drewN ?_ _ | refine blk_drew ?_ | refine blk_alloc ?_ _)); exact BK545.out⟩, ⟨by (with_reducible repeat (first | refine blk_drewN ?_ _ | refine blk_drew ?_ | refine blk_alloc ?_ _)); refine blk_put (cs := #[.string t546, .string t547, .string t548, .int .u8 t549, .int .i64 t550, .int .i64 t551, .int .i64 t552, .int .i64 t553, .slice none 0 0]) ?_ 8 _ rfl; (with_reducible repeat (first | refine blk_drewN ?_ _ | refine blk_drew ?_ | refine blk_alloc ?_ _)); refine blk_put (cs := #[.string t546, .string t547, .string t548, .int .u8 t549, .int .i64 t550, .int .i64 t551, .int .i64 t552, .int .i64 0, .slice none 0 0]) ?_ 7 _ rfl; (with_reducible repeat (first | refine blk_drewN ?_ _ | refine blk_drew ?_ | refine blk_alloc ?_ _)); refine blk_put (cs := #[.string t546, .string t547, .string t548, .int .u8 t549, .int .i64 t550, .int .i64 t551, .int .i64 0, .int .i64 0, .slice none 0 0]) ?_ 6 _ rfl; (with_reducible repeat (first | refine blk_drewN ?_ _ | refine blk_drew ?_ | refine blk_alloc ?_ _)); refine blk_put (cs := #[.string t546, .string t547, .string t548, .int .u8 t549, .int .i64 t550, .int .i64 0, .int .i64 0, .int .i64 0, .slice none 0 0]) ?_ 5 _ rfl; (with_reducible repeat (first | refine blk_drewN ?_ _ | refine blk_drew ?_ | refine blk_alloc ?_ _)); refine blk_put (cs := #[.string t546, .string t547, .string t548, .int .u8 t549, .int .i64 0, .int .i64 0, .int .i64 0, .int .i64 0, .slice none 0 0]) ?_ 4 _ rfl; (with_reducible repeat (first | refine blk_drewN ?_ _ | refine blk_drew ?_ | refine blk_alloc ?_ _)); refine blk_put (cs := #[.string t546, .string t547, .string t548, .int .u8 0, .int .i64 0, .int .i64 0, .int .i64 0, .int .i64 0, .slice none 0 0]) ?_ 3 _ rfl; (with_reducible repeat (first | refine blk_drewN ?_ _ | refine blk_drew ?_ | refine blk_alloc ?_ _)); refine blk_put (cs := #[.string t546, .string t547, .string (⟨#[]⟩ : ByteArray), .int .u8 0, .int .i64 0, .int .i64 0, .int .i64 0, .int .i64 0, .slice none 0 0]) ?_ 2 _ rfl; (with_reducible repeat (first | refine blk_drewN ?_ _ | refine blk_drew ?_ | refine blk_alloc ?_ _)); refine blk_put (cs := #[.string t546, .string (⟨#[]⟩ : ByteArray), .string (⟨#[]⟩ : ByteArray), .int .u8 0, .int .i64 0, .int .i64 0, .int .i64 0, .int .i64 0, .slice none 0 0]) ?_ 1 _ rfl; (with_reducible repeat (first | refine blk_drewN ?_ _ | refine blk_drew ?_ | refine blk_alloc ?_ _)); refine blk_put (cs := #[.string (⟨#[]⟩ : ByteArray), .string (⟨#[]⟩ : ByteArray), .string (⟨#[]⟩ : ByteArray), .int .u8 0, .int .i64 0, .int .i64 0, .int .i64 0, .int .i64 0, .slice none 0 0]) ?_ 0 _ rfl; (with_reducible repeat (first | refine blk_drewN ?_ _ | refine blk_drew ?_ | refine blk_alloc ?_ _)); exact BK558.out⟩, ⟨wb2_ HB.out GE545.out GE558.out⟩⟩
    rw [if_neg c27] at H
    have c27b0 : (t544 != t557) = false := by simpa using c27
    (try (have c27b1 : decide (t544 = t557) = true := by simpa using c27))
    (try (have c27b2 : (t544 == t557) = true := by simpa using c27))
    clear c27
    (first | rw [c27b0] | (simp only [i64_w, i32_w]; rw [c27b0]) | skip)
    replace H := Option.bind_eq_some_iff.mp H
    obtain ⟨t559, A280, H⟩ := H
    replace H : (if t559 = true then (bindlelaw10_TreeFinds.j1 kj3 l0 l1 (t535.toList != t548.toList)) else (bindlelaw10_TreeFinds.j1 kj3 l0 l1 true)) = some r := H
    have A28 := A0_ A280
    clear A280
    by_cases c29 : t559 = true
    rotate_left
    ·replace c29 := Bool.eq_false_iff.mpr c29
     subst c29
     have H1 : (bindlelaw10_TreeFinds.j1 kj3 l0 l1 true) = some r := by rw [if_neg (show ¬ (false = true) by decide)] at H; exact H
     clear H
     have H := H1
     clear H1
     have H' := A0_ H
     clear H
     have hnb36 := NB545_558.out
     have hnc36 := NB558_545.out
     have hcz37_0 : w23.cell? ⟨gb545, 0, none⟩ = some (.string t533) := (bc_ BK545.out 0).trans rfl
     have hcz37_1 : w23.cell? ⟨gb545, 1, none⟩ = some (.string t534) := (bc_ BK545.out 1).trans rfl
     have hcz37_2 : w23.cell? ⟨gb545, 2, none⟩ = some (.string t535) := (bc_ BK545.out 2).trans rfl
     have hcz37_3 : w23.cell? ⟨gb545, 3, none⟩ = some (.int .u8 t536) := (bc_ BK545.out 3).trans rfl
     have hcz37_4 : w23.cell? ⟨gb545, 4, none⟩ = some (.int .i64 t537) := (bc_ BK545.out 4).trans rfl
     have hcz37_5 : w23.cell? ⟨gb545, 5, none⟩ = some (.int .i64 t538) := (bc_ BK545.out 5).trans rfl
     have hcz37_6 : w23.cell? ⟨gb545, 6, none⟩ = some (.int .i64 t539) := (bc_ BK545.out 6).trans rfl
     have hcz37_7 : w23.cell? ⟨gb545, 7, none⟩ = some (.int .i64 t540) := (bc_ BK545.out 7).trans rfl
     have hcz37_8 : w23.cell? ⟨gb545, 8, none⟩ = some (.slice Ao20 t541.length co20) := (bc_ BK545.out 8).trans rfl
     have hfz37_0 := bf_ BK545.out 0
     have hfz37_1 := bf_ BK545.out 1
     have hfz37_2 := bf_ BK545.out 2
     have hfz37_3 := bf_ BK545.out 3
     have hfz37_4 := bf_ BK545.out 4
     have hfz37_5 := bf_ BK545.out 5
     have hfz37_6 := bf_ BK545.out 6
     have hfz37_7 := bf_ BK545.out 7
     have hfz37_8 := bf_ BK545.out 8
     have hcz38_0 : w23.cell? ⟨gb558, 0, none⟩ = some (.string (⟨#[]⟩ : ByteArray)) := (bc_ BK558.out 0).trans rfl
     have hcz38_1 : w23.cell? ⟨gb558, 1, none⟩ = some (.string (⟨#[]⟩ : ByteArray)) := (bc_ BK558.out 1).trans rfl
     have hcz38_2 : w23.cell? ⟨gb558, 2, none⟩ = some (.string (⟨#[]⟩ : ByteArray)) := (bc_ BK558.out 2).trans rfl
     have hcz38_3 : w23.cell? ⟨gb558, 3, none⟩ = some (.int .u8 0) := (bc_ BK558.out 3).trans rfl
     have hcz38_4 : w23.cell? ⟨gb558, 4, none⟩ = some (.int .i64 0) := (bc_ BK558.out 4).trans rfl
     have hcz38_5 : w23.cell? ⟨gb558, 5, none⟩ = some (.int .i64 0) := (bc_ BK558.out 5).trans rfl
     have hcz38_6 : w23.cell? ⟨gb558, 6, none⟩ = some (.int .i64 0) := (bc_ BK558.out 6).trans rfl
     have hcz38_7 : w23.cell? ⟨gb558, 7, none⟩ = some (.int .i64 0) := (bc_ BK558.out 7).trans rfl
     have hcz38_8 : w23.cell? ⟨gb558, 8, none⟩ = some (.slice none 0 0) := (bc_ BK558.out 8).trans rfl
     have hfz38_0 := bf_ BK558.out 0
     have hfz38_1 := bf_ BK558.out 1
     have hfz38_2 := bf_ BK558.out 2
     have hfz38_3 := bf_ BK558.out 3
     have hfz38_4 := bf_ BK558.out 4
     have hfz38_5 := bf_ BK558.out 5
     have hfz38_6 := bf_ BK558.out 6
     have hfz38_7 := bf_ BK558.out 7
     have hfz38_8 := bf_ BK558.out 8
     go_wp2_with (first | (go_at_call 37; (with_reducible refine (tree_Equal.calls t533 t534 t535 t536 t537 t538 t539 t540 _ _ t541 t546 t547 t548 t549 t550 t551 t552 t553 _ _ t554 false _ ?side1 ?side2 ?side3 ?side4 A28.out).mono ?_); (case side1 => refine (Kd.V_reads' (e := 5) (base := w.heap.size) (ok := fun k_ => (k_ ≠ gb545 ∧ k_ ≠ gb558)) (n := t541.length) (c := co20) ?_).2.2; exact (by (with_reducible repeat (first | apply Va_ | apply VN_ | apply V1_)); exact (Kd.V_mono (Kd.V_far (p := ⟨gb558, 8, none⟩) (Kd.V_far (p := ⟨gb558, 7, none⟩) (Kd.V_far (p := ⟨gb558, 6, none⟩) (Kd.V_far (p := ⟨gb558, 5, none⟩) (Kd.V_far (p := ⟨gb558, 4, none⟩) (Kd.V_far (p := ⟨gb558, 3, none⟩) (Kd.V_far (p := ⟨gb558, 2, none⟩) (Kd.V_far (p := ⟨gb558, 1, none⟩) (Kd.V_far (p := ⟨gb558, 0, none⟩) (Kd.V_mono HO543.out (fun k_ hk => (⟨hk, hk.2⟩ : _ ∧ k_ ≠ gb558))) (fun _ hk => hk.2) (.string t546)) (fun _ hk => hk.2) (.string t547)) (fun _ hk => hk.2) (.string t548)) (fun _ hk => hk.2) (.int .u8 t549)) (fun _ hk => hk.2) (.int .i64 t550)) (fun _ hk => hk.2) (.int .i64 t551)) (fun _ hk => hk.2) (.int .i64 t552)) (fun _ hk => hk.2) (.int .i64 t553)) (fun _ hk => hk.2) (.slice Ao26 t554.length co26)) (fun _ h_ => h_.1)))); (case side2 => exact (Kd.V_reads' HO543.out).2.1); (case side3 => refine (Kd.V_reads' (e := 5) (base := w.heap.size) (ok := fun k_ => (k_ ≠ gb545 ∧ k_ ≠ gb558)) (n := t554.length) (c := co26) ?_).2.2; exact (by (with_reducible repeat (first | apply Va_ | apply VN_ | apply V1_)); exact (Kd.V_mono (Kd.V_far (p := ⟨gb558, 8, none⟩) (Kd.V_far (p := ⟨gb558, 7, none⟩) (Kd.V_far (p := ⟨gb558, 6, none⟩) (Kd.V_far (p := ⟨gb558, 5, none⟩) (Kd.V_far (p := ⟨gb558, 4, none⟩) (Kd.V_far (p := ⟨gb558, 3, none⟩) (Kd.V_far (p := ⟨gb558, 2, none⟩) (Kd.V_far (p := ⟨gb558, 1, none⟩) (Kd.V_far (p := ⟨gb558, 0, none⟩) (Kd.V_mono HO556.out (fun k_ hk => (⟨hk, hk.2⟩ : _ ∧ k_ ≠ gb558))) (fun _ hk => hk.2) (.string t546)) (fun _ hk => hk.2) (.string t547)) (fun _ hk => hk.2) (.string t548)) (fun _ hk => hk.2) (.int .u8 t549)) (fun _ hk => hk.2) (.int .i64 t550)) (fun _ hk => hk.2) (.int .i64 t551)) (fun _ hk => hk.2) (.int .i64 t552)) (fun _ hk => hk.2) (.int .i64 t553)) (fun _ hk => hk.2) (.slice Ao26 t554.length co26)) (fun _ h_ => h_.1)))); (case side4 => exact (Kd.V_reads' HO556.out).2.1); rintro e w39 ⟨rfl, hb⟩; have n0_ := A0_ (Vb_ (by (with_reducible repeat (first | apply Va_ | apply VN_ | apply V1_)); exact (Kd.V_mono (Kd.V_far (p := ⟨gb558, 8, none⟩) (Kd.V_far (p := ⟨gb558, 7, none⟩) (Kd.V_far (p := ⟨gb558, 6, none⟩) (Kd.V_far (p := ⟨gb558, 5, none⟩) (Kd.V_far (p := ⟨gb558, 4, none⟩) (Kd.V_far (p := ⟨gb558, 3, none⟩) (Kd.V_far (p := ⟨gb558, 2, none⟩) (Kd.V_far (p := ⟨gb558, 1, none⟩) (Kd.V_far (p := ⟨gb558, 0, none⟩) (Kd.V_mono HO543.out (fun k_ hk => (⟨hk, hk.2⟩ : _ ∧ k_ ≠ gb558))) (fun _ hk => hk.2) (.string t546)) (fun _ hk => hk.2) (.string t547)) (fun _ hk => hk.2) (.string t548)) (fun _ hk => hk.2) (.int .u8 t549)) (fun _ hk => hk.2) (.int .i64 t550)) (fun _ hk => hk.2) (.int .i64 t551)) (fun _ hk => hk.2) (.int .i64 t552)) (fun _ hk => hk.2) (.int .i64 t553)) (fun _ hk => hk.2) (.slice Ao26 t554.length co26)) (fun _ h_ => h_.1))) hb); have n1_ := A0_ (Vb_ (by (with_reducible repeat (first | apply Va_ | apply VN_ | apply V1_)); exact (Kd.V_mono (Kd.V_far (p := ⟨gb558, 8, none⟩) (Kd.V_far (p := ⟨gb558, 7, none⟩) (Kd.V_far (p := ⟨gb558, 6, none⟩) (Kd.V_far (p := ⟨gb558, 5, none⟩) (Kd.V_far (p := ⟨gb558, 4, none⟩) (Kd.V_far (p := ⟨gb558, 3, none⟩) (Kd.V_far (p := ⟨gb558, 2, none⟩) (Kd.V_far (p := ⟨gb558, 1, none⟩) (Kd.V_far (p := ⟨gb558, 0, none⟩) (Kd.V_mono HO556.out (fun k_ hk => (⟨hk, hk.2⟩ : _ ∧ k_ ≠ gb558))) (fun _ hk => hk.2) (.string t546)) (fun _ hk => hk.2) (.string t547)) (fun _ hk => hk.2) (.string t548)) (fun _ hk => hk.2) (.int .u8 t549)) (fun _ hk => hk.2) (.int .i64 t550)) (fun _ hk => hk.2) (.int .i64 t551)) (fun _ hk => hk.2) (.int .i64 t552)) (fun _ hk => hk.2) (.int .i64 t553)) (fun _ hk => hk.2) (.slice Ao26 t554.length co26)) (fun _ h_ => h_.1))) hb); have n2_ := A0_ (blk_below (g := gb545) (o := .cells #[.string t533, .string t534, .string t535, .int .u8 t536, .int .i64 t537, .int .i64 t538, .int .i64 t539, .int .i64 t540, .slice Ao20 t541.length co20] 40 (0, 0)) (by (with_reducible repeat (first | refine blk_drewN ?_ _ | refine blk_drew ?_ | refine blk_alloc ?_ _)); refine blk_far ?_ NB545_558.out _; (with_reducible repeat (first | refine blk_drewN ?_ _ | refine blk_drew ?_ | refine blk_alloc ?_ _)); refine blk_far ?_ NB545_558.out _; (with_reducible repeat (first | refine blk_drewN ?_ _ | refine blk_drew ?_ | refine blk_alloc ?_ _)); refine blk_far ?_ NB545_558.out _; (with_reducible repeat (first | refine blk_drewN ?_ _ | refine blk_drew ?_ | refine blk_alloc ?_ _)); refine blk_far ?_ NB545_558.out _; (with_reducible repeat (first | refine blk_drewN ?_ _ | refine blk_drew ?_ | refine blk_alloc ?_ _)); refine blk_far ?_ NB545_558.out _; (with_reducible repeat (first | refine blk_drewN ?_ _ | refine blk_drew ?_ | refine blk_alloc ?_ _)); refine blk_far ?_ NB545_558.out _; (with_reducible repeat (first | refine blk_drewN ?_ _ | refine blk_drew ?_ | refine blk_alloc ?_ _)); refine blk_far ?_ NB545_558.out _; (with_reducible repeat (first | refine blk_drewN ?_ _ | refine blk_drew ?_ | refine blk_alloc ?_ _)); refine blk_far ?_ NB545_558.out _; (with_reducible repeat (first | refine blk_drewN ?_ _ | refine blk_drew ?_ | refine blk_alloc ?_ _)); refine blk_far ?_ NB545_558.out _; (with_reducible repeat (first | refine blk_drewN ?_ _ | refine blk_drew ?_ | refine blk_alloc ?_ _)); exact BK545.out) hb); have n3_ := A0_ (blk_below (g := gb558) (o := .cells #[.string t546, .string t547, .string t548, .int .u8 t549, .int .i64 t550, .int .i64 t551, .int .i64 t552, .int .i64 t553, .slice Ao26 t554.length co26] 40 (0, 0)) (by (with_reducible repeat (first | refine blk_drewN ?_ _ | refine blk_drew ?_ | refine blk_alloc ?_ _)); refine blk_put (cs := #[.string t546, .string t547, .string t548, .int .u8 t549, .int .i64 t550, .int .i64 t551, .int .i64 t552, .int .i64 t553, .slice none 0 0]) ?_ 8 _ rfl; (with_reducible repeat (first | refine blk_drewN ?_ _ | refine blk_drew ?_ | refine blk_alloc ?_ _)); refine blk_put (cs := #[.string t546, .string t547, .string t548, .int .u8 t549, .int .i64 t550, .int .i64 t551, .int .i64 t552, .int .i64 0, .slice none 0 0]) ?_ 7 _ rfl; (with_reducible repeat (first | refine blk_drewN ?_ _ | refine blk_drew ?_ | refine blk_alloc ?_ _)); refine blk_put (cs := #[.string t546, .string t547, .string t548, .int .u8 t549, .int .i64 t550, .int .i64 t551, .int .i64 0, .int .i64 0, .slice none 0 0]) ?_ 6 _ rfl; (with_reducible repeat (first | refine blk_drewN ?_ _ | refine blk_drew ?_ | refine blk_alloc ?_ _)); refine blk_put (cs := #[.string t546, .string t547, .string t548, .int .u8 t549, .int .i64 t550, .int .i64 0, .int .i64 0, .int .i64 0, .slice none 0 0]) ?_ 5 _ rfl; (with_reducible repeat (first | refine blk_drewN ?_ _ | refine blk_drew ?_ | refine blk_alloc ?_ _)); refine blk_put (cs := #[.string t546, .string t547, .string t548, .int .u8 t549, .int .i64 0, .int .i64 0, .int .i64 0, .int .i64 0, .slice none 0 0]) ?_ 4 _ rfl; (with_reducible repeat (first | refine blk_drewN ?_ _ | refine blk_drew ?_ | refine blk_alloc ?_ _)); refine blk_put (cs := #[.string t546, .string t547, .string t548, .int .u8 0, .int .i64 0, .int .i64 0, .int .i64 0, .int .i64 0, .slice none 0 0]) ?_ 3 _ rfl; (with_reducible repeat (first | refine blk_drewN ?_ _ | refine blk_drew ?_ | refine blk_alloc ?_ _)); refine blk_put (cs := #[.string t546, .string t547, .string (⟨#[]⟩ : ByteArray), .int .u8 0, .int .i64 0, .int .i64 0, .int .i64 0, .int .i64 0, .slice none 0 0]) ?_ 2 _ rfl; (with_reducible repeat (first | refine blk_drewN ?_ _ | refine blk_drew ?_ | refine blk_alloc ?_ _)); refine blk_put (cs := #[.string t546, .string (⟨#[]⟩ : ByteArray), .string (⟨#[]⟩ : ByteArray), .int .u8 0, .int .i64 0, .int .i64 0, .int .i64 0, .int .i64 0, .slice none 0 0]) ?_ 1 _ rfl; (with_reducible repeat (first | refine blk_drewN ?_ _ | refine blk_drew ?_ | refine blk_alloc ?_ _)); refine blk_put (cs := #[.string (⟨#[]⟩ : ByteArray), .string (⟨#[]⟩ : ByteArray), .string (⟨#[]⟩ : ByteArray), .int .u8 0, .int .i64 0, .int .i64 0, .int .i64 0, .int .i64 0, .slice none 0 0]) ?_ 0 _ rfl; (with_reducible repeat (first | refine blk_drewN ?_ _ | refine blk_drew ?_ | refine blk_alloc ?_ _)); exact BK558.out) hb); have n4_ := A0_ (below_step (wb2_ HB.out GE545.out GE558.out) hb); clear HO543; clear HO556; clear BK545; clear BK558; clear HB; have HO543 := n0_; have HO556 := n1_; have BK545 := n2_; have BK558 := n3_; have HB := n4_; clear n0_ n1_ n2_ n3_ n4_; (try clear hb); (try clear hb2); (try clear hk); (try clear hi)))
     go_meet
     case rel => exact ⟨_, (true), wr_, H', ⟨by have := HJ3.out; first | omega | exact Nat.le_refl _⟩, ⟨wV_ HO543.out⟩, ⟨wV_ HO556.out⟩, ⟨wB_ BK545.out⟩, ⟨wB_ BK558.out⟩, ⟨wb2_ HB.out GE545.out GE558.out⟩⟩
    subst c29
    have H1 : (bindlelaw10_TreeFinds.j1 kj3 l0 l1 (t535.toList != t548.toList)) = some r := by rw [if_pos rfl] at H; exact H
    clear H
    have H := H1
    clear H1
    have H' := A0_ H
    clear H
    have hnb30 := NB545_558.out
    have hnc30 := NB558_545.out
    have hcz31_0 : w23.cell? ⟨gb545, 0, none⟩ = some (.string t533) := (bc_ BK545.out 0).trans rfl
    have hcz31_1 : w23.cell? ⟨gb545, 1, none⟩ = some (.string t534) := (bc_ BK545.out 1).trans rfl
    have hcz31_2 : w23.cell? ⟨gb545, 2, none⟩ = some (.string t535) := (bc_ BK545.out 2).trans rfl
    have hcz31_3 : w23.cell? ⟨gb545, 3, none⟩ = some (.int .u8 t536) := (bc_ BK545.out 3).trans rfl
    have hcz31_4 : w23.cell? ⟨gb545, 4, none⟩ = some (.int .i64 t537) := (bc_ BK545.out 4).trans rfl
    have hcz31_5 : w23.cell? ⟨gb545, 5, none⟩ = some (.int .i64 t538) := (bc_ BK545.out 5).trans rfl
    have hcz31_6 : w23.cell? ⟨gb545, 6, none⟩ = some (.int .i64 t539) := (bc_ BK545.out 6).trans rfl
    have hcz31_7 : w23.cell? ⟨gb545, 7, none⟩ = some (.int .i64 t540) := (bc_ BK545.out 7).trans rfl
    have hcz31_8 : w23.cell? ⟨gb545, 8, none⟩ = some (.slice Ao20 t541.length co20) := (bc_ BK545.out 8).trans rfl
    have hfz31_0 := bf_ BK545.out 0
    have hfz31_1 := bf_ BK545.out 1
    have hfz31_2 := bf_ BK545.out 2
    have hfz31_3 := bf_ BK545.out 3
    have hfz31_4 := bf_ BK545.out 4
    have hfz31_5 := bf_ BK545.out 5
    have hfz31_6 := bf_ BK545.out 6
    have hfz31_7 := bf_ BK545.out 7
    have hfz31_8 := bf_ BK545.out 8
    have hcz32_0 : w23.cell? ⟨gb558, 0, none⟩ = some (.string (⟨#[]⟩ : ByteArray)) := (bc_ BK558.out 0).trans rfl
    have hcz32_1 : w23.cell? ⟨gb558, 1, none⟩ = some (.string (⟨#[]⟩ : ByteArray)) := (bc_ BK558.out 1).trans rfl
    have hcz32_2 : w23.cell? ⟨gb558, 2, none⟩ = some (.string (⟨#[]⟩ : ByteArray)) := (bc_ BK558.out 2).trans rfl
    have hcz32_3 : w23.cell? ⟨gb558, 3, none⟩ = some (.int .u8 0) := (bc_ BK558.out 3).trans rfl
    have hcz32_4 : w23.cell? ⟨gb558, 4, none⟩ = some (.int .i64 0) := (bc_ BK558.out 4).trans rfl
    have hcz32_5 : w23.cell? ⟨gb558, 5, none⟩ = some (.int .i64 0) := (bc_ BK558.out 5).trans rfl
    have hcz32_6 : w23.cell? ⟨gb558, 6, none⟩ = some (.int .i64 0) := (bc_ BK558.out 6).trans rfl
    have hcz32_7 : w23.cell? ⟨gb558, 7, none⟩ = some (.int .i64 0) := (bc_ BK558.out 7).trans rfl
    have hcz32_8 : w23.cell? ⟨gb558, 8, none⟩ = some (.slice none 0 0) := (bc_ BK558.out 8).trans rfl
    have hfz32_0 := bf_ BK558.out 0
    have hfz32_1 := bf_ BK558.out 1
    have hfz32_2 := bf_ BK558.out 2
    have hfz32_3 := bf_ BK558.out 3
    have hfz32_4 := bf_ BK558.out 4
    have hfz32_5 := bf_ BK558.out 5
    have hfz32_6 := bf_ BK558.out 6
    have hfz32_7 := bf_ BK558.out 7
    have hfz32_8 := bf_ BK558.out 8
    go_wp2_with (first | (go_at_call 37; (with_reducible refine (tree_Equal.calls t533 t534 t535 t536 t537 t538 t539 t540 _ _ t541 t546 t547 t548 t549 t550 t551 t552 t553 _ _ t554 true _ ?side1 ?side2 ?side3 ?side4 A28.out).mono ?_); (case side1 => refine (Kd.V_reads' (e := 5) (base := w.heap.size) (ok := fun k_ => (k_ ≠ gb545 ∧ k_ ≠ gb558)) (n := t541.length) (c := co20) ?_).2.2; exact (by (with_reducible repeat (first | apply Va_ | apply VN_ | apply V1_)); exact (Kd.V_mono (Kd.V_far (p := ⟨gb558, 8, none⟩) (Kd.V_far (p := ⟨gb558, 7, none⟩) (Kd.V_far (p := ⟨gb558, 6, none⟩) (Kd.V_far (p := ⟨gb558, 5, none⟩) (Kd.V_far (p := ⟨gb558, 4, none⟩) (Kd.V_far (p := ⟨gb558, 3, none⟩) (Kd.V_far (p := ⟨gb558, 2, none⟩) (Kd.V_far (p := ⟨gb558, 1, none⟩) (Kd.V_far (p := ⟨gb558, 0, none⟩) (Kd.V_mono HO543.out (fun k_ hk => (⟨hk, hk.2⟩ : _ ∧ k_ ≠ gb558))) (fun _ hk => hk.2) (.string t546)) (fun _ hk => hk.2) (.string t547)) (fun _ hk => hk.2) (.string t548)) (fun _ hk => hk.2) (.int .u8 t549)) (fun _ hk => hk.2) (.int .i64 t550)) (fun _ hk => hk.2) (.int .i64 t551)) (fun _ hk => hk.2) (.int .i64 t552)) (fun _ hk => hk.2) (.int .i64 t553)) (fun _ hk => hk.2) (.slice Ao26 t554.length co26)) (fun _ h_ => h_.1)))); (case side2 => exact (Kd.V_reads' HO543.out).2.1); (case side3 => refine (Kd.V_reads' (e := 5) (base := w.heap.size) (ok := fun k_ => (k_ ≠ gb545 ∧ k_ ≠ gb558)) (n := t554.length) (c := co26) ?_).2.2; exact (by (with_reducible repeat (first | apply Va_ | apply VN_ | apply V1_)); exact (Kd.V_mono (Kd.V_far (p := ⟨gb558, 8, none⟩) (Kd.V_far (p := ⟨gb558, 7, none⟩) (Kd.V_far (p := ⟨gb558, 6, none⟩) (Kd.V_far (p := ⟨gb558, 5, none⟩) (Kd.V_far (p := ⟨gb558, 4, none⟩) (Kd.V_far (p := ⟨gb558, 3, none⟩) (Kd.V_far (p := ⟨gb558, 2, none⟩) (Kd.V_far (p := ⟨gb558, 1, none⟩) (Kd.V_far (p := ⟨gb558, 0, none⟩) (Kd.V_mono HO556.out (fun k_ hk => (⟨hk, hk.2⟩ : _ ∧ k_ ≠ gb558))) (fun _ hk => hk.2) (.string t546)) (fun _ hk => hk.2) (.string t547)) (fun _ hk => hk.2) (.string t548)) (fun _ hk => hk.2) (.int .u8 t549)) (fun _ hk => hk.2) (.int .i64 t550)) (fun _ hk => hk.2) (.int .i64 t551)) (fun _ hk => hk.2) (.int .i64 t552)) (fun _ hk => hk.2) (.int .i64 t553)) (fun _ hk => hk.2) (.slice Ao26 t554.length co26)) (fun _ h_ => h_.1)))); (case side4 => exact (Kd.V_reads' HO556.out).2.1); rintro e w33 ⟨rfl, hb⟩; have n0_ := A0_ (Vb_ (by (with_reducible repeat (first | apply Va_ | apply VN_ | apply V1_)); exact (Kd.V_mono (Kd.V_far (p := ⟨gb558, 8, none⟩) (Kd.V_far (p := ⟨gb558, 7, none⟩) (Kd.V_far (p := ⟨gb558, 6, none⟩) (Kd.V_far (p := ⟨gb558, 5, none⟩) (Kd.V_far (p := ⟨gb558, 4, none⟩) (Kd.V_far (p := ⟨gb558, 3, none⟩) (Kd.V_far (p := ⟨gb558, 2, none⟩) (Kd.V_far (p := ⟨gb558, 1, none⟩) (Kd.V_far (p := ⟨gb558, 0, none⟩) (Kd.V_mono HO543.out (fun k_ hk => (⟨hk, hk.2⟩ : _ ∧ k_ ≠ gb558))) (fun _ hk => hk.2) (.string t546)) (fun _ hk => hk.2) (.string t547)) (fun _ hk => hk.2) (.string t548)) (fun _ hk => hk.2) (.int .u8 t549)) (fun _ hk => hk.2) (.int .i64 t550)) (fun _ hk => hk.2) (.int .i64 t551)) (fun _ hk => hk.2) (.int .i64 t552)) (fun _ hk => hk.2) (.int .i64 t553)) (fun _ hk => hk.2) (.slice Ao26 t554.length co26)) (fun _ h_ => h_.1))) hb); have n1_ := A0_ (Vb_ (by (with_reducible repeat (first | apply Va_ | apply VN_ | apply V1_)); exact (Kd.V_mono (Kd.V_far (p := ⟨gb558, 8, none⟩) (Kd.V_far (p := ⟨gb558, 7, none⟩) (Kd.V_far (p := ⟨gb558, 6, none⟩) (Kd.V_far (p := ⟨gb558, 5, none⟩) (Kd.V_far (p := ⟨gb558, 4, none⟩) (Kd.V_far (p := ⟨gb558, 3, none⟩) (Kd.V_far (p := ⟨gb558, 2, none⟩) (Kd.V_far (p := ⟨gb558, 1, none⟩) (Kd.V_far (p := ⟨gb558, 0, none⟩) (Kd.V_mono HO556.out (fun k_ hk => (⟨hk, hk.2⟩ : _ ∧ k_ ≠ gb558))) (fun _ hk => hk.2) (.string t546)) (fun _ hk => hk.2) (.string t547)) (fun _ hk => hk.2) (.string t548)) (fun _ hk => hk.2) (.int .u8 t549)) (fun _ hk => hk.2) (.int .i64 t550)) (fun _ hk => hk.2) (.int .i64 t551)) (fun _ hk => hk.2) (.int .i64 t552)) (fun _ hk => hk.2) (.int .i64 t553)) (fun _ hk => hk.2) (.slice Ao26 t554.length co26)) (fun _ h_ => h_.1))) hb); have n2_ := A0_ (blk_below (g := gb545) (o := .cells #[.string t533, .string t534, .string t535, .int .u8 t536, .int .i64 t537, .int .i64 t538, .int .i64 t539, .int .i64 t540, .slice Ao20 t541.length co20] 40 (0, 0)) (by (with_reducible repeat (first | refine blk_drewN ?_ _ | refine blk_drew ?_ | refine blk_alloc ?_ _)); refine blk_far ?_ NB545_558.out _; (with_reducible repeat (first | refine blk_drewN ?_ _ | refine blk_drew ?_ | refine blk_alloc ?_ _)); refine blk_far ?_ NB545_558.out _; (with_reducible repeat (first | refine blk_drewN ?_ _ | refine blk_drew ?_ | refine blk_alloc ?_ _)); refine blk_far ?_ NB545_558.out _; (with_reducible repeat (first | refine blk_drewN ?_ _ | refine blk_drew ?_ | refine blk_alloc ?_ _)); refine blk_far ?_ NB545_558.out _; (with_reducible repeat (first | refine blk_drewN ?_ _ | refine blk_drew ?_ | refine blk_alloc ?_ _)); refine blk_far ?_ NB545_558.out _; (with_reducible repeat (first | refine blk_drewN ?_ _ | refine blk_drew ?_ | refine blk_alloc ?_ _)); refine blk_far ?_ NB545_558.out _; (with_reducible repeat (first | refine blk_drewN ?_ _ | refine blk_drew ?_ | refine blk_alloc ?_ _)); refine blk_far ?_ NB545_558.out _; (with_reducible repeat (first | refine blk_drewN ?_ _ | refine blk_drew ?_ | refine blk_alloc ?_ _)); refine blk_far ?_ NB545_558.out _; (with_reducible repeat (first | refine blk_drewN ?_ _ | refine blk_drew ?_ | refine blk_alloc ?_ _)); refine blk_far ?_ NB545_558.out _; (with_reducible repeat (first | refine blk_drewN ?_ _ | refine blk_drew ?_ | refine blk_alloc ?_ _)); exact BK545.out) hb); have n3_ := A0_ (blk_below (g := gb558) (o := .cells #[.string t546, .string t547, .string t548, .int .u8 t549, .int .i64 t550, .int .i64 t551, .int .i64 t552, .int .i64 t553, .slice Ao26 t554.length co26] 40 (0, 0)) (by (with_reducible repeat (first | refine blk_drewN ?_ _ | refine blk_drew ?_ | refine blk_alloc ?_ _)); refine blk_put (cs := #[.string t546, .string t547, .string t548, .int .u8 t549, .int .i64 t550, .int .i64 t551, .int .i64 t552, .int .i64 t553, .slice none 0 0]) ?_ 8 _ rfl; (with_reducible repeat (first | refine blk_drewN ?_ _ | refine blk_drew ?_ | refine blk_alloc ?_ _)); refine blk_put (cs := #[.string t546, .string t547, .string t548, .int .u8 t549, .int .i64 t550, .int .i64 t551, .int .i64 t552, .int .i64 0, .slice none 0 0]) ?_ 7 _ rfl; (with_reducible repeat (first | refine blk_drewN ?_ _ | refine blk_drew ?_ | refine blk_alloc ?_ _)); refine blk_put (cs := #[.string t546, .string t547, .string t548, .int .u8 t549, .int .i64 t550, .int .i64 t551, .int .i64 0, .int .i64 0, .slice none 0 0]) ?_ 6 _ rfl; (with_reducible repeat (first | refine blk_drewN ?_ _ | refine blk_drew ?_ | refine blk_alloc ?_ _)); refine blk_put (cs := #[.string t546, .string t547, .string t548, .int .u8 t549, .int .i64 t550, .int .i64 0, .int .i64 0, .int .i64 0, .slice none 0 0]) ?_ 5 _ rfl; (with_reducible repeat (first | refine blk_drewN ?_ _ | refine blk_drew ?_ | refine blk_alloc ?_ _)); refine blk_put (cs := #[.string t546, .string t547, .string t548, .int .u8 t549, .int .i64 0, .int .i64 0, .int .i64 0, .int .i64 0, .slice none 0 0]) ?_ 4 _ rfl; (with_reducible repeat (first | refine blk_drewN ?_ _ | refine blk_drew ?_ | refine blk_alloc ?_ _)); refine blk_put (cs := #[.string t546, .string t547, .string t548, .int .u8 0, .int .i64 0, .int .i64 0, .int .i64 0, .int .i64 0, .slice none 0 0]) ?_ 3 _ rfl; (with_reducible repeat (first | refine blk_drewN ?_ _ | refine blk_drew ?_ | refine blk_alloc ?_ _)); refine blk_put (cs := #[.string t546, .string t547, .string (⟨#[]⟩ : ByteArray), .int .u8 0, .int .i64 0, .int .i64 0, .int .i64 0, .int .i64 0, .slice none 0 0]) ?_ 2 _ rfl; (with_reducible repeat (first | refine blk_drewN ?_ _ | refine blk_drew ?_ | refine blk_alloc ?_ _)); refine blk_put (cs := #[.string t546, .string (⟨#[]⟩ : ByteArray), .string (⟨#[]⟩ : ByteArray), .int .u8 0, .int .i64 0, .int .i64 0, .int .i64 0, .int .i64 0, .slice none 0 0]) ?_ 1 _ rfl; (with_reducible repeat (first | refine blk_drewN ?_ _ | refine blk_drew ?_ | refine blk_alloc ?_ _)); refine blk_put (cs := #[.string (⟨#[]⟩ : ByteArray), .string (⟨#[]⟩ : ByteArray), .string (⟨#[]⟩ : ByteArray), .int .u8 0, .int .i64 0, .int .i64 0, .int .i64 0, .int .i64 0, .slice none 0 0]) ?_ 0 _ rfl; (with_reducible repeat (first | refine blk_drewN ?_ _ | refine blk_drew ?_ | refine blk_alloc ?_ _)); exact BK558.out) hb); have n4_ := A0_ (below_step (wb2_ HB.out GE545.out GE558.out) hb); clear HO543; clear HO556; clear BK545; clear BK558; clear HB; have HO543 := n0_; have HO556 := n1_; have BK545 := n2_; have BK558 := n3_; have HB := n4_; clear n0_ n1_ n2_ n3_ n4_; (try clear hb); (try clear hb2); (try clear hk); (try clear hi); have hcz34_0 : w33.cell? ⟨gb545, 0, none⟩ = some (.string t533) := (bc_ BK545.out 0).trans rfl; have hcz34_1 : w33.cell? ⟨gb545, 1, none⟩ = some (.string t534) := (bc_ BK545.out 1).trans rfl; have hcz34_2 : w33.cell? ⟨gb545, 2, none⟩ = some (.string t535) := (bc_ BK545.out 2).trans rfl; have hcz34_3 : w33.cell? ⟨gb545, 3, none⟩ = some (.int .u8 t536) := (bc_ BK545.out 3).trans rfl; have hcz34_4 : w33.cell? ⟨gb545, 4, none⟩ = some (.int .i64 t537) := (bc_ BK545.out 4).trans rfl; have hcz34_5 : w33.cell? ⟨gb545, 5, none⟩ = some (.int .i64 t538) := (bc_ BK545.out 5).trans rfl; have hcz34_6 : w33.cell? ⟨gb545, 6, none⟩ = some (.int .i64 t539) := (bc_ BK545.out 6).trans rfl; have hcz34_7 : w33.cell? ⟨gb545, 7, none⟩ = some (.int .i64 t540) := (bc_ BK545.out 7).trans rfl; have hcz34_8 : w33.cell? ⟨gb545, 8, none⟩ = some (.slice Ao20 t541.length co20) := (bc_ BK545.out 8).trans rfl; have hfz34_0 := bf_ BK545.out 0; have hfz34_1 := bf_ BK545.out 1; have hfz34_2 := bf_ BK545.out 2; have hfz34_3 := bf_ BK545.out 3; have hfz34_4 := bf_ BK545.out 4; have hfz34_5 := bf_ BK545.out 5; have hfz34_6 := bf_ BK545.out 6; have hfz34_7 := bf_ BK545.out 7; have hfz34_8 := bf_ BK545.out 8; have hcz35_0 : w33.cell? ⟨gb558, 0, none⟩ = some (.string t546) := (bc_ BK558.out 0).trans rfl; have hcz35_1 : w33.cell? ⟨gb558, 1, none⟩ = some (.string t547) := (bc_ BK558.out 1).trans rfl; have hcz35_2 : w33.cell? ⟨gb558, 2, none⟩ = some (.string t548) := (bc_ BK558.out 2).trans rfl; have hcz35_3 : w33.cell? ⟨gb558, 3, none⟩ = some (.int .u8 t549) := (bc_ BK558.out 3).trans rfl; have hcz35_4 : w33.cell? ⟨gb558, 4, none⟩ = some (.int .i64 t550) := (bc_ BK558.out 4).trans rfl; have hcz35_5 : w33.cell? ⟨gb558, 5, none⟩ = some (.int .i64 t551) := (bc_ BK558.out 5).trans rfl; have hcz35_6 : w33.cell? ⟨gb558, 6, none⟩ = some (.int .i64 t552) := (bc_ BK558.out 6).trans rfl; have hcz35_7 : w33.cell? ⟨gb558, 7, none⟩ = some (.int .i64 t553) := (bc_ BK558.out 7).trans rfl; have hcz35_8 : w33.cell? ⟨gb558, 8, none⟩ = some (.slice Ao26 t554.length co26) := (bc_ BK558.out 8).trans rfl; have hfz35_0 := bf_ BK558.out 0; have hfz35_1 := bf_ BK558.out 1; have hfz35_2 := bf_ BK558.out 2; have hfz35_3 := bf_ BK558.out 3; have hfz35_4 := bf_ BK558.out 4; have hfz35_5 := bf_ BK558.out 5; have hfz35_6 := bf_ BK558.out 6; have hfz35_7 := bf_ BK558.out 7; have hfz35_8 := bf_ BK558.out 8))
    go_meet
    case rel => exact ⟨_, ((t535.toList != t548.toList)), wr_, H', ⟨by have := HJ3.out; first | omega | exact Nat.le_refl _⟩, ⟨wV_ HO543.out⟩, ⟨wV_ HO556.out⟩, ⟨wB_ BK545.out⟩, ⟨wB_ BK558.out⟩, ⟨wb2_ HB.out GE545.out GE558.out⟩⟩
   case rest =>
    clear HC16
    try clear c1
    try clear c2
    try clear p2
    try clear c3
    try clear c6
    try clear c8
    try clear c11
    try clear c12
    try clear c23
    try clear c24
    try clear c26
    try clear c27
    try clear c27b0
    try clear c27b1
    try clear c27b2
    try clear c29
    try clear c30
    try clear c32
    try clear c36
    try clear hcz19_0
    try clear hcz19_1
    try clear hcz19_2
    try clear hcz19_3
    try clear hcz19_4
    try clear hcz19_5
    try clear hcz19_6
    try clear hcz19_7
    try clear hcz19_8
    try clear hcz25_0
    try clear hcz25_1
    try clear hcz25_2
    try clear hcz25_3
    try clear hcz25_4
    try clear hcz25_5
    try clear hcz25_6
    try clear hcz25_7
    try clear hcz25_8
    try clear hcz31_0
    try clear hcz31_1
    try clear hcz31_2
    try clear hcz31_3
    try clear hcz31_4
    try clear hcz31_5
    try clear hcz31_6
    try clear hcz31_7
    try clear hcz31_8
    try clear hcz32_0
    try clear hcz32_1
    try clear hcz32_2
    try clear hcz32_3
    try clear hcz32_4
    try clear hcz32_5
    try clear hcz32_6
    try clear hcz32_7
    try clear hcz32_8
    try clear hcz34_0
    try clear hcz34_1
    try clear hcz34_2
    try clear hcz34_3
    try clear hcz34_4
    try clear hcz34_5
    try clear hcz34_6
    try clear hcz34_7
    try clear hcz34_8
    try clear hcz35_0
    try clear hcz35_1
    try clear hcz35_2
    try clear hcz35_3
    try clear hcz35_4
    try clear hcz35_5
    try clear hcz35_6
    try clear hcz35_7
    try clear hcz35_8
    try clear hcz37_0
    try clear hcz37_1
    try clear hcz37_2
    try clear hcz37_3
    try clear hcz37_4
    try clear hcz37_5
    try clear hcz37_6
    try clear hcz37_7
    try clear hcz37_8
    try clear hcz38_0
    try clear hcz38_1
    try clear hcz38_2
    try clear hcz38_3
    try clear hcz38_4
    try clear hcz38_5
    try clear hcz38_6
    try clear hcz38_7
    try clear hcz38_8
    try clear hfz19_0
    try clear hfz19_1
    try clear hfz19_2
    try clear hfz19_3
    try clear hfz19_4
    try clear hfz19_5
    try clear hfz19_6
    try clear hfz19_7
    try clear hfz19_8
    try clear hfz25_0
    try clear hfz25_1
    try clear hfz25_2
    try clear hfz25_3
    try clear hfz25_4
    try clear hfz25_5
    try clear hfz25_6
    try clear hfz25_7
    try clear hfz25_8
    try clear hfz31_0
    try clear hfz31_1
    try clear hfz31_2
    try clear hfz31_3
    try clear hfz31_4
    try clear hfz31_5
    try clear hfz31_6
    try clear hfz31_7
    try clear hfz31_8
    try clear hfz32_0
    try clear hfz32_1
    try clear hfz32_2
    try clear hfz32_3
    try clear hfz32_4
    try clear hfz32_5
    try clear hfz32_6
    try clear hfz32_7
    try clear hfz32_8
    try clear hfz34_0
    try clear hfz34_1
    try clear hfz34_2
    try clear hfz34_3
    try clear hfz34_4
    try clear hfz34_5
    try clear hfz34_6
    try clear hfz34_7
    try clear hfz34_8
    try clear hfz35_0
    try clear hfz35_1
    try clear hfz35_2
    try clear hfz35_3
    try clear hfz35_4
    try clear hfz35_5
    try clear hfz35_6
    try clear hfz35_7
    try clear hfz35_8
    try clear hfz37_0
    try clear hfz37_1
    try clear hfz37_2
    try clear hfz37_3
    try clear hfz37_4
    try clear hfz37_5
    try clear hfz37_6
    try clear hfz37_7
    try clear hfz37_8
    try clear hfz38_0
    try clear hfz38_1
    try clear hfz38_2
    try clear hfz38_3
    try clear hfz38_4
    try clear hfz38_5
    try clear hfz38_6
    try clear hfz38_7
    try clear hfz38_8
    try clear p2
    obtain ⟨kq, x53_15, rfl, HA, HJ15, HO_546008, HO_559008, BK545, BK558, HB⟩ := hcut
    cases kq with
    | zero => exact absurd HA.out (by simp [bindlelaw10_TreeFinds.j1])
    | succ kj15 =>
     have H := HA.out
     clear HA
     simp only [bindlelaw10_TreeFinds.j1] at H
     by_cases c40 : x53_15 = true
     ·subst c40
      have H1 : (some false) = some r := by rw [if_pos rfl] at H; exact H
      clear H
      have H := H1
      clear H1
      obtain rfl := Option.some.inj H
      go_wp2
      go_ret
      exact ⟨we_, wb2_ HB.out GE545.out GE558.out⟩
     replace c40 := Bool.eq_false_iff.mpr c40
     subst c40
     have H1 : (bindlelaw10_TreeFinds.l0 kj15 l0 l1 0) = some r := by rw [if_neg (show ¬ (false = true) by decide)] at H; exact H
     clear H
     have H := H1
     clear H1
     have H' := A0_ H
     clear H
     go_wp2
     go_loopg [11] kj15 (fun kq v11 w' => ∃ (x11_3 : Int), v11 = .int .i64 x11_3 ∧ Aside0 (bindlelaw10_TreeFinds.l0 kq l0 l1 x11_3 = some r) ∧ Aside0 (kq ≤ kj15) ∧ Aside0 (Kd.V (Kd.int .u8) 5 w' w.heap.size (fun k_ => k_ ≠ gb545 ∧ k_ ≠ gb558) (.slice Ao20 t541.length co20) t541) ∧ Aside0 (Kd.V (Kd.int .u8) 5 w' w.heap.size (fun k_ => k_ ≠ gb545 ∧ k_ ≠ gb558) (.slice Ao26 t554.length co26) t554) ∧ Aside0 (w'.heap[gb545]? = some (.cells #[.string t533, .string t534, .string t535, .int .u8 t536, .int .i64 t537, .int .i64 t538, .int .i64 t539, .int .i64 t540, (.slice Ao20 t541.length co20)] 40 (0, 0))) ∧ Aside0 (w'.heap[gb558]? = some (.cells #[.string t546, .string t547, .string t548, .int .u8 t549, .int .i64 t550, .int .i64 t551, .int .i64 t552, .int .i64 t553, (.slice Ao26 t554.length co26)] 40 (0, 0))) ∧ Aside0 (Below w.heap.size w w'))
     case atStart => exact ⟨(0), wr_, H', ⟨Nat.le_refl _⟩, ⟨wV_ HO_546008.out⟩, ⟨wV_ HO_559008.out⟩, ⟨wB_ BK545.out⟩, ⟨wB_ BK558.out⟩, ⟨wb2_ HB.out GE545.out GE558.out⟩⟩
     case round =>
      clear H'
      try clear c1
      try clear c2
      try clear p2
      try clear c3
      try clear c4
      try clear c6
      try clear c8
      try clear c11
      try clear c12
      try clear c23
      try clear c24
      try clear c26
      try clear c27
      try clear c27b0
      try clear c27b1
      try clear c27b2
      try clear c29
      try clear c30
      try clear c32
      try clear c36
      try clear c40
      try clear hcz19_0
      try clear hcz19_1
      try clear hcz19_2
      try clear hcz19_3
      try clear hcz19_4
      try clear hcz19_5
      try clear hcz19_6
      try clear hcz19_7
      try clear hcz19_8
      try clear hcz25_0
      try clear hcz25_1
      try clear hcz25_2
      try clear hcz25_3
      try clear hcz25_4
      try clear hcz25_5
      try clear hcz25_6
      try clear hcz25_7
      try clear hcz25_8
      try clear hcz31_0
      try clear hcz31_1
      try clear hcz31_2
      try clear hcz31_3
      try clear hcz31_4
      try clear hcz31_5
      try clear hcz31_6
      try clear hcz31_7
      try clear hcz31_8
      try clear hcz32_0
      try clear hcz32_1
      try clear hcz32_2
      try clear hcz32_3
      try clear hcz32_4
      try clear hcz32_5
      try clear hcz32_6
      try clear hcz32_7
      try clear hcz32_8
      try clear hcz34_0
      try clear hcz34_1
      try clear hcz34_2
      try clear hcz34_3
      try clear hcz34_4
      try clear hcz34_5
      try clear hcz34_6
      try clear hcz34_7
      try clear hcz34_8
      try clear hcz35_0
      try clear hcz35_1
      try clear hcz35_2
      try clear hcz35_3
      try clear hcz35_4
      try clear hcz35_5
      try clear hcz35_6
      try clear hcz35_7
      try clear hcz35_8
      try clear hcz37_0
      try clear hcz37_1
      try clear hcz37_2
      try clear hcz37_3
      try clear hcz37_4
      try clear hcz37_5
      try clear hcz37_6
      try clear hcz37_7
      try clear hcz37_8
      try clear hcz38_0
      try clear hcz38_1
      try clear hcz38_2
      try clear hcz38_3
      try clear hcz38_4
      try clear hcz38_5
      try clear hcz38_6
      try clear hcz38_7
      try clear hcz38_8
      try clear hfz19_0
      try clear hfz19_1
      try clear hfz19_2
      try clear hfz19_3
      try clear hfz19_4
      try clear hfz19_5
      try clear hfz19_6
      try clear hfz19_7
      try clear hfz19_8
      try clear hfz25_0
      try clear hfz25_1
      try clear hfz25_2
      try clear hfz25_3
      try clear hfz25_4
      try clear hfz25_5
      try clear hfz25_6
      try clear hfz25_7
      try clear hfz25_8
      try clear hfz31_0
      try clear hfz31_1
      try clear hfz31_2
      try clear hfz31_3
      try clear hfz31_4
      try clear hfz31_5
      try clear hfz31_6
      try clear hfz31_7
      try clear hfz31_8
      try clear hfz32_0
      try clear hfz32_1
      try clear hfz32_2
      try clear hfz32_3
      try clear hfz32_4
      try clear hfz32_5
      try clear hfz32_6
      try clear hfz32_7
      try clear hfz32_8
      try clear hfz34_0
      try clear hfz34_1
      try clear hfz34_2
      try clear hfz34_3
      try clear hfz34_4
      try clear hfz34_5
      try clear hfz34_6
      try clear hfz34_7
      try clear hfz34_8
      try clear hfz35_0
      try clear hfz35_1
      try clear hfz35_2
      try clear hfz35_3
      try clear hfz35_4
      try clear hfz35_5
      try clear hfz35_6
      try clear hfz35_7
      try clear hfz35_8
      try clear hfz37_0
      try clear hfz37_1
      try clear hfz37_2
      try clear hfz37_3
      try clear hfz37_4
      try clear hfz37_5
      try clear hfz37_6
      try clear hfz37_7
      try clear hfz37_8
      try clear hfz38_0
      try clear hfz38_1
      try clear hfz38_2
      try clear hfz38_3
      try clear hfz38_4
      try clear hfz38_5
      try clear hfz38_6
      try clear hfz38_7
      try clear hfz38_8
      try clear p2
      obtain ⟨x11_3, rfl, HA, HK3, HO_546008, HO_559008, BK545, BK558, HB⟩ := hrel
      cases gk with
      | zero => exact absurd HA.out (by simp [bindlelaw10_TreeFinds.l0])
      | succ k3 =>
       have H := HA.out
       clear HA
       simp only [bindlelaw10_TreeFinds.l0] at H
       have HC41 := A0_ H
       clear H
       go_upto_region 8 with (fail)
       go_cut [63] (fun v63 wc => ∃ (kq : Nat) (x63_40 : Bool), v63 = .bool x63_40 ∧ Aside0 (bindlelaw10_TreeFinds.j3 kq l0 l1 x11_3 x63_40 = some r) ∧ Aside0 (kq ≤ k3) ∧ Aside0 (Kd.V (Kd.int .u8) 5 wc w.heap.size (fun k_ => k_ ≠ gb545 ∧ k_ ≠ gb558) (.slice Ao20 t541.length co20) t541) ∧ Aside0 (Kd.V (Kd.int .u8) 5 wc w.heap.size (fun k_ => k_ ≠ gb545 ∧ k_ ≠ gb558) (.slice Ao26 t554.length co26) t554) ∧ Aside0 (wc.heap[gb545]? = some (.cells #[.string t533, .string t534, .string t535, .int .u8 t536, .int .i64 t537, .int .i64 t538, .int .i64 t539, .int .i64 t540, (.slice Ao20 t541.length co20)] 40 (0, 0))) ∧ Aside0 (wc.heap[gb558]? = some (.cells #[.string t546, .string t547, .string t548, .int .u8 t549, .int .i64 t550, .int .i64 t551, .int .i64 t552, .int .i64 t553, (.slice Ao26 t554.length co26)] 40 (0, 0))) ∧ Aside0 (Below w.heap.size w wc))
       case first =>
        have H := HC41.out
        clear HC41
        by_cases c42 : x11_3 < (l0.length : Int)
        rotate_left
        ·rw [if_neg c42] at H
         have c42b0 : decide (x11_3 < (l0.length : Int)) = false := decide_eq_false c42
         clear c42
         (first | rw [c42b0] | (simp only [i64_w, i32_w]; rw [c42b0]) | skip)
         have H' := A0_ H
         clear H
         go_wp2
         go_meet
         case rel => exact ⟨_, (false), wr_, H', ⟨by have := HJ3.out; have := HJ15.out; have := HK3.out; first | omega | exact Nat.le_refl _⟩, ⟨wV_ HO_546008.out⟩, ⟨wV_ HO_559008.out⟩, ⟨wB_ BK545.out⟩, ⟨wB_ BK558.out⟩, ⟨wb2_ HB.out GE545.out GE558.out⟩⟩
        rw [if_pos c42] at H
        have c42b0 : decide (x11_3 < (l0.length : Int)) = true := decide_eq_true c42
        clear c42
        (first | rw [c42b0] | (simp only [i64_w, i32_w]; rw [c42b0]) | skip)
        have H' := A0_ H
        clear H
        go_wp2
        go_meet
        case rel => exact ⟨_, (decide (x11_3 < (l1.length : Int))), wr_, H', ⟨by have := HJ3.out; have := HJ15.out; have := HK3.out; first | omega | exact Nat.le_refl _⟩, ⟨wV_ HO_546008.out⟩, ⟨wV_ HO_559008.out⟩, ⟨wB_ BK545.out⟩, ⟨wB_ BK558.out⟩, ⟨wb2_ HB.out GE545.out GE558.out⟩⟩
       case rest =>
        clear HC41
        try clear c1
        try clear c2
        try clear p2
        try clear c3
        try clear c4
        try clear c6
        try clear c8
        try clear c11
        try clear c12
        try clear c23
        try clear c24
        try clear c26
        try clear c27
        try clear c27b0
        try clear c27b1
        try clear c27b2
        try clear c29
        try clear c30
        try clear c32
        try clear c36
        try clear c40
        try clear c42
        try clear c42b0
        try clear hcz19_0
        try clear hcz19_1
        try clear hcz19_2
        try clear hcz19_3
        try clear hcz19_4
        try clear hcz19_5
        try clear hcz19_6
        try clear hcz19_7
        try clear hcz19_8
        try clear hcz25_0
        try clear hcz25_1
        try clear hcz25_2
        try clear hcz25_3
        try clear hcz25_4
        try clear hcz25_5
        try clear hcz25_6
        try clear hcz25_7
        try clear hcz25_8
        try clear hcz31_0
        try clear hcz31_1
        try clear hcz31_2
        try clear hcz31_3
        try clear hcz31_4
        try clear hcz31_5
        try clear hcz31_6
        try clear hcz31_7
        try clear hcz31_8
        try clear hcz32_0
        try clear hcz32_1
        try clear hcz32_2
        try clear hcz32_3
        try clear hcz32_4
        try clear hcz32_5
        try clear hcz32_6
        try clear hcz32_7
        try clear hcz32_8
        try clear hcz34_0
        try clear hcz34_1
        try clear hcz34_2
        try clear hcz34_3
        try clear hcz34_4
        try clear hcz34_5
        try clear hcz34_6
        try clear hcz34_7
        try clear hcz34_8
        try clear hcz35_0
        try clear hcz35_1
        try clear hcz35_2
        try clear hcz35_3
        try clear hcz35_4
        try clear hcz35_5
        try clear hcz35_6
        try clear hcz35_7
        try clear hcz35_8
        try clear hcz37_0
        try clear hcz37_1
        try clear hcz37_2
        try clear hcz37_3
        try clear hcz37_4
        try clear hcz37_5
        try clear hcz37_6
        try clear hcz37_7
        try clear hcz37_8
        try clear hcz38_0
        try clear hcz38_1
        try clear hcz38_2
        try clear hcz38_3
        try clear hcz38_4
        try clear hcz38_5
        try clear hcz38_6
        try clear hcz38_7
        try clear hcz38_8
        try clear hfz19_0
        try clear hfz19_1
        try clear hfz19_2
        try clear hfz19_3
        try clear hfz19_4
        try clear hfz19_5
        try clear hfz19_6
        try clear hfz19_7
        try clear hfz19_8
        try clear hfz25_0
        try clear hfz25_1
        try clear hfz25_2
        try clear hfz25_3
        try clear hfz25_4
        try clear hfz25_5
        try clear hfz25_6
        try clear hfz25_7
        try clear hfz25_8
        try clear hfz31_0
        try clear hfz31_1
        try clear hfz31_2
        try clear hfz31_3
        try clear hfz31_4
        try clear hfz31_5
        try clear hfz31_6
        try clear hfz31_7
        try clear hfz31_8
        try clear hfz32_0
        try clear hfz32_1
        try clear hfz32_2
        try clear hfz32_3
        try clear hfz32_4
        try clear hfz32_5
        try clear hfz32_6
        try clear hfz32_7
        try clear hfz32_8
        try clear hfz34_0
        try clear hfz34_1
        try clear hfz34_2
        try clear hfz34_3
        try clear hfz34_4
        try clear hfz34_5
        try clear hfz34_6
        try clear hfz34_7
        try clear hfz34_8
        try clear hfz35_0
        try clear hfz35_1
        try clear hfz35_2
        try clear hfz35_3
        try clear hfz35_4
        try clear hfz35_5
        try clear hfz35_6
        try clear hfz35_7
        try clear hfz35_8
        try clear hfz37_0
        try clear hfz37_1
        try clear hfz37_2
        try clear hfz37_3
        try clear hfz37_4
        try clear hfz37_5
        try clear hfz37_6
        try clear hfz37_7
        try clear hfz37_8
        try clear hfz38_0
        try clear hfz38_1
        try clear hfz38_2
        try clear hfz38_3
        try clear hfz38_4
        try clear hfz38_5
        try clear hfz38_6
        try clear hfz38_7
        try clear hfz38_8
        try clear p2
        obtain ⟨kq, x63_40, rfl, HA, HJ40, HO_546008, HO_559008, BK545, BK558, HB⟩ := hcut
        cases kq with
        | zero => exact absurd HA.out (by simp [bindlelaw10_TreeFinds.j3])
        | succ kj40 =>
         have H := HA.out
         clear HA
         simp only [bindlelaw10_TreeFinds.j3] at H
         by_cases c43 : x63_40 = true
         rotate_left
         ·replace c43 := Bool.eq_false_iff.mpr c43
          subst c43
          have H1 : ((bindlelaw10_answers.f).bind fun t566 => (if t566 = true then ((tree_Same.f l0 l1).bind fun t567 => ((bindleref08_SameTree.f kj40 l0 l1).bind fun t568 => (if (t567 == t568) = true then ((bindleref08_OwnTree.f kj40 l0).bind fun t569 => ((tree_Same.f l0 t569).bind fun t572 => (some t572))) else (some false)))) else (some false))) = some r := by rw [if_neg (show ¬ (false = true) by decide)] at H; exact H
          clear H
          have H := H1
          clear H1
          replace H := Option.bind_eq_some_iff.mp H
          obtain ⟨t566, A560, H⟩ := H
          replace H : (if t566 = true then ((tree_Same.f l0 l1).bind fun t567 => ((bindleref08_SameTree.f kj40 l0 l1).bind fun t568 => (if (t567 == t568) = true then ((bindleref08_OwnTree.f kj40 l0).bind fun t569 => ((tree_Same.f l0 t569).bind fun t572 => (some t572))) else (some false)))) else (some false)) = some r := H
          have A56 := A0_ A560
          clear A560
          by_cases c57 : t566 = true
          rotate_left
          ·replace c57 := Bool.eq_false_iff.mpr c57
           subst c57
           have H1 : (some false) = some r := by rw [if_neg (show ¬ (false = true) by decide)] at H; exact H
           clear H
           have H := H1
           clear H1
           obtain rfl := Option.some.inj H
           go_wp2_with (first | ((with_reducible refine gate_callee (f := 26) rfl ?_); refine goesL_ (some 85) rfl rfl Tryd.func26 (by kernel_rfl) rfl #[] rfl wm_ ?_; (with_reducible refine (bindlelaw10_answers.calls  false _ ?side1 A56.out).mono ?_); (case side1 => exact A0_ (Tabs.below hT.out (wb2_ HB.out GE545.out GE558.out))); rintro e w72 ⟨rfl, hb⟩; refine ⟨_, rfl, ?_⟩; have n0_ := A0_ (Vb_ (wV_ HO_546008.out) hb); have n1_ := A0_ (Vb_ (wV_ HO_559008.out) hb); have n2_ := A0_ (blk_below (g := gb545) (o := .cells #[.string t533, .string t534, .string t535, .int .u8 t536, .int .i64 t537, .int .i64 t538, .int .i64 t539, .int .i64 t540, .slice Ao20 t541.length co20] 40 (0, 0)) (wB_ BK545.out) hb); have n3_ := A0_ (blk_below (g := gb558) (o := .cells #[.string t546, .string t547, .string t548, .int .u8 t549, .int .i64 t550, .int .i64 t551, .int .i64 t552, .int .i64 t553, .slice Ao26 t554.length co26] 40 (0, 0)) (wB_ BK558.out) hb); have n4_ := A0_ (below_step (wb2_ HB.out GE545.out GE558.out) hb); clear HO_546008; clear HO_559008; clear BK545; clear BK558; clear HB; have HO_546008 := n0_; have HO_559008 := n1_; have BK545 := n2_; have BK558 := n3_; have HB := n4_; clear n0_ n1_ n2_ n3_ n4_; (try clear hb); (try clear hb2); (try clear hk); (try clear hi)))
           go_ret
           exact ⟨we_, wb2_ HB.out GE545.out GE558.out⟩
          subst c57
          have H1 : ((tree_Same.f l0 l1).bind fun t567 => ((bindleref08_SameTree.f kj40 l0 l1).bind fun t568 => (if (t567 == t568) = true then ((bindleref08_OwnTree.f kj40 l0).bind fun t569 => ((tree_Same.f l0 t569).bind fun t572 => (some t572))) else (some false)))) = some r := by rw [if_pos rfl] at H; exact H
          clear H
          have H := H1
          clear H1
          replace H := Option.bind_eq_some_iff.mp H
          obtain ⟨t567, A580, H⟩ := H
          replace H : ((bindleref08_SameTree.f kj40 l0 l1).bind fun t568 => (if (t567 == t568) = true then ((bindleref08_OwnTree.f kj40 l0).bind fun t569 => ((tree_Same.f l0 t569).bind fun t572 => (some t572))) else (some false))) = some r := H
          have A58 := A0_ A580
          clear A580
          replace H := Option.bind_eq_some_iff.mp H
          obtain ⟨t568, A590, H⟩ := H
          replace H : (if (t567 == t568) = true then ((bindleref08_OwnTree.f kj40 l0).bind fun t569 => ((tree_Same.f l0 t569).bind fun t572 => (some t572))) else (some false)) = some r := H
          have A59 := A0_ A590
          clear A590
          by_cases c60 : (t567 == t568) = true
          rotate_left
          ·rw [if_neg c60] at H
           have c60b0 : (t567 == t568) = false := by simpa using c60
           (try (have c60b1 : decide (t567 = t568) = false := by simpa using c60))
           (try (have c60b2 : (t567 == t568) = false := by simpa using c60))
           (try (have c60b3 : ¬ (t567 = t568) := by simpa using c60))
           clear c60
           obtain rfl := Option.some.inj H
           go_wp2_with (first | ((with_reducible refine gate_callee (f := 26) rfl ?_); refine goesL_ (some 85) rfl rfl Tryd.func26 (by kernel_rfl) rfl #[] rfl wm_ ?_; (with_reducible refine (bindlelaw10_answers.calls  true _ ?side1 A56.out).mono ?_); (case side1 => exact A0_ (Tabs.below hT.out (wb2_ HB.out GE545.out GE558.out))); rintro e w69 ⟨rfl, hb⟩; refine ⟨_, rfl, ?_⟩; have n0_ := A0_ (Vb_ (wV_ HO_546008.out) hb); have n1_ := A0_ (Vb_ (wV_ HO_559008.out) hb); have n2_ := A0_ (blk_below (g := gb545) (o := .cells #[.string t533, .string t534, .string t535, .int .u8 t536, .int .i64 t537, .int .i64 t538, .int .i64 t539, .int .i64 t540, .slice Ao20 t541.length co20] 40 (0, 0)) (wB_ BK545.out) hb); have n3_ := A0_ (blk_below (g := gb558) (o := .cells #[.string t546, .string t547, .string t548, .int .u8 t549, .int .i64 t550, .int .i64 t551, .int .i64 t552, .int .i64 t553, .slice Ao26 t554.length co26] 40 (0, 0)) (wB_ BK558.out) hb); have n4_ := A0_ (below_step (wb2_ HB.out GE545.out GE558.out) hb); clear HO_546008; clear HO_559008; clear BK545; clear BK558; clear HB; have HO_546008 := n0_; have HO_559008 := n1_; have BK545 := n2_; have BK558 := n3_; have HB := n4_; clear n0_ n1_ n2_ n3_ n4_; (try clear hb); (try clear hb2); (try clear hk); (try clear hi)) | (go_at_call 38; (with_reducible refine (tree_Same.calls _ _ l0 _ _ l1 t567 _ ?side1 ?side2 ?side3 ?side4 A58.out).mono ?_); (case side1 => exact wc_ (Kd.C_below HR0.out HB.out)); (case side2 => exact HC0.out); (case side3 => exact wc_ (Kd.C_below HR1.out HB.out)); (case side4 => exact HC1.out); rintro e w70 ⟨rfl, hb⟩; have n0_ := A0_ (Vb_ (wV_ HO_546008.out) hb); have n1_ := A0_ (Vb_ (wV_ HO_559008.out) hb); have n2_ := A0_ (blk_below (g := gb545) (o := .cells #[.string t533, .string t534, .string t535, .int .u8 t536, .int .i64 t537, .int .i64 t538, .int .i64 t539, .int .i64 t540, .slice Ao20 t541.length co20] 40 (0, 0)) (wB_ BK545.out) hb); have n3_ := A0_ (blk_below (g := gb558) (o := .cells #[.string t546, .string t547, .string t548, .int .u8 t549, .int .i64 t550, .int .i64 t551, .int .i64 t552, .int .i64 t553, .slice Ao26 t554.length co26] 40 (0, 0)) (wB_ BK558.out) hb); have n4_ := A0_ (below_step (wb2_ HB.out GE545.out GE558.out) hb); clear HO_546008; clear HO_559008; clear BK545; clear BK558; clear HB; have HO_546008 := n0_; have HO_559008 := n1_; have BK545 := n2_; have BK558 := n3_; have HB := n4_; clear n0_ n1_ n2_ n3_ n4_; (try clear hb); (try clear hb2); (try clear hk); (try clear hi)) | (go_at_call 30; (with_reducible refine (bindleref08_SameTree.calls kj40 _ _ l0 _ _ l1 t568 _ ?side1 ?side2 ?side3 ?side4 A59.out).mono ?_); (case side1 => exact wc_ (Kd.C_below HR0.out HB.out)); (case side2 => exact HC0.out); (case side3 => exact wc_ (Kd.C_below HR1.out HB.out)); (case side4 => exact HC1.out); rintro e w71 ⟨rfl, hb⟩; have n0_ := A0_ (Vb_ (wV_ HO_546008.out) hb); have n1_ := A0_ (Vb_ (wV_ HO_559008.out) hb); have n2_ := A0_ (blk_below (g := gb545) (o := .cells #[.string t533, .string t534, .string t535, .int .u8 t536, .int .i64 t537, .int .i64 t538, .int .i64 t539, .int .i64 t540, .slice Ao20 t541.length co20] 40 (0, 0)) (wB_ BK545.out) hb); have n3_ := A0_ (blk_below (g := gb558) (o := .cells #[.string t546, .string t547, .string t548, .int .u8 t549, .int .i64 t550, .int .i64 t551, .int .i64 t552, .int .i64 t553, .slice Ao26 t554.length co26] 40 (0, 0)) (wB_ BK558.out) hb); have n4_ := A0_ (below_step (wb2_ HB.out GE545.out GE558.out) hb); clear HO_546008; clear HO_559008; clear BK545; clear BK558; clear HB; have HO_546008 := n0_; have HO_559008 := n1_; have BK545 := n2_; have BK558 := n3_; have HB := n4_; clear n0_ n1_ n2_ n3_ n4_; (try clear hb); (try clear hb2); (try clear hk); (try clear hi)))
           go_ret
           exact ⟨we_, wb2_ HB.out GE545.out GE558.out⟩
          rw [if_pos c60] at H
          have c60b0 : (t567 == t568) = true := c60
          (try (have c60b1 : decide (t567 = t568) = true := by simpa using c60))
          (try (have c60b2 : (t567 == t568) = true := by simpa using c60))
          clear c60
          replace H := Option.bind_eq_some_iff.mp H
          obtain ⟨t569, A610, H⟩ := H
          replace H : ((tree_Same.f l0 t569).bind fun t572 => (some t572)) = some r := H
          have A61 := A0_ A610
          clear A610
          replace H := Option.bind_eq_some_iff.mp H
          obtain ⟨t572, A620, H⟩ := H
          replace H : (some t572) = some r := H
          have A62 := A0_ A620
          clear A620
          obtain rfl := Option.some.inj H
          go_wp2_with (first | ((with_reducible refine gate_callee (f := 26) rfl ?_); refine goesL_ (some 85) rfl rfl Tryd.func26 (by kernel_rfl) rfl #[] rfl wm_ ?_; (with_reducible refine (bindlelaw10_answers.calls  true _ ?side1 A56.out).mono ?_); (case side1 => exact A0_ (Tabs.below hT.out (wb2_ HB.out GE545.out GE558.out))); rintro e w63 ⟨rfl, hb⟩; refine ⟨_, rfl, ?_⟩; have n0_ := A0_ (Vb_ (wV_ HO_546008.out) hb); have n1_ := A0_ (Vb_ (wV_ HO_559008.out) hb); have n2_ := A0_ (blk_below (g := gb545) (o := .cells #[.string t533, .string t534, .string t535, .int .u8 t536, .int .i64 t537, .int .i64 t538, .int .i64 t539, .int .i64 t540, .slice Ao20 t541.length co20] 40 (0, 0)) (wB_ BK545.out) hb); have n3_ := A0_ (blk_below (g := gb558) (o := .cells #[.string t546, .string t547, .string t548, .int .u8 t549, .int .i64 t550, .int .i64 t551, .int .i64 t552, .int .i64 t553, .slice Ao26 t554.length co26] 40 (0, 0)) (wB_ BK558.out) hb); have n4_ := A0_ (below_step (wb2_ HB.out GE545.out GE558.out) hb); clear HO_546008; clear HO_559008; clear BK545; clear BK558; clear HB; have HO_546008 := n0_; have HO_559008 := n1_; have BK545 := n2_; have BK558 := n3_; have HB := n4_; clear n0_ n1_ n2_ n3_ n4_; (try clear hb); (try clear hb2); (try clear hk); (try clear hi)) | (go_at_call 38; (with_reducible refine (tree_Same.calls _ _ l0 _ _ l1 t567 _ ?side1 ?side2 ?side3 ?side4 A58.out).mono ?_); (case side1 => exact wc_ (Kd.C_below HR0.out HB.out)); (case side2 => exact HC0.out); (case side3 => exact wc_ (Kd.C_below HR1.out HB.out)); (case side4 => exact HC1.out); rintro e w64 ⟨rfl, hb⟩; have n0_ := A0_ (Vb_ (wV_ HO_546008.out) hb); have n1_ := A0_ (Vb_ (wV_ HO_559008.out) hb); have n2_ := A0_ (blk_below (g := gb545) (o := .cells #[.string t533, .string t534, .string t535, .int .u8 t536, .int .i64 t537, .int .i64 t538, .int .i64 t539, .int .i64 t540, .slice Ao20 t541.length co20] 40 (0, 0)) (wB_ BK545.out) hb); have n3_ := A0_ (blk_below (g := gb558) (o := .cells #[.string t546, .string t547, .string t548, .int .u8 t549, .int .i64 t550, .int .i64 t551, .int .i64 t552, .int .i64 t553, .slice Ao26 t554.length co26] 40 (0, 0)) (wB_ BK558.out) hb); have n4_ := A0_ (below_step (wb2_ HB.out GE545.out GE558.out) hb); clear HO_546008; clear HO_559008; clear BK545; clear BK558; clear HB; have HO_546008 := n0_; have HO_559008 := n1_; have BK545 := n2_; have BK558 := n3_; have HB := n4_; clear n0_ n1_ n2_ n3_ n4_; (try clear hb); (try clear hb2); (try clear hk); (try clear hi)) | (go_at_call 30; (with_reducible refine (bindleref08_SameTree.calls kj40 _ _ l0 _ _ l1 t568 _ ?side1 ?side2 ?side3 ?side4 A59.out).mono ?_); (case side1 => exact wc_ (Kd.C_below HR0.out HB.out)); (case side2 => exact HC0.out); (case side3 => exact wc_ (Kd.C_below HR1.out HB.out)); (case side4 => exact HC1.out); rintro e w65 ⟨rfl, hb⟩; have n0_ := A0_ (Vb_ (wV_ HO_546008.out) hb); have n1_ := A0_ (Vb_ (wV_ HO_559008.out) hb); have n2_ := A0_ (blk_below (g := gb545) (o := .cells #[.string t533, .string t534, .string t535, .int .u8 t536, .int .i64 t537, .int .i64 t538, .int .i64 t539, .int .i64 t540, .slice Ao20 t541.length co20] 40 (0, 0)) (wB_ BK545.out) hb); have n3_ := A0_ (blk_below (g := gb558) (o := .cells #[.string t546, .string t547, .string t548, .int .u8 t549, .int .i64 t550, .int .i64 t551, .int .i64 t552, .int .i64 t553, .slice Ao26 t554.length co26] 40 (0, 0)) (wB_ BK558.out) hb); have n4_ := A0_ (below_step (wb2_ HB.out GE545.out GE558.out) hb); clear HO_546008; clear HO_559008; clear BK545; clear BK558; clear HB; have HO_546008 := n0_; have HO_559008 := n1_; have BK545 := n2_; have BK558 := n3_; have HB := n4_; clear n0_ n1_ n2_ n3_ n4_; (try clear hb); (try clear hb2); (try clear hk); (try clear hi)) | (go_at_call 18; (with_reducible refine (bindleref08_OwnTree.calls kj40 _ _ l0 t569 _ ?side1 ?side2 A61.out).mono ?_); (case side1 => exact wc_ (Kd.C_below HR0.out HB.out)); (case side2 => exact HC0.out); rintro e w66 ⟨v570, rfl, ho0, hb⟩; have n0_ := A0_ (Kd.V_elder' (wV_ HO_546008.out) (Kd.S_base ho0) hb); have n1_ := A0_ (Kd.V_elder' (wV_ HO_559008.out) (Kd.S_base ho0) hb); have n2_ := A0_ (Kd.S_lower (Kd.S_newB (Kd.S_newB ho0 (g := gb545) (o := .cells #[.string t533, .string t534, .string t535, .int .u8 t536, .int .i64 t537, .int .i64 t538, .int .i64 t539, .int .i64 t540, .slice Ao20 t541.length co20] 40 (0, 0)) (wB_ BK545.out)) (g := gb558) (o := .cells #[.string t546, .string t547, .string t548, .int .u8 t549, .int .i64 t550, .int .i64 t551, .int .i64 t552, .int .i64 t553, .slice Ao26 t554.length co26] 40 (0, 0)) (wB_ BK558.out)) (below_size (wb2_ HB.out GE545.out GE558.out))); have n3_ := A0_ (blk_below (g := gb545) (o := .cells #[.string t533, .string t534, .string t535, .int .u8 t536, .int .i64 t537, .int .i64 t538, .int .i64 t539, .int .i64 t540, .slice Ao20 t541.length co20] 40 (0, 0)) (wB_ BK545.out) hb); have n4_ := A0_ (blk_below (g := gb558) (o := .cells #[.string t546, .string t547, .string t548, .int .u8 t549, .int .i64 t550, .int .i64 t551, .int .i64 t552, .int .i64 t553, .slice Ao26 t554.length co26] 40 (0, 0)) (wB_ BK558.out) hb); have n5_ := A0_ (below_step (wb2_ HB.out GE545.out GE558.out) hb); clear HO_546008; clear HO_559008; clear BK545; clear BK558; clear HB; have HO_546008 := n0_; have HO_559008 := n1_; have HO571 := n2_; have BK545 := n3_; have BK558 := n4_; have HB := n5_; clear n0_ n1_ n2_ n3_ n4_ n5_; (try clear hb); (try clear hb2); (try clear hk); (try clear hi); (try clear ho0); obtain ⟨Ao67, co67, eo67⟩ := Kd.S_slice HO571.out; subst eo67) | (go_at_call 38; (with_reducible refine (tree_Same.calls _ _ l0 _ _ t569 t572 _ ?side1 ?side2 ?side3 ?side4 A62.out).mono ?_); (case side1 => exact wc_ (Kd.C_below HR0.out HB.out)); (case side2 => exact HC0.out); (case side3 => exact wc_ (Kd.S_reads' HO571.out).2.2); (case side4 => exact (Kd.S_reads' HO571.out).2.1); rintro e w68 ⟨rfl, hb⟩; have n0_ := A0_ (Vb_ (wV_ HO_546008.out) hb); have n1_ := A0_ (Vb_ (wV_ HO_559008.out) hb); have n2_ := A0_ (Sb_ (wS_ HO571.out) hb); have n3_ := A0_ (blk_below (g := gb545) (o := .cells #[.string t533, .string t534, .string t535, .int .u8 t536, .int .i64 t537, .int .i64 t538, .int .i64 t539, .int .i64 t540, .slice Ao20 t541.length co20] 40 (0, 0)) (wB_ BK545.out) hb); have n4_ := A0_ (blk_below (g := gb558) (o := .cells #[.string t546, .string t547, .string t548, .int .u8 t549, .int .i64 t550, .int .i64 t551, .int .i64 t552, .int .i64 t553, .slice Ao26 t554.length co26] 40 (0, 0)) (wB_ BK558.out) hb); have n5_ := A0_ (below_step (wb2_ HB.out GE545.out GE558.out) hb); clear HO_546008; clear HO_559008; clear HO571; clear BK545; clear BK558; clear HB; have HO_546008 := n0_; have HO_559008 := n1_; have HO571 := n2_; have BK545 := n3_; have BK558 := n4_; have HB := n5_; clear n0_ n1_ n2_ n3_ n4_ n5_; (try clear hb); (try clear hb2); (try clear hk); (try clear hi)))
          go_ret
          exact ⟨we_, wb2_ HB.out GE545.out GE558.out⟩
         subst c43
         have H1 : (if 0 ≤ x11_3 then (if x11_3 < (l0.length : Int) then (if x11_3 < (l1.length : Int) then ((tree_Equal.f ((rd_T40 l0 x11_3).f0) ((rd_T40 l0 x11_3).f1) ((rd_T40 l0 x11_3).f2) ((rd_T40 l0 x11_3).f3) ((rd_T40 l0 x11_3).f4.f0) ((rd_T40 l0 x11_3).f4.f1) ((rd_T40 l0 x11_3).f4.f2) ((rd_T40 l0 x11_3).f4.f3) ((rd_T40 l0 x11_3).f5) ((rd_T40 l1 x11_3).f0) ((rd_T40 l1 x11_3).f1) ((rd_T40 l1 x11_3).f2) ((rd_T40 l1 x11_3).f3) ((rd_T40 l1 x11_3).f4.f0) ((rd_T40 l1 x11_3).f4.f1) ((rd_T40 l1 x11_3).f4.f2) ((rd_T40 l1 x11_3).f4.f3) ((rd_T40 l1 x11_3).f5)).bind fun t562 => ((bindleref08_Equal.f ((rd_T40 l0 x11_3).f0) ((rd_T40 l0 x11_3).f1) ((rd_T40 l0 x11_3).f2) ((rd_T40 l0 x11_3).f3) ((rd_T40 l0 x11_3).f4.f0) ((rd_T40 l0 x11_3).f4.f1) ((rd_T40 l0 x11_3).f4.f2) ((rd_T40 l0 x11_3).f4.f3) ((rd_T40 l0 x11_3).f5) ((rd_T40 l1 x11_3).f0) ((rd_T40 l1 x11_3).f1) ((rd_T40 l1 x11_3).f2) ((rd_T40 l1 x11_3).f3) ((rd_T40 l1 x11_3).f4.f0) ((rd_T40 l1 x11_3).f4.f1) ((rd_T40 l1 x11_3).f4.f2) ((rd_T40 l1 x11_3).f4.f3) ((rd_T40 l1 x11_3).f5)).bind fun t565 => (if (t562 != t565) = true then (some false) else (bindlelaw10_TreeFinds.l0 kj40 l0 l1 (wrap64 (x11_3 + 1)))))) else (none)) else (none)) else (none)) = some r := by rw [if_pos rfl] at H; exact H
         clear H
         have H := H1
         clear H1
         by_cases c44 : 0 ≤ x11_3
         rotate_left
         ·rw [if_neg c44] at H
          exact absurd H (by simp)
         rw [if_pos c44] at H
         have c44b0 : decide (0 ≤ x11_3) = true := decide_eq_true c44
         clear c44
         by_cases c45 : x11_3 < (l0.length : Int)
         rotate_left
         ·rw [if_neg c45] at H
          exact absurd H (by simp)
         rw [if_pos c45] at H
         have c45b0 : decide (x11_3 < (l0.length : Int)) = true := decide_eq_true c45
         clear c45
         by_cases c46 : x11_3 < (l1.length : Int)
         rotate_left
         ·rw [if_neg c46] at H
          exact absurd H (by simp)
         rw [if_pos c46] at H
         have c46b0 : decide (x11_3 < (l1.length : Int)) = true := decide_eq_true c46
         clear c46
         replace H := Option.bind_eq_some_iff.mp H
         obtain ⟨t562, A470, H⟩ := H
         replace H : ((bindleref08_Equal.f ((rd_T40 l0 x11_3).f0) ((rd_T40 l0 x11_3).f1) ((rd_T40 l0 x11_3).f2) ((rd_T40 l0 x11_3).f3) ((rd_T40 l0 x11_3).f4.f0) ((rd_T40 l0 x11_3).f4.f1) ((rd_T40 l0 x11_3).f4.f2) ((rd_T40 l0 x11_3).f4.f3) ((rd_T40 l0 x11_3).f5) ((rd_T40 l1 x11_3).f0) ((rd_T40 l1 x11_3).f1) ((rd_T40 l1 x11_3).f2) ((rd_T40 l1 x11_3).f3) ((rd_T40 l1 x11_3).f4.f0) ((rd_T40 l1 x11_3).f4.f1) ((rd_T40 l1 x11_3).f4.f2) ((rd_T40 l1 x11_3).f4.f3) ((rd_T40 l1 x11_3).f5)).bind fun t565 => (if (t562 != t565) = true then (some false) else (bindlelaw10_TreeFinds.l0 kj40 l0 l1 (wrap64 (x11_3 + 1))))) = some r := H
         have A47 := A0_ A470
         clear A470
         replace H := Option.bind_eq_some_iff.mp H
         obtain ⟨t565, A480, H⟩ := H
         replace H : (if (t562 != t565) = true then (some false) else (bindlelaw10_TreeFinds.l0 kj40 l0 l1 (wrap64 (x11_3 + 1)))) = some r := H
         have A48 := A0_ A480
         clear A480
         by_cases c49 : (t562 != t565) = true
         ·rw [if_pos c49] at H
          have c49b0 : (t562 != t565) = true := c49
          (try (have c49b1 : decide (t562 = t565) = false := by simpa using c49))
          (try (have c49b2 : (t562 == t565) = false := by simpa using c49))
          (try (have c49b3 : ¬ (t562 = t565) := by simpa using c49))
          clear c49
          obtain rfl := Option.some.inj H
          try go_wp2
          have n0_ := A0_ (V1_ HO_546008.out)
          have n1_ := A0_ (V1_ HO_559008.out)
          have n2_ := A0_ (blk_drew BK545.out)
          have n3_ := A0_ (blk_drew BK558.out)
          have n4_ := A0_ (b1_ HB.out)
          clear HO_546008
          clear HO_559008
          clear BK545
          clear BK558
          clear HB
          have HO_546008 := n0_
          have HO_559008 := n1_
          have BK545 := n2_
          have BK558 := n3_
          have HB := n4_
          clear n0_ n1_ n2_ n3_ n4_
          have p560 : 0 ≤ (x11_3 : Int) := wd_
          have q560 : x11_3 < (l0.length : Int) := wd_
          obtain ⟨ad560, A560_8, c560_8, e560, hx560_0, hx560_1, hx560_2, hx560_3, hx560_4, hx560_5, hx560_6, hx560_7, hx560_8, hl560_8, hi560_8⟩ := at_T40 HR0.out x11_3 p560 q560
          have hw560_8 := hx560_8
          have hw560_7 := hx560_7
          have hw560_6 := hx560_6
          have hw560_5 := hx560_5
          have hw560_4 := hx560_4
          have hw560_3 := hx560_3
          have hw560_2 := hx560_2
          have hw560_1 := hx560_1
          have hw560_0 := hx560_0
          cases e560
          replace hx560_0 := (HB.out.cell (World.block_lt_of_cell? w _ hx560_0)).trans hx560_0
          replace hx560_1 := (HB.out.cell (World.block_lt_of_cell? w _ hx560_1)).trans hx560_1
          replace hx560_2 := (HB.out.cell (World.block_lt_of_cell? w _ hx560_2)).trans hx560_2
          replace hx560_3 := (HB.out.cell (World.block_lt_of_cell? w _ hx560_3)).trans hx560_3
          replace hx560_4 := (HB.out.cell (World.block_lt_of_cell? w _ hx560_4)).trans hx560_4
          replace hx560_5 := (HB.out.cell (World.block_lt_of_cell? w _ hx560_5)).trans hx560_5
          replace hx560_6 := (HB.out.cell (World.block_lt_of_cell? w _ hx560_6)).trans hx560_6
          replace hx560_7 := (HB.out.cell (World.block_lt_of_cell? w _ hx560_7)).trans hx560_7
          replace hx560_8 := (HB.out.cell (World.block_lt_of_cell? w _ hx560_8)).trans hx560_8
          have HR560_8 := A0_ hi560_8
          have HC560_8 := A0_ hl560_8
          clear hi560_8 hl560_8
          replace p560 := eq_true p560
          replace q560 := eq_true q560
          have p561 : 0 ≤ (x11_3 : Int) := wd_
          have q561 : x11_3 < (l1.length : Int) := wd_
          obtain ⟨ad561, A561_8, c561_8, e561, hx561_0, hx561_1, hx561_2, hx561_3, hx561_4, hx561_5, hx561_6, hx561_7, hx561_8, hl561_8, hi561_8⟩ := at_T40 HR1.out x11_3 p561 q561
          have hw561_8 := hx561_8
          have hw561_7 := hx561_7
          have hw561_6 := hx561_6
          have hw561_5 := hx561_5
          have hw561_4 := hx561_4
          have hw561_3 := hx561_3
          have hw561_2 := hx561_2
          have hw561_1 := hx561_1
          have hw561_0 := hx561_0
          cases e561
          replace hx561_0 := (HB.out.cell (World.block_lt_of_cell? w _ hx561_0)).trans hx561_0
          replace hx561_1 := (HB.out.cell (World.block_lt_of_cell? w _ hx561_1)).trans hx561_1
          replace hx561_2 := (HB.out.cell (World.block_lt_of_cell? w _ hx561_2)).trans hx561_2
          replace hx561_3 := (HB.out.cell (World.block_lt_of_cell? w _ hx561_3)).trans hx561_3
          replace hx561_4 := (HB.out.cell (World.block_lt_of_cell? w _ hx561_4)).trans hx561_4
          replace hx561_5 := (HB.out.cell (World.block_lt_of_cell? w _ hx561_5)).trans hx561_5
          replace hx561_6 := (HB.out.cell (World.block_lt_of_cell? w _ hx561_6)).trans hx561_6
          replace hx561_7 := (HB.out.cell (World.block_lt_of_cell? w _ hx561_7)).trans hx561_7
          replace hx561_8 := (HB.out.cell (World.block_lt_of_cell? w _ hx561_8)).trans hx561_8
          have HR561_8 := A0_ hi561_8
          have HC561_8 := A0_ hl561_8
          clear hi561_8 hl561_8
          replace p561 := eq_true p561
          replace q561 := eq_true q561
          have p563 : 0 ≤ (x11_3 : Int) := wd_
          have q563 : x11_3 < (l0.length : Int) := wd_
          obtain ⟨ad563, A563_8, c563_8, e563, hx563_0, hx563_1, hx563_2, hx563_3, hx563_4, hx563_5, hx563_6, hx563_7, hx563_8, hl563_8, hi563_8⟩ := at_T40 HR0.out x11_3 p563 q563
          have hw563_8 := hx563_8
          have hw563_7 := hx563_7
          have hw563_6 := hx563_6
          have hw563_5 := hx563_5
          have hw563_4 := hx563_4
          have hw563_3 := hx563_3
          have hw563_2 := hx563_2
          have hw563_1 := hx563_1
          have hw563_0 := hx563_0
          obtain rfl : ad560 = ad563 := (by injection e563)
          replace hx563_0 := (HB.out.cell (World.block_lt_of_cell? w _ hx563_0)).trans hx563_0
          replace hx563_1 := (HB.out.cell (World.block_lt_of_cell? w _ hx563_1)).trans hx563_1
          replace hx563_2 := (HB.out.cell (World.block_lt_of_cell? w _ hx563_2)).trans hx563_2
          replace hx563_3 := (HB.out.cell (World.block_lt_of_cell? w _ hx563_3)).trans hx563_3
          replace hx563_4 := (HB.out.cell (World.block_lt_of_cell? w _ hx563_4)).trans hx563_4
          replace hx563_5 := (HB.out.cell (World.block_lt_of_cell? w _ hx563_5)).trans hx563_5
          replace hx563_6 := (HB.out.cell (World.block_lt_of_cell? w _ hx563_6)).trans hx563_6
          replace hx563_7 := (HB.out.cell (World.block_lt_of_cell? w _ hx563_7)).trans hx563_7
          replace hx563_8 := (HB.out.cell (World.block_lt_of_cell? w _ hx563_8)).trans hx563_8
          have HR563_8 := A0_ hi563_8
          have HC563_8 := A0_ hl563_8
          clear hi563_8 hl563_8
          replace p563 := eq_true p563
          replace q563 := eq_true q563
          have ea_ := Option.some.inj (hx560_8.symm.trans hx563_8)
          injection ea_ with ea_ en_ ec_
          subst ea_
          subst ec_
          clear en_
          have p564 : 0 ≤ (x11_3 : Int) := wd_
          have q564 : x11_3 < (l1.length : Int) := wd_
          obtain ⟨ad564, A564_8, c564_8, e564, hx564_0, hx564_1, hx564_2, hx564_3, hx564_4, hx564_5, hx564_6, hx564_7, hx564_8, hl564_8, hi564_8⟩ := at_T40 HR1.out x11_3 p564 q564
          have hw564_8 := hx564_8
          have hw564_7 := hx564_7
          have hw564_6 := hx564_6
          have hw564_5 := hx564_5
          have hw564_4 := hx564_4
          have hw564_3 := hx564_3
          have hw564_2 := hx564_2
          have hw564_1 := hx564_1
          have hw564_0 := hx564_0
          obtain rfl : ad561 = ad564 := (by injection e564)
          replace hx564_0 := (HB.out.cell (World.block_lt_of_cell? w _ hx564_0)).trans hx564_0
          replace hx564_1 := (HB.out.cell (World.block_lt_of_cell? w _ hx564_1)).trans hx564_1
          replace hx564_2 := (HB.out.cell (World.block_lt_of_cell? w _ hx564_2)).trans hx564_2
          replace hx564_3 := (HB.out.cell (World.block_lt_of_cell? w _ hx564_3)).trans hx564_3
          replace hx564_4 := (HB.out.cell (World.block_lt_of_cell? w _ hx564_4)).trans hx564_4
          replace hx564_5 := (HB.out.cell (World.block_lt_of_cell? w _ hx564_5)).trans hx564_5
          replace hx564_6 := (HB.out.cell (World.block_lt_of_cell? w _ hx564_6)).trans hx564_6
          replace hx564_7 := (HB.out.cell (World.block_lt_of_cell? w _ hx564_7)).trans hx564_7
          replace hx564_8 := (HB.out.cell (World.block_lt_of_cell? w _ hx564_8)).trans hx564_8
          have HR564_8 := A0_ hi564_8
          have HC564_8 := A0_ hl564_8
          clear hi564_8 hl564_8
          replace p564 := eq_true p564
          replace q564 := eq_true q564
          have ea_ := Option.some.inj (hx561_8.symm.trans hx564_8)
          injection ea_ with ea_ en_ ec_
          subst ea_
          subst ec_
          clear en_
          refine start_ (n := 19) (S := fun w' => w'.cell? (ad560.add ((x11_3).toNat * 9)) = some (.string ((rd_T40 l0 x11_3).f0)) ∧ w'.cell? ⟨(ad560.add ((x11_3).toNat * 9)).block, (ad560.add ((x11_3).toNat * 9)).off + 1, none⟩ = some (.string ((rd_T40 l0 x11_3).f1)) ∧ w'.cell? ⟨(ad560.add ((x11_3).toNat * 9)).block, (ad560.add ((x11_3).toNat * 9)).off + 2, none⟩ = some (.string ((rd_T40 l0 x11_3).f2)) ∧ w'.cell? ⟨(ad560.add ((x11_3).toNat * 9)).block, (ad560.add ((x11_3).toNat * 9)).off + 3, none⟩ = some (.int .u8 ((rd_T40 l0 x11_3).f3)) ∧ w'.cell? ⟨(ad560.add ((x11_3).toNat * 9)).block, (ad560.add ((x11_3).toNat * 9)).off + 4, none⟩ = some (.int .i64 ((rd_T40 l0 x11_3).f4.f0)) ∧ w'.cell? ⟨(ad560.add ((x11_3).toNat * 9)).block, (ad560.add ((x11_3).toNat * 9)).off + 5, none⟩ = some (.int .i64 ((rd_T40 l0 x11_3).f4.f1)) ∧ w'.cell? ⟨(ad560.add ((x11_3).toNat * 9)).block, (ad560.add ((x11_3).toNat * 9)).off + 6, none⟩ = some (.int .i64 ((rd_T40 l0 x11_3).f4.f2)) ∧ w'.cell? ⟨(ad560.add ((x11_3).toNat * 9)).block, (ad560.add ((x11_3).toNat * 9)).off + 7, none⟩ = some (.int .i64 ((rd_T40 l0 x11_3).f4.f3)) ∧ w'.cell? ⟨(ad560.add ((x11_3).toNat * 9)).block, (ad560.add ((x11_3).toNat * 9)).off + 8, none⟩ = some (.slice A560_8 ((rd_T40 l0 x11_3).f5).length c560_8) ∧ w'.cell? (ad561.add ((x11_3).toNat * 9)) = some (.string ((rd_T40 l1 x11_3).f0)) ∧ w'.cell? ⟨(ad561.add ((x11_3).toNat * 9)).block, (ad561.add ((x11_3).toNat * 9)).off + 1, none⟩ = some (.string ((rd_T40 l1 x11_3).f1)) ∧ w'.cell? ⟨(ad561.add ((x11_3).toNat * 9)).block, (ad561.add ((x11_3).toNat * 9)).off + 2, none⟩ = some (.string ((rd_T40 l1 x11_3).f2)) ∧ w'.cell? ⟨(ad561.add ((x11_3).toNat * 9)).block, (ad561.add ((x11_3).toNat * 9)).off + 3, none⟩ = some (.int .u8 ((rd_T40 l1 x11_3).f3)) ∧ w'.cell? ⟨(ad561.add ((x11_3).toNat * 9)).block, (ad561.add ((x11_3).toNat * 9)).off + 4, none⟩ = some (.int .i64 ((rd_T40 l1 x11_3).f4.f0)) ∧ w'.cell? ⟨(ad561.add ((x11_3).toNat * 9)).block, (ad561.add ((x11_3).toNat * 9)).off + 5, none⟩ = some (.int .i64 ((rd_T40 l1 x11_3).f4.f1)) ∧ w'.cell? ⟨(ad561.add ((x11_3).toNat * 9)).block, (ad561.add ((x11_3).toNat * 9)).off + 6, none⟩ = some (.int .i64 ((rd_T40 l1 x11_3).f4.f2)) ∧ w'.cell? ⟨(ad561.add ((x11_3).toNat * 9)).block, (ad561.add ((x11_3).toNat * 9)).off + 7, none⟩ = some (.int .i64 ((rd_T40 l1 x11_3).f4.f3)) ∧ w'.cell? ⟨(ad561.add ((x11_3).toNat * 9)).block, (ad561.add ((x11_3).toNat * 9)).off + 8, none⟩ = some (.slice A561_8 ((rd_T40 l1 x11_3).f5).length c561_8) ∧ w'.cell? (ad560.add ((x11_3).toNat * 9)) = some (.string ((rd_T40 l0 x11_3).f0)) ∧ w'.cell? ⟨(ad560.add ((x11_3).toNat * 9)).block, (ad560.add ((x11_3).toNat * 9)).off + 1, none⟩ = some (.string ((rd_T40 l0 x11_3).f1)) ∧ w'.cell? ⟨(ad560.add ((x11_3).toNat * 9)).block, (ad560.add ((x11_3).toNat * 9)).off + 2, none⟩ = some (.string ((rd_T40 l0 x11_3).f2)) ∧ w'.cell? ⟨(ad560.add ((x11_3).toNat * 9)).block, (ad560.add ((x11_3).toNat * 9)).off + 3, none⟩ = some (.int .u8 ((rd_T40 l0 x11_3).f3)) ∧ w'.cell? ⟨(ad560.add ((x11_3).toNat * 9)).block, (ad560.add ((x11_3).toNat * 9)).off + 4, none⟩ = some (.int .i64 ((rd_T40 l0 x11_3).f4.f0)) ∧ w'.cell? ⟨(ad560.add ((x11_3).toNat * 9)).block, (ad560.add ((x11_3).toNat * 9)).off + 5, none⟩ = some (.int .i64 ((rd_T40 l0 x11_3).f4.f1)) ∧ w'.cell? ⟨(ad560.add ((x11_3).toNat * 9)).block, (ad560.add ((x11_3).toNat * 9)).off + 6, none⟩ = some (.int .i64 ((rd_T40 l0 x11_3).f4.f2)) ∧ w'.cell? ⟨(ad560.add ((x11_3).toNat * 9)).block, (ad560.add ((x11_3).toNat * 9)).off + 7, none⟩ = some (.int .i64 ((rd_T40 l0 x11_3).f4.f3)) ∧ w'.cell? ⟨(ad560.add ((x11_3).toNat * 9)).block, (ad560.add ((x11_3).toNat * 9)).off + 8, none⟩ = some (.slice A560_8 ((rd_T40 l0 x11_3).f5).length c560_8) ∧ w'.cell? (ad561.add ((x11_3).toNat * 9)) = some (.string ((rd_T40 l1 x11_3).f0)) ∧ w'.cell? ⟨(ad561.add ((x11_3).toNat * 9)).block, (ad561.add ((x11_3).toNat * 9)).off + 1, none⟩ = some (.string ((rd_T40 l1 x11_3).f1)) ∧ w'.cell? ⟨(ad561.add ((x11_3).toNat * 9)).block, (ad561.add ((x11_3).toNat * 9)).off + 2, none⟩ = some (.string ((rd_T40 l1 x11_3).f2)) ∧ w'.cell? ⟨(ad561.add ((x11_3).toNat * 9)).block, (ad561.add ((x11_3).toNat * 9)).off + 3, none⟩ = some (.int .u8 ((rd_T40 l1 x11_3).f3)) ∧ w'.cell? ⟨(ad561.add ((x11_3).toNat * 9)).block, (ad561.add ((x11_3).toNat * 9)).off + 4, none⟩ = some (.int .i64 ((rd_T40 l1 x11_3).f4.f0)) ∧ w'.cell? ⟨(ad561.add ((x11_3).toNat * 9)).block, (ad561.add ((x11_3).toNat * 9)).off + 5, none⟩ = some (.int .i64 ((rd_T40 l1 x11_3).f4.f1)) ∧ w'.cell? ⟨(ad561.add ((x11_3).toNat * 9)).block, (ad561.add ((x11_3).toNat * 9)).off + 6, none⟩ = some (.int .i64 ((rd_T40 l1 x11_3).f4.f2)) ∧ w'.cell? ⟨(ad561.add ((x11_3).toNat * 9)).block, (ad561.add ((x11_3).toNat * 9)).off + 7, none⟩ = some (.int .i64 ((rd_T40 l1 x11_3).f4.f3)) ∧ w'.cell? ⟨(ad561.add ((x11_3).toNat * 9)).block, (ad561.add ((x11_3).toNat * 9)).off + 8, none⟩ = some (.slice A561_8 ((rd_T40 l1 x11_3).f5).length c561_8)) (ds := []) q12_0 (by kernel_rfl) rfl rfl ⟨((HB.out.cell (World.block_lt_of_cell? w _ hw560_0)).trans hw560_0), ((HB.out.cell (World.block_lt_of_cell? w _ hw560_1)).trans hw560_1), ((HB.out.cell (World.block_lt_of_cell? w _ hw560_2)).trans hw560_2), ((HB.out.cell (World.block_lt_of_cell? w _ hw560_3)).trans hw560_3), ((HB.out.cell (World.block_lt_of_cell? w _ hw560_4)).trans hw560_4), ((HB.out.cell (World.block_lt_of_cell? w _ hw560_5)).trans hw560_5), ((HB.out.cell (World.block_lt_of_cell? w _ hw560_6)).trans hw560_6), ((HB.out.cell (World.block_lt_of_cell? w _ hw560_7)).trans hw560_7), ((HB.out.cell (World.block_lt_of_cell? w _ hw560_8)).trans hw560_8), ((HB.out.cell (World.block_lt_of_cell? w _ hw561_0)).trans hw561_0), ((HB.out.cell (World.block_lt_of_cell? w _ hw561_1)).trans hw561_1), ((HB.out.cell (World.block_lt_of_cell? w _ hw561_2)).trans hw561_2), ((HB.out.cell (World.block_lt_of_cell? w _ hw561_3)).trans hw561_3), ((HB.out.cell (World.block_lt_of_cell? w _ hw561_4)).trans hw561_4), ((HB.out.cell (World.block_lt_of_cell? w _ hw561_5)).trans hw561_5), ((HB.out.cell (World.block_lt_of_cell? w _ hw561_6)).trans hw561_6), ((HB.out.cell (World.block_lt_of_cell? w _ hw561_7)).trans hw561_7), ((HB.out.cell (World.block_lt_of_cell? w _ hw561_8)).trans hw561_8), ((HB.out.cell (World.block_lt_of_cell? w _ hw563_0)).trans hw563_0), ((HB.out.cell (World.block_lt_of_cell? w _ hw563_1)).trans hw563_1), ((HB.out.cell (World.block_lt_of_cell? w _ hw563_2)).trans hw563_2), ((HB.out.cell (World.block_lt_of_cell? w _ hw563_3)).trans hw563_3), ((HB.out.cell (World.block_lt_of_cell? w _ hw563_4)).trans hw563_4), ((HB.out.cell (World.block_lt_of_cell? w _ hw563_5)).trans hw563_5), ((HB.out.cell (World.block_lt_of_cell? w _ hw563_6)).trans hw563_6), ((HB.out.cell (World.block_lt_of_cell? w _ hw563_7)).trans hw563_7), ((HB.out.cell (World.block_lt_of_cell? w _ hw563_8)).trans hw563_8), ((HB.out.cell (World.block_lt_of_cell? w _ hw564_0)).trans hw564_0), ((HB.out.cell (World.block_lt_of_cell? w _ hw564_1)).trans hw564_1), ((HB.out.cell (World.block_lt_of_cell? w _ hw564_2)).trans hw564_2), ((HB.out.cell (World.block_lt_of_cell? w _ hw564_3)).trans hw564_3), ((HB.out.cell (World.block_lt_of_cell? w _ hw564_4)).trans hw564_4), ((HB.out.cell (World.block_lt_of_cell? w _ hw564_5)).trans hw564_5), ((HB.out.cell (World.block_lt_of_cell? w _ hw564_6)).trans hw564_6), ((HB.out.cell (World.block_lt_of_cell? w _ hw564_7)).trans hw564_7), ((HB.out.cell (World.block_lt_of_cell? w _ hw564_8)).trans hw564_8)⟩ (fun hHeld => ?_); refine with_tabW bindlelaw10_TreeFinds.tab10 bindlelaw10_TreeFinds.bits10 (fun HT_ HW_ => ?_)
          generalize wc.drew = w50 at HO_546008 HO_559008 BK545 BK558 HB HR560_8 HR561_8 HR563_8 HR564_8 hx560_0 hx560_1 hx560_2 hx560_3 hx560_4 hx560_5 hx560_6 hx560_7 hx560_8 hx561_0 hx561_1 hx561_2 hx561_3 hx561_4 hx561_5 hx561_6 hx561_7 hx561_8 hx563_0 hx563_1 hx563_2 hx563_3 hx563_4 hx563_5 hx563_6 hx563_7 hx563_8 hx564_0 hx564_1 hx564_2 hx564_3 hx564_4 hx564_5 hx564_6 hx564_7 hx564_8 hHeld ⊢
          refine pur_ (i := 0) (N := some 66) q12_1 (any_of HT_.out (by kernel_rfl)) ?_
          refine pur_ (i := 1) (N := some 67) q12_2 (any_of HT_.out (by kernel_rfl)) ?_
          refine pur_ (i := 2) (N := some 68) q12_3 (any_of HT_.out (by kernel_rfl)) ?_
          refine pur_ (i := 4) (N := some 70) q12_4 (any_of HT_.out (by kernel_rfl)) ?_
          refine pur_ (i := 5) (N := some 71) q12_5 (any_of HT_.out (by kernel_rfl)) ?_
          refine pur_ (i := 6) (N := some 72) q12_6 (any_of HT_.out (by kernel_rfl)) ?_
          refine pur_ (i := 9) (N := some 75) q12_7 (any_of HT_.out (by kernel_rfl)) ?_
          refine pur_ (i := 10) (N := some 76) q12_8 (any_of HT_.out (by kernel_rfl)) ?_
          refine pur_ (i := 11) (N := some 77) q12_9 (any_of HT_.out (by kernel_rfl)) ?_
          refine pur_ (i := 13) (N := some 79) q12_10 (any_of HT_.out (by kernel_rfl)) ?_
          refine pur_ (i := 14) (N := some 80) q12_11 (any_of HT_.out (by kernel_rfl)) ?_
          refine pur_ (i := 15) (N := some 81) q12_12 (any_of HT_.out (by kernel_rfl)) ?_
          refine take_ (i := 3) (N := some 69) (v := ?_) (a' := ?_) q12_13 rfl rfl (take_ofW HT_.out HW_.out (by kernel_rfl)) (fun _ _ _ h => h) (Or.inl ⟨by rfl, ?_⟩) hHeld ?_ ?_
          rotate_left
          ·rintro w' ⟨s0, s1, s2, s3, s4, s5, s6, s7, s8, s9, s10, s11, s12, s13, s14, s15, s16, s17, s18, s19, s20, s21, s22, s23, s24, s25, s26, s27, s28, s29, s30, s31, s32, s33, s34, s35⟩
           go_simp
           with_reducible rfl
          rotate_left
          ·simp only [Act.put, List.setIfInBounds_toArray, List.set_cons_zero, List.set_cons_succ, i64_w, i32_w]
           rfl
          refine take_ (i := 7) (N := some 73) (v := ?_) (a' := ?_) q12_14 rfl rfl (take_ofW HT_.out HW_.out (by kernel_rfl)) (fun _ _ _ h => h) (Or.inl ⟨by rfl, ?_⟩) hHeld ?_ ?_
          rotate_left
          ·rintro w' ⟨s0, s1, s2, s3, s4, s5, s6, s7, s8, s9, s10, s11, s12, s13, s14, s15, s16, s17, s18, s19, s20, s21, s22, s23, s24, s25, s26, s27, s28, s29, s30, s31, s32, s33, s34, s35⟩
           go_simp
           with_reducible rfl
          rotate_left
          ·simp only [Act.put, List.setIfInBounds_toArray, List.set_cons_zero, List.set_cons_succ, i64_w, i32_w]
           rfl
          refine take_ (i := 12) (N := some 78) (v := ?_) (a' := ?_) q12_15 rfl rfl (take_ofW HT_.out HW_.out (by kernel_rfl)) (fun _ _ _ h => h) (Or.inl ⟨by rfl, ?_⟩) hHeld ?_ ?_
          rotate_left
          ·rintro w' ⟨s0, s1, s2, s3, s4, s5, s6, s7, s8, s9, s10, s11, s12, s13, s14, s15, s16, s17, s18, s19, s20, s21, s22, s23, s24, s25, s26, s27, s28, s29, s30, s31, s32, s33, s34, s35⟩
           go_simp
           with_reducible rfl
          rotate_left
          ·simp only [Act.put, List.setIfInBounds_toArray, List.set_cons_zero, List.set_cons_succ, i64_w, i32_w]
           rfl
          refine take_ (i := 16) (N := some 82) (v := ?_) (a' := ?_) q12_16 rfl rfl (take_ofW HT_.out HW_.out (by kernel_rfl)) (fun _ _ _ h => h) (Or.inl ⟨by rfl, ?_⟩) hHeld ?_ ?_
          rotate_left
          ·rintro w' ⟨s0, s1, s2, s3, s4, s5, s6, s7, s8, s9, s10, s11, s12, s13, s14, s15, s16, s17, s18, s19, s20, s21, s22, s23, s24, s25, s26, s27, s28, s29, s30, s31, s32, s33, s34, s35⟩
           go_simp
           with_reducible rfl
          rotate_left
          ·simp only [Act.put, List.setIfInBounds_toArray, List.set_cons_zero, List.set_cons_succ, i64_w, i32_w]
           rfl
          refine one_ (i := 8) (N := some 74) q12_17 rfl rfl (one_of HT_.out (by kernel_rfl)) (by decide) (fun K hK => ?_)
          refine goes_ Tryd.func37 (by kernel_rfl) rfl #[.agg #[.string ((rd_T40 l0 x11_3).f0), .string ((rd_T40 l0 x11_3).f1), .string ((rd_T40 l0 x11_3).f2), .int .u8 ((rd_T40 l0 x11_3).f3), .int .i64 ((rd_T40 l0 x11_3).f4.f0), .int .i64 ((rd_T40 l0 x11_3).f4.f1), .int .i64 ((rd_T40 l0 x11_3).f4.f2), .int .i64 ((rd_T40 l0 x11_3).f4.f3), .slice A560_8 ((rd_T40 l0 x11_3).f5).length c560_8], .agg #[.string ((rd_T40 l1 x11_3).f0), .string ((rd_T40 l1 x11_3).f1), .string ((rd_T40 l1 x11_3).f2), .int .u8 ((rd_T40 l1 x11_3).f3), .int .i64 ((rd_T40 l1 x11_3).f4.f0), .int .i64 ((rd_T40 l1 x11_3).f4.f1), .int .i64 ((rd_T40 l1 x11_3).f4.f2), .int .i64 ((rd_T40 l1 x11_3).f4.f3), .slice A561_8 ((rd_T40 l1 x11_3).f5).length c561_8]] (by rfl) rfl rfl wm_ ?_
          with_reducible refine (tree_Equal.calls ((rd_T40 l0 x11_3).f0) ((rd_T40 l0 x11_3).f1) ((rd_T40 l0 x11_3).f2) ((rd_T40 l0 x11_3).f3) ((rd_T40 l0 x11_3).f4.f0) ((rd_T40 l0 x11_3).f4.f1) ((rd_T40 l0 x11_3).f4.f2) ((rd_T40 l0 x11_3).f4.f3) _ _ ((rd_T40 l0 x11_3).f5) ((rd_T40 l1 x11_3).f0) ((rd_T40 l1 x11_3).f1) ((rd_T40 l1 x11_3).f2) ((rd_T40 l1 x11_3).f3) ((rd_T40 l1 x11_3).f4.f0) ((rd_T40 l1 x11_3).f4.f1) ((rd_T40 l1 x11_3).f4.f2) ((rd_T40 l1 x11_3).f4.f3) _ _ ((rd_T40 l1 x11_3).f5) t562 _ ?side1 ?side2 ?side3 ?side4 A47.out).mono ?_
          (case side1 => exact wc_ (Kd.C_below HR560_8.out HB.out))
          (case side2 => exact HC560_8.out)
          (case side3 => exact wc_ (Kd.C_below HR561_8.out HB.out))
          (case side4 => exact HC561_8.out)
          rintro e w51 ⟨rfl, hb⟩
          refine ⟨_, rfl, ?_⟩
          have n0_ := A0_ (Vb_ (wV_ HO_546008.out) hb)
          have n1_ := A0_ (Vb_ (wV_ HO_559008.out) hb)
          have n2_ := A0_ (blk_below (g := gb545) (o := .cells #[.string t533, .string t534, .string t535, .int .u8 t536, .int .i64 t537, .int .i64 t538, .int .i64 t539, .int .i64 t540, .slice Ao20 t541.length co20] 40 (0, 0)) (wB_ BK545.out) hb)
          have n3_ := A0_ (blk_below (g := gb558) (o := .cells #[.string t546, .string t547, .string t548, .int .u8 t549, .int .i64 t550, .int .i64 t551, .int .i64 t552, .int .i64 t553, .slice Ao26 t554.length co26] 40 (0, 0)) (wB_ BK558.out) hb)
          have n4_ := A0_ (below_step (wb2_ HB.out GE545.out GE558.out) hb)
          clear HO_546008
          clear HO_559008
          clear BK545
          clear BK558
          clear HB
          have HO_546008 := n0_
          have HO_559008 := n1_
          have BK545 := n2_
          have BK558 := n3_
          have HB := n4_
          clear n0_ n1_ n2_ n3_ n4_
          (try clear hb)
          (try clear hb2)
          (try clear hk)
          (try clear hi)
          refine hK.out _ _ ⟨((HB.out.cell (World.block_lt_of_cell? w _ hw560_0)).trans hw560_0), ((HB.out.cell (World.block_lt_of_cell? w _ hw560_1)).trans hw560_1), ((HB.out.cell (World.block_lt_of_cell? w _ hw560_2)).trans hw560_2), ((HB.out.cell (World.block_lt_of_cell? w _ hw560_3)).trans hw560_3), ((HB.out.cell (World.block_lt_of_cell? w _ hw560_4)).trans hw560_4), ((HB.out.cell (World.block_lt_of_cell? w _ hw560_5)).trans hw560_5), ((HB.out.cell (World.block_lt_of_cell? w _ hw560_6)).trans hw560_6), ((HB.out.cell (World.block_lt_of_cell? w _ hw560_7)).trans hw560_7), ((HB.out.cell (World.block_lt_of_cell? w _ hw560_8)).trans hw560_8), ((HB.out.cell (World.block_lt_of_cell? w _ hw561_0)).trans hw561_0), ((HB.out.cell (World.block_lt_of_cell? w _ hw561_1)).trans hw561_1), ((HB.out.cell (World.block_lt_of_cell? w _ hw561_2)).trans hw561_2), ((HB.out.cell (World.block_lt_of_cell? w _ hw561_3)).trans hw561_3), ((HB.out.cell (World.block_lt_of_cell? w _ hw561_4)).trans hw561_4), ((HB.out.cell (World.block_lt_of_cell? w _ hw561_5)).trans hw561_5), ((HB.out.cell (World.block_lt_of_cell? w _ hw561_6)).trans hw561_6), ((HB.out.cell (World.block_lt_of_cell? w _ hw561_7)).trans hw561_7), ((HB.out.cell (World.block_lt_of_cell? w _ hw561_8)).trans hw561_8), ((HB.out.cell (World.block_lt_of_cell? w _ hw563_0)).trans hw563_0), ((HB.out.cell (World.block_lt_of_cell? w _ hw563_1)).trans hw563_1), ((HB.out.cell (World.block_lt_of_cell? w _ hw563_2)).trans hw563_2), ((HB.out.cell (World.block_lt_of_cell? w _ hw563_3)).trans hw563_3), ((HB.out.cell (World.block_lt_of_cell? w _ hw563_4)).trans hw563_4), ((HB.out.cell (World.block_lt_of_cell? w _ hw563_5)).trans hw563_5), ((HB.out.cell (World.block_lt_of_cell? w _ hw563_6)).trans hw563_6), ((HB.out.cell (World.block_lt_of_cell? w _ hw563_7)).trans hw563_7), ((HB.out.cell (World.block_lt_of_cell? w _ hw563_8)).trans hw563_8), ((HB.out.cell (World.block_lt_of_cell? w _ hw564_0)).trans hw564_0), ((HB.out.cell (World.block_lt_of_cell? w _ hw564_1)).trans hw564_1), ((HB.out.cell (World.block_lt_of_cell? w _ hw564_2)).trans hw564_2), ((HB.out.cell (World.block_lt_of_cell? w _ hw564_3)).trans hw564_3), ((HB.out.cell (World.block_lt_of_cell? w _ hw564_4)).trans hw564_4), ((HB.out.cell (World.block_lt_of_cell? w _ hw564_5)).trans hw564_5), ((HB.out.cell (World.block_lt_of_cell? w _ hw564_6)).trans hw564_6), ((HB.out.cell (World.block_lt_of_cell? w _ hw564_7)).trans hw564_7), ((HB.out.cell (World.block_lt_of_cell? w _ hw564_8)).trans hw564_8)⟩ (fun hHeld => ?_)
          clear hK K
          refine norm_ (a' := ?_) ?_ ?_
          rotate_left
          ·show Act.put _ (some 74) _ = _
           simp only [Act.put, List.setIfInBounds_toArray, List.set_cons_zero, List.set_cons_succ, i64_w, i32_w]
           rfl
          refine one_ (i := 17) (N := some 83) q12_18 rfl rfl (one_of HT_.out (by kernel_rfl)) (by decide) (fun K hK => ?_)
          refine goes_ Tryd.func35 (by kernel_rfl) rfl #[.agg #[.string ((rd_T40 l0 x11_3).f0), .string ((rd_T40 l0 x11_3).f1), .string ((rd_T40 l0 x11_3).f2), .int .u8 ((rd_T40 l0 x11_3).f3), .int .i64 ((rd_T40 l0 x11_3).f4.f0), .int .i64 ((rd_T40 l0 x11_3).f4.f1), .int .i64 ((rd_T40 l0 x11_3).f4.f2), .int .i64 ((rd_T40 l0 x11_3).f4.f3), .slice A560_8 ((rd_T40 l0 x11_3).f5).length c560_8], .agg #[.string ((rd_T40 l1 x11_3).f0), .string ((rd_T40 l1 x11_3).f1), .string ((rd_T40 l1 x11_3).f2), .int .u8 ((rd_T40 l1 x11_3).f3), .int .i64 ((rd_T40 l1 x11_3).f4.f0), .int .i64 ((rd_T40 l1 x11_3).f4.f1), .int .i64 ((rd_T40 l1 x11_3).f4.f2), .int .i64 ((rd_T40 l1 x11_3).f4.f3), .slice A561_8 ((rd_T40 l1 x11_3).f5).length c561_8]] (by rfl) rfl rfl wm_ ?_
          with_reducible refine (bindleref08_Equal.calls ((rd_T40 l0 x11_3).f0) ((rd_T40 l0 x11_3).f1) ((rd_T40 l0 x11_3).f2) ((rd_T40 l0 x11_3).f3) ((rd_T40 l0 x11_3).f4.f0) ((rd_T40 l0 x11_3).f4.f1) ((rd_T40 l0 x11_3).f4.f2) ((rd_T40 l0 x11_3).f4.f3) _ _ ((rd_T40 l0 x11_3).f5) ((rd_T40 l1 x11_3).f0) ((rd_T40 l1 x11_3).f1) ((rd_T40 l1 x11_3).f2) ((rd_T40 l1 x11_3).f3) ((rd_T40 l1 x11_3).f4.f0) ((rd_T40 l1 x11_3).f4.f1) ((rd_T40 l1 x11_3).f4.f2) ((rd_T40 l1 x11_3).f4.f3) _ _ ((rd_T40 l1 x11_3).f5) t565 _ ?side1 ?side2 ?side3 ?side4 A48.out).mono ?_
          (case side1 => exact wc_ (Kd.C_below HR563_8.out HB.out))
          (case side2 => exact HC563_8.out)
          (case side3 => exact wc_ (Kd.C_below HR564_8.out HB.out))
          (case side4 => exact HC564_8.out)
          rintro e w52 ⟨rfl, hb⟩
          refine ⟨_, rfl, ?_⟩
          have n0_ := A0_ (Vb_ (wV_ HO_546008.out) hb)
          have n1_ := A0_ (Vb_ (wV_ HO_559008.out) hb)
          have n2_ := A0_ (blk_below (g := gb545) (o := .cells #[.string t533, .string t534, .string t535, .int .u8 t536, .int .i64 t537, .int .i64 t538, .int .i64 t539, .int .i64 t540, .slice Ao20 t541.length co20] 40 (0, 0)) (wB_ BK545.out) hb)
          have n3_ := A0_ (blk_below (g := gb558) (o := .cells #[.string t546, .string t547, .string t548, .int .u8 t549, .int .i64 t550, .int .i64 t551, .int .i64 t552, .int .i64 t553, .slice Ao26 t554.length co26] 40 (0, 0)) (wB_ BK558.out) hb)
          have n4_ := A0_ (below_step (wb2_ HB.out GE545.out GE558.out) hb)
          clear HO_546008
          clear HO_559008
          clear BK545
          clear BK558
          clear HB
          have HO_546008 := n0_
          have HO_559008 := n1_
          have BK545 := n2_
          have BK558 := n3_
          have HB := n4_
          clear n0_ n1_ n2_ n3_ n4_
          (try clear hb)
          (try clear hb2)
          (try clear hk)
          (try clear hi)
          refine hK.out _ _ ⟨((HB.out.cell (World.block_lt_of_cell? w _ hw560_0)).trans hw560_0), ((HB.out.cell (World.block_lt_of_cell? w _ hw560_1)).trans hw560_1), ((HB.out.cell (World.block_lt_of_cell? w _ hw560_2)).trans hw560_2), ((HB.out.cell (World.block_lt_of_cell? w _ hw560_3)).trans hw560_3), ((HB.out.cell (World.block_lt_of_cell? w _ hw560_4)).trans hw560_4), ((HB.out.cell (World.block_lt_of_cell? w _ hw560_5)).trans hw560_5), ((HB.out.cell (World.block_lt_of_cell? w _ hw560_6)).trans hw560_6), ((HB.out.cell (World.block_lt_of_cell? w _ hw560_7)).trans hw560_7), ((HB.out.cell (World.block_lt_of_cell? w _ hw560_8)).trans hw560_8), ((HB.out.cell (World.block_lt_of_cell? w _ hw561_0)).trans hw561_0), ((HB.out.cell (World.block_lt_of_cell? w _ hw561_1)).trans hw561_1), ((HB.out.cell (World.block_lt_of_cell? w _ hw561_2)).trans hw561_2), ((HB.out.cell (World.block_lt_of_cell? w _ hw561_3)).trans hw561_3), ((HB.out.cell (World.block_lt_of_cell? w _ hw561_4)).trans hw561_4), ((HB.out.cell (World.block_lt_of_cell? w _ hw561_5)).trans hw561_5), ((HB.out.cell (World.block_lt_of_cell? w _ hw561_6)).trans hw561_6), ((HB.out.cell (World.block_lt_of_cell? w _ hw561_7)).trans hw561_7), ((HB.out.cell (World.block_lt_of_cell? w _ hw561_8)).trans hw561_8), ((HB.out.cell (World.block_lt_of_cell? w _ hw563_0)).trans hw563_0), ((HB.out.cell (World.block_lt_of_cell? w _ hw563_1)).trans hw563_1), ((HB.out.cell (World.block_lt_of_cell? w _ hw563_2)).trans hw563_2), ((HB.out.cell (World.block_lt_of_cell? w _ hw563_3)).trans hw563_3), ((HB.out.cell (World.block_lt_of_cell? w _ hw563_4)).trans hw563_4), ((HB.out.cell (World.block_lt_of_cell? w _ hw563_5)).trans hw563_5), ((HB.out.cell (World.block_lt_of_cell? w _ hw563_6)).trans hw563_6), ((HB.out.cell (World.block_lt_of_cell? w _ hw563_7)).trans hw563_7), ((HB.out.cell (World.block_lt_of_cell? w _ hw563_8)).trans hw563_8), ((HB.out.cell (World.block_lt_of_cell? w _ hw564_0)).trans hw564_0), ((HB.out.cell (World.block_lt_of_cell? w _ hw564_1)).trans hw564_1), ((HB.out.cell (World.block_lt_of_cell? w _ hw564_2)).trans hw564_2), ((HB.out.cell (World.block_lt_of_cell? w _ hw564_3)).trans hw564_3), ((HB.out.cell (World.block_lt_of_cell? w _ hw564_4)).trans hw564_4), ((HB.out.cell (World.block_lt_of_cell? w _ hw564_5)).trans hw564_5), ((HB.out.cell (World.block_lt_of_cell? w _ hw564_6)).trans hw564_6), ((HB.out.cell (World.block_lt_of_cell? w _ hw564_7)).trans hw564_7), ((HB.out.cell (World.block_lt_of_cell? w _ hw564_8)).trans hw564_8)⟩ (fun hHeld => ?_)
          clear hK K
          refine norm_ (a' := ?_) ?_ ?_
          rotate_left
          ·show Act.put _ (some 83) _ = _
           simp only [Act.put, List.setIfInBounds_toArray, List.set_cons_zero, List.set_cons_succ, i64_w, i32_w]
           rfl
          refine pur_ (i := 18) (N := some 84) q12_19 (any_of HT_.out (by kernel_rfl)) ?_
          refine done_ (done_of HT_.out (by kernel_rfl)) ?_
          try go_wp2
          go_ret
          exact ⟨we_, wb2_ HB.out GE545.out GE558.out⟩
         rw [if_neg c49] at H
         have c49b0 : (t562 != t565) = false := by simpa using c49
         (try (have c49b1 : decide (t562 = t565) = true := by simpa using c49))
         (try (have c49b2 : (t562 == t565) = true := by simpa using c49))
         clear c49
         have H' := A0_ H
         clear H
         try go_wp2
         have n0_ := A0_ (V1_ HO_546008.out)
         have n1_ := A0_ (V1_ HO_559008.out)
         have n2_ := A0_ (blk_drew BK545.out)
         have n3_ := A0_ (blk_drew BK558.out)
         have n4_ := A0_ (b1_ HB.out)
         clear HO_546008
         clear HO_559008
         clear BK545
         clear BK558
         clear HB
         have HO_546008 := n0_
         have HO_559008 := n1_
         have BK545 := n2_
         have BK558 := n3_
         have HB := n4_
         clear n0_ n1_ n2_ n3_ n4_
         have p560 : 0 ≤ (x11_3 : Int) := wd_
         have q560 : x11_3 < (l0.length : Int) := wd_
         obtain ⟨ad560, A560_8, c560_8, e560, hx560_0, hx560_1, hx560_2, hx560_3, hx560_4, hx560_5, hx560_6, hx560_7, hx560_8, hl560_8, hi560_8⟩ := at_T40 HR0.out x11_3 p560 q560
         have hw560_8 := hx560_8
         have hw560_7 := hx560_7
         have hw560_6 := hx560_6
         have hw560_5 := hx560_5
         have hw560_4 := hx560_4
         have hw560_3 := hx560_3
         have hw560_2 := hx560_2
         have hw560_1 := hx560_1
         have hw560_0 := hx560_0
         cases e560
         replace hx560_0 := (HB.out.cell (World.block_lt_of_cell? w _ hx560_0)).trans hx560_0
         replace hx560_1 := (HB.out.cell (World.block_lt_of_cell? w _ hx560_1)).trans hx560_1
         replace hx560_2 := (HB.out.cell (World.block_lt_of_cell? w _ hx560_2)).trans hx560_2
         replace hx560_3 := (HB.out.cell (World.block_lt_of_cell? w _ hx560_3)).trans hx560_3
         replace hx560_4 := (HB.out.cell (World.block_lt_of_cell? w _ hx560_4)).trans hx560_4
         replace hx560_5 := (HB.out.cell (World.block_lt_of_cell? w _ hx560_5)).trans hx560_5
         replace hx560_6 := (HB.out.cell (World.block_lt_of_cell? w _ hx560_6)).trans hx560_6
         replace hx560_7 := (HB.out.cell (World.block_lt_of_cell? w _ hx560_7)).trans hx560_7
         replace hx560_8 := (HB.out.cell (World.block_lt_of_cell? w _ hx560_8)).trans hx560_8
         have HR560_8 := A0_ hi560_8
         have HC560_8 := A0_ hl560_8
         clear hi560_8 hl560_8
         replace p560 := eq_true p560
         replace q560 := eq_true q560
         have p561 : 0 ≤ (x11_3 : Int) := wd_
         have q561 : x11_3 < (l1.length : Int) := wd_
         obtain ⟨ad561, A561_8, c561_8, e561, hx561_0, hx561_1, hx561_2, hx561_3, hx561_4, hx561_5, hx561_6, hx561_7, hx561_8, hl561_8, hi561_8⟩ := at_T40 HR1.out x11_3 p561 q561
         have hw561_8 := hx561_8
         have hw561_7 := hx561_7
         have hw561_6 := hx561_6
         have hw561_5 := hx561_5
         have hw561_4 := hx561_4
         have hw561_3 := hx561_3
         have hw561_2 := hx561_2
         have hw561_1 := hx561_1
         have hw561_0 := hx561_0
         cases e561
         replace hx561_0 := (HB.out.cell (World.block_lt_of_cell? w _ hx561_0)).trans hx561_0
         replace hx561_1 := (HB.out.cell (World.block_lt_of_cell? w _ hx561_1)).trans hx561_1
         replace hx561_2 := (HB.out.cell (World.block_lt_of_cell? w _ hx561_2)).trans hx561_2
         replace hx561_3 := (HB.out.cell (World.block_lt_of_cell? w _ hx561_3)).trans hx561_3
         replace hx561_4 := (HB.out.cell (World.block_lt_of_cell? w _ hx561_4)).trans hx561_4
         replace hx561_5 := (HB.out.cell (World.block_lt_of_cell? w _ hx561_5)).trans hx561_5
         replace hx561_6 := (HB.out.cell (World.block_lt_of_cell? w _ hx561_6)).trans hx561_6
         replace hx561_7 := (HB.out.cell (World.block_lt_of_cell? w _ hx561_7)).trans hx561_7
         replace hx561_8 := (HB.out.cell (World.block_lt_of_cell? w _ hx561_8)).trans hx561_8
         have HR561_8 := A0_ hi561_8
         have HC561_8 := A0_ hl561_8
         clear hi561_8 hl561_8
         replace p561 := eq_true p561
         replace q561 := eq_true q561
         have p563 : 0 ≤ (x11_3 : Int) := wd_
         have q563 : x11_3 < (l0.length : Int) := wd_
         obtain ⟨ad563, A563_8, c563_8, e563, hx563_0, hx563_1, hx563_2, hx563_3, hx563_4, hx563_5, hx563_6, hx563_7, hx563_8, hl563_8, hi563_8⟩ := at_T40 HR0.out x11_3 p563 q563
         have hw563_8 := hx563_8
         have hw563_7 := hx563_7
         have hw563_6 := hx563_6
         have hw563_5 := hx563_5
         have hw563_4 := hx563_4
         have hw563_3 := hx563_3
         have hw563_2 := hx563_2
         have hw563_1 := hx563_1
         have hw563_0 := hx563_0
         obtain rfl : ad560 = ad563 := (by injection e563)
         replace hx563_0 := (HB.out.cell (World.block_lt_of_cell? w _ hx563_0)).trans hx563_0
         replace hx563_1 := (HB.out.cell (World.block_lt_of_cell? w _ hx563_1)).trans hx563_1
         replace hx563_2 := (HB.out.cell (World.block_lt_of_cell? w _ hx563_2)).trans hx563_2
         replace hx563_3 := (HB.out.cell (World.block_lt_of_cell? w _ hx563_3)).trans hx563_3
         replace hx563_4 := (HB.out.cell (World.block_lt_of_cell? w _ hx563_4)).trans hx563_4
         replace hx563_5 := (HB.out.cell (World.block_lt_of_cell? w _ hx563_5)).trans hx563_5
         replace hx563_6 := (HB.out.cell (World.block_lt_of_cell? w _ hx563_6)).trans hx563_6
         replace hx563_7 := (HB.out.cell (World.block_lt_of_cell? w _ hx563_7)).trans hx563_7
         replace hx563_8 := (HB.out.cell (World.block_lt_of_cell? w _ hx563_8)).trans hx563_8
         have HR563_8 := A0_ hi563_8
         have HC563_8 := A0_ hl563_8
         clear hi563_8 hl563_8
         replace p563 := eq_true p563
         replace q563 := eq_true q563
         have ea_ := Option.some.inj (hx560_8.symm.trans hx563_8)
         injection ea_ with ea_ en_ ec_
         subst ea_
         subst ec_
         clear en_
         have p564 : 0 ≤ (x11_3 : Int) := wd_
         have q564 : x11_3 < (l1.length : Int) := wd_
         obtain ⟨ad564, A564_8, c564_8, e564, hx564_0, hx564_1, hx564_2, hx564_3, hx564_4, hx564_5, hx564_6, hx564_7, hx564_8, hl564_8, hi564_8⟩ := at_T40 HR1.out x11_3 p564 q564
         have hw564_8 := hx564_8
         have hw564_7 := hx564_7
         have hw564_6 := hx564_6
         have hw564_5 := hx564_5
         have hw564_4 := hx564_4
         have hw564_3 := hx564_3
         have hw564_2 := hx564_2
         have hw564_1 := hx564_1
         have hw564_0 := hx564_0
         obtain rfl : ad561 = ad564 := (by injection e564)
         replace hx564_0 := (HB.out.cell (World.block_lt_of_cell? w _ hx564_0)).trans hx564_0
         replace hx564_1 := (HB.out.cell (World.block_lt_of_cell? w _ hx564_1)).trans hx564_1
         replace hx564_2 := (HB.out.cell (World.block_lt_of_cell? w _ hx564_2)).trans hx564_2
         replace hx564_3 := (HB.out.cell (World.block_lt_of_cell? w _ hx564_3)).trans hx564_3
         replace hx564_4 := (HB.out.cell (World.block_lt_of_cell? w _ hx564_4)).trans hx564_4
         replace hx564_5 := (HB.out.cell (World.block_lt_of_cell? w _ hx564_5)).trans hx564_5
         replace hx564_6 := (HB.out.cell (World.block_lt_of_cell? w _ hx564_6)).trans hx564_6
         replace hx564_7 := (HB.out.cell (World.block_lt_of_cell? w _ hx564_7)).trans hx564_7
         replace hx564_8 := (HB.out.cell (World.block_lt_of_cell? w _ hx564_8)).trans hx564_8
         have HR564_8 := A0_ hi564_8
         have HC564_8 := A0_ hl564_8
         clear hi564_8 hl564_8
         replace p564 := eq_true p564
         replace q564 := eq_true q564
         have ea_ := Option.some.inj (hx561_8.symm.trans hx564_8)
         injection ea_ with ea_ en_ ec_
         subst ea_
         subst ec_
         clear en_
         refine start_ (n := 19) (S := fun w' => w'.cell? (ad560.add ((x11_3).toNat * 9)) = some (.string ((rd_T40 l0 x11_3).f0)) ∧ w'.cell? ⟨(ad560.add ((x11_3).toNat * 9)).block, (ad560.add ((x11_3).toNat * 9)).off + 1, none⟩ = some (.string ((rd_T40 l0 x11_3).f1)) ∧ w'.cell? ⟨(ad560.add ((x11_3).toNat * 9)).block, (ad560.add ((x11_3).toNat * 9)).off + 2, none⟩ = some (.string ((rd_T40 l0 x11_3).f2)) ∧ w'.cell? ⟨(ad560.add ((x11_3).toNat * 9)).block, (ad560.add ((x11_3).toNat * 9)).off + 3, none⟩ = some (.int .u8 ((rd_T40 l0 x11_3).f3)) ∧ w'.cell? ⟨(ad560.add ((x11_3).toNat * 9)).block, (ad560.add ((x11_3).toNat * 9)).off + 4, none⟩ = some (.int .i64 ((rd_T40 l0 x11_3).f4.f0)) ∧ w'.cell? ⟨(ad560.add ((x11_3).toNat * 9)).block, (ad560.add ((x11_3).toNat * 9)).off + 5, none⟩ = some (.int .i64 ((rd_T40 l0 x11_3).f4.f1)) ∧ w'.cell? ⟨(ad560.add ((x11_3).toNat * 9)).block, (ad560.add ((x11_3).toNat * 9)).off + 6, none⟩ = some (.int .i64 ((rd_T40 l0 x11_3).f4.f2)) ∧ w'.cell? ⟨(ad560.add ((x11_3).toNat * 9)).block, (ad560.add ((x11_3).toNat * 9)).off + 7, none⟩ = some (.int .i64 ((rd_T40 l0 x11_3).f4.f3)) ∧ w'.cell? ⟨(ad560.add ((x11_3).toNat * 9)).block, (ad560.add ((x11_3).toNat * 9)).off + 8, none⟩ = some (.slice A560_8 ((rd_T40 l0 x11_3).f5).length c560_8) ∧ w'.cell? (ad561.add ((x11_3).toNat * 9)) = some (.string ((rd_T40 l1 x11_3).f0)) ∧ w'.cell? ⟨(ad561.add ((x11_3).toNat * 9)).block, (ad561.add ((x11_3).toNat * 9)).off + 1, none⟩ = some (.string ((rd_T40 l1 x11_3).f1)) ∧ w'.cell? ⟨(ad561.add ((x11_3).toNat * 9)).block, (ad561.add ((x11_3).toNat * 9)).off + 2, none⟩ = some (.string ((rd_T40 l1 x11_3).f2)) ∧ w'.cell? ⟨(ad561.add ((x11_3).toNat * 9)).block, (ad561.add ((x11_3).toNat * 9)).off + 3, none⟩ = some (.int .u8 ((rd_T40 l1 x11_3).f3)) ∧ w'.cell? ⟨(ad561.add ((x11_3).toNat * 9)).block, (ad561.add ((x11_3).toNat * 9)).off + 4, none⟩ = some (.int .i64 ((rd_T40 l1 x11_3).f4.f0)) ∧ w'.cell? ⟨(ad561.add ((x11_3).toNat * 9)).block, (ad561.add ((x11_3).toNat * 9)).off + 5, none⟩ = some (.int .i64 ((rd_T40 l1 x11_3).f4.f1)) ∧ w'.cell? ⟨(ad561.add ((x11_3).toNat * 9)).block, (ad561.add ((x11_3).toNat * 9)).off + 6, none⟩ = some (.int .i64 ((rd_T40 l1 x11_3).f4.f2)) ∧ w'.cell? ⟨(ad561.add ((x11_3).toNat * 9)).block, (ad561.add ((x11_3).toNat * 9)).off + 7, none⟩ = some (.int .i64 ((rd_T40 l1 x11_3).f4.f3)) ∧ w'.cell? ⟨(ad561.add ((x11_3).toNat * 9)).block, (ad561.add ((x11_3).toNat * 9)).off + 8, none⟩ = some (.slice A561_8 ((rd_T40 l1 x11_3).f5).length c561_8) ∧ w'.cell? (ad560.add ((x11_3).toNat * 9)) = some (.string ((rd_T40 l0 x11_3).f0)) ∧ w'.cell? ⟨(ad560.add ((x11_3).toNat * 9)).block, (ad560.add ((x11_3).toNat * 9)).off + 1, none⟩ = some (.string ((rd_T40 l0 x11_3).f1)) ∧ w'.cell? ⟨(ad560.add ((x11_3).toNat * 9)).block, (ad560.add ((x11_3).toNat * 9)).off + 2, none⟩ = some (.string ((rd_T40 l0 x11_3).f2)) ∧ w'.cell? ⟨(ad560.add ((x11_3).toNat * 9)).block, (ad560.add ((x11_3).toNat * 9)).off + 3, none⟩ = some (.int .u8 ((rd_T40 l0 x11_3).f3)) ∧ w'.cell? ⟨(ad560.add ((x11_3).toNat * 9)).block, (ad560.add ((x11_3).toNat * 9)).off + 4, none⟩ = some (.int .i64 ((rd_T40 l0 x11_3).f4.f0)) ∧ w'.cell? ⟨(ad560.add ((x11_3).toNat * 9)).block, (ad560.add ((x11_3).toNat * 9)).off + 5, none⟩ = some (.int .i64 ((rd_T40 l0 x11_3).f4.f1)) ∧ w'.cell? ⟨(ad560.add ((x11_3).toNat * 9)).block, (ad560.add ((x11_3).toNat * 9)).off + 6, none⟩ = some (.int .i64 ((rd_T40 l0 x11_3).f4.f2)) ∧ w'.cell? ⟨(ad560.add ((x11_3).toNat * 9)).block, (ad560.add ((x11_3).toNat * 9)).off + 7, none⟩ = some (.int .i64 ((rd_T40 l0 x11_3).f4.f3)) ∧ w'.cell? ⟨(ad560.add ((x11_3).toNat * 9)).block, (ad560.add ((x11_3).toNat * 9)).off + 8, none⟩ = some (.slice A560_8 ((rd_T40 l0 x11_3).f5).length c560_8) ∧ w'.cell? (ad561.add ((x11_3).toNat * 9)) = some (.string ((rd_T40 l1 x11_3).f0)) ∧ w'.cell? ⟨(ad561.add ((x11_3).toNat * 9)).block, (ad561.add ((x11_3).toNat * 9)).off + 1, none⟩ = some (.string ((rd_T40 l1 x11_3).f1)) ∧ w'.cell? ⟨(ad561.add ((x11_3).toNat * 9)).block, (ad561.add ((x11_3).toNat * 9)).off + 2, none⟩ = some (.string ((rd_T40 l1 x11_3).f2)) ∧ w'.cell? ⟨(ad561.add ((x11_3).toNat * 9)).block, (ad561.add ((x11_3).toNat * 9)).off + 3, none⟩ = some (.int .u8 ((rd_T40 l1 x11_3).f3)) ∧ w'.cell? ⟨(ad561.add ((x11_3).toNat * 9)).block, (ad561.add ((x11_3).toNat * 9)).off + 4, none⟩ = some (.int .i64 ((rd_T40 l1 x11_3).f4.f0)) ∧ w'.cell? ⟨(ad561.add ((x11_3).toNat * 9)).block, (ad561.add ((x11_3).toNat * 9)).off + 5, none⟩ = some (.int .i64 ((rd_T40 l1 x11_3).f4.f1)) ∧ w'.cell? ⟨(ad561.add ((x11_3).toNat * 9)).block, (ad561.add ((x11_3).toNat * 9)).off + 6, none⟩ = some (.int .i64 ((rd_T40 l1 x11_3).f4.f2)) ∧ w'.cell? ⟨(ad561.add ((x11_3).toNat * 9)).block, (ad561.add ((x11_3).toNat * 9)).off + 7, none⟩ = some (.int .i64 ((rd_T40 l1 x11_3).f4.f3)) ∧ w'.cell? ⟨(ad561.add ((x11_3).toNat * 9)).block, (ad561.add ((x11_3).toNat * 9)).off + 8, none⟩ = some (.slice A561_8 ((rd_T40 l1 x11_3).f5).length c561_8)) (ds := []) q12_0 (by kernel_rfl) rfl rfl ⟨((HB.out.cell (World.block_lt_of_cell? w _ hw560_0)).trans hw560_0), ((HB.out.cell (World.block_lt_of_cell? w _ hw560_1)).trans hw560_1), ((HB.out.cell (World.block_lt_of_cell? w _ hw560_2)).trans hw560_2), ((HB.out.cell (World.block_lt_of_cell? w _ hw560_3)).trans hw560_3), ((HB.out.cell (World.block_lt_of_cell? w _ hw560_4)).trans hw560_4), ((HB.out.cell (World.block_lt_of_cell? w _ hw560_5)).trans hw560_5), ((HB.out.cell (World.block_lt_of_cell? w _ hw560_6)).trans hw560_6), ((HB.out.cell (World.block_lt_of_cell? w _ hw560_7)).trans hw560_7), ((HB.out.cell (World.block_lt_of_cell? w _ hw560_8)).trans hw560_8), ((HB.out.cell (World.block_lt_of_cell? w _ hw561_0)).trans hw561_0), ((HB.out.cell (World.block_lt_of_cell? w _ hw561_1)).trans hw561_1), ((HB.out.cell (World.block_lt_of_cell? w _ hw561_2)).trans hw561_2), ((HB.out.cell (World.block_lt_of_cell? w _ hw561_3)).trans hw561_3), ((HB.out.cell (World.block_lt_of_cell? w _ hw561_4)).trans hw561_4), ((HB.out.cell (World.block_lt_of_cell? w _ hw561_5)).trans hw561_5), ((HB.out.cell (World.block_lt_of_cell? w _ hw561_6)).trans hw561_6), ((HB.out.cell (World.block_lt_of_cell? w _ hw561_7)).trans hw561_7), ((HB.out.cell (World.block_lt_of_cell? w _ hw561_8)).trans hw561_8), ((HB.out.cell (World.block_lt_of_cell? w _ hw563_0)).trans hw563_0), ((HB.out.cell (World.block_lt_of_cell? w _ hw563_1)).trans hw563_1), ((HB.out.cell (World.block_lt_of_cell? w _ hw563_2)).trans hw563_2), ((HB.out.cell (World.block_lt_of_cell? w _ hw563_3)).trans hw563_3), ((HB.out.cell (World.block_lt_of_cell? w _ hw563_4)).trans hw563_4), ((HB.out.cell (World.block_lt_of_cell? w _ hw563_5)).trans hw563_5), ((HB.out.cell (World.block_lt_of_cell? w _ hw563_6)).trans hw563_6), ((HB.out.cell (World.block_lt_of_cell? w _ hw563_7)).trans hw563_7), ((HB.out.cell (World.block_lt_of_cell? w _ hw563_8)).trans hw563_8), ((HB.out.cell (World.block_lt_of_cell? w _ hw564_0)).trans hw564_0), ((HB.out.cell (World.block_lt_of_cell? w _ hw564_1)).trans hw564_1), ((HB.out.cell (World.block_lt_of_cell? w _ hw564_2)).trans hw564_2), ((HB.out.cell (World.block_lt_of_cell? w _ hw564_3)).trans hw564_3), ((HB.out.cell (World.block_lt_of_cell? w _ hw564_4)).trans hw564_4), ((HB.out.cell (World.block_lt_of_cell? w _ hw564_5)).trans hw564_5), ((HB.out.cell (World.block_lt_of_cell? w _ hw564_6)).trans hw564_6), ((HB.out.cell (World.block_lt_of_cell? w _ hw564_7)).trans hw564_7), ((HB.out.cell (World.block_lt_of_cell? w _ hw564_8)).trans hw564_8)⟩ (fun hHeld => ?_); refine with_tabW bindlelaw10_TreeFinds.tab10 bindlelaw10_TreeFinds.bits10 (fun HT_ HW_ => ?_)
         generalize wc.drew = w53 at HO_546008 HO_559008 BK545 BK558 HB HR560_8 HR561_8 HR563_8 HR564_8 hx560_0 hx560_1 hx560_2 hx560_3 hx560_4 hx560_5 hx560_6 hx560_7 hx560_8 hx561_0 hx561_1 hx561_2 hx561_3 hx561_4 hx561_5 hx561_6 hx561_7 hx561_8 hx563_0 hx563_1 hx563_2 hx563_3 hx563_4 hx563_5 hx563_6 hx563_7 hx563_8 hx564_0 hx564_1 hx564_2 hx564_3 hx564_4 hx564_5 hx564_6 hx564_7 hx564_8 hHeld ⊢
         refine pur_ (i := 0) (N := some 66) q12_1 (any_of HT_.out (by kernel_rfl)) ?_
         refine pur_ (i := 1) (N := some 67) q12_2 (any_of HT_.out (by kernel_rfl)) ?_
         refine pur_ (i := 2) (N := some 68) q12_3 (any_of HT_.out (by kernel_rfl)) ?_
         refine pur_ (i := 4) (N := some 70) q12_4 (any_of HT_.out (by kernel_rfl)) ?_
         refine pur_ (i := 5) (N := some 71) q12_5 (any_of HT_.out (by kernel_rfl)) ?_
         refine pur_ (i := 6) (N := some 72) q12_6 (any_of HT_.out (by kernel_rfl)) ?_
         refine pur_ (i := 9) (N := some 75) q12_7 (any_of HT_.out (by kernel_rfl)) ?_
         refine pur_ (i := 10) (N := some 76) q12_8 (any_of HT_.out (by kernel_rfl)) ?_
         refine pur_ (i := 11) (N := some 77) q12_9 (any_of HT_.out (by kernel_rfl)) ?_
         refine pur_ (i := 13) (N := some 79) q12_10 (any_of HT_.out (by kernel_rfl)) ?_
         refine pur_ (i := 14) (N := some 80) q12_11 (any_of HT_.out (by kernel_rfl)) ?_
         refine pur_ (i := 15) (N := some 81) q12_12 (any_of HT_.out (by kernel_rfl)) ?_
         refine take_ (i := 3) (N := some 69) (v := ?_) (a' := ?_) q12_13 rfl rfl (take_ofW HT_.out HW_.out (by kernel_rfl)) (fun _ _ _ h => h) (Or.inl ⟨by rfl, ?_⟩) hHeld ?_ ?_
         rotate_left
         ·rintro w' ⟨s0, s1, s2, s3, s4, s5, s6, s7, s8, s9, s10, s11, s12, s13, s14, s15, s16, s17, s18, s19, s20, s21, s22, s23, s24, s25, s26, s27, s28, s29, s30, s31, s32, s33, s34, s35⟩
          go_simp
          with_reducible rfl
         rotate_left
         ·simp only [Act.put, List.setIfInBounds_toArray, List.set_cons_zero, List.set_cons_succ, i64_w, i32_w]
          rfl
         refine take_ (i := 7) (N := some 73) (v := ?_) (a' := ?_) q12_14 rfl rfl (take_ofW HT_.out HW_.out (by kernel_rfl)) (fun _ _ _ h => h) (Or.inl ⟨by rfl, ?_⟩) hHeld ?_ ?_
         rotate_left
         ·rintro w' ⟨s0, s1, s2, s3, s4, s5, s6, s7, s8, s9, s10, s11, s12, s13, s14, s15, s16, s17, s18, s19, s20, s21, s22, s23, s24, s25, s26, s27, s28, s29, s30, s31, s32, s33, s34, s35⟩
          go_simp
          with_reducible rfl
         rotate_left
         ·simp only [Act.put, List.setIfInBounds_toArray, List.set_cons_zero, List.set_cons_succ, i64_w, i32_w]
          rfl
         refine take_ (i := 12) (N := some 78) (v := ?_) (a' := ?_) q12_15 rfl rfl (take_ofW HT_.out HW_.out (by kernel_rfl)) (fun _ _ _ h => h) (Or.inl ⟨by rfl, ?_⟩) hHeld ?_ ?_
         rotate_left
         ·rintro w' ⟨s0, s1, s2, s3, s4, s5, s6, s7, s8, s9, s10, s11, s12, s13, s14, s15, s16, s17, s18, s19, s20, s21, s22, s23, s24, s25, s26, s27, s28, s29, s30, s31, s32, s33, s34, s35⟩
          go_simp
          with_reducible rfl
         rotate_left
         ·simp only [Act.put, List.setIfInBounds_toArray, List.set_cons_zero, List.set_cons_succ, i64_w, i32_w]
          rfl
         refine take_ (i := 16) (N := some 82) (v := ?_) (a' := ?_) q12_16 rfl rfl (take_ofW HT_.out HW_.out (by kernel_rfl)) (fun _ _ _ h => h) (Or.inl ⟨by rfl, ?_⟩) hHeld ?_ ?_
         rotate_left
         ·rintro w' ⟨s0, s1, s2, s3, s4, s5, s6, s7, s8, s9, s10, s11, s12, s13, s14, s15, s16, s17, s18, s19, s20, s21, s22, s23, s24, s25, s26, s27, s28, s29, s30, s31, s32, s33, s34, s35⟩
          go_simp
          with_reducible rfl
         rotate_left
         ·simp only [Act.put, List.setIfInBounds_toArray, List.set_cons_zero, List.set_cons_succ, i64_w, i32_w]
          rfl
         refine one_ (i := 8) (N := some 74) q12_17 rfl rfl (one_of HT_.out (by kernel_rfl)) (by decide) (fun K hK => ?_)
         refine goes_ Tryd.func37 (by kernel_rfl) rfl #[.agg #[.string ((rd_T40 l0 x11_3).f0), .string ((rd_T40 l0 x11_3).f1), .string ((rd_T40 l0 x11_3).f2), .int .u8 ((rd_T40 l0 x11_3).f3), .int .i64 ((rd_T40 l0 x11_3).f4.f0), .int .i64 ((rd_T40 l0 x11_3).f4.f1), .int .i64 ((rd_T40 l0 x11_3).f4.f2), .int .i64 ((rd_T40 l0 x11_3).f4.f3), .slice A560_8 ((rd_T40 l0 x11_3).f5).length c560_8], .agg #[.string ((rd_T40 l1 x11_3).f0), .string ((rd_T40 l1 x11_3).f1), .string ((rd_T40 l1 x11_3).f2), .int .u8 ((rd_T40 l1 x11_3).f3), .int .i64 ((rd_T40 l1 x11_3).f4.f0), .int .i64 ((rd_T40 l1 x11_3).f4.f1), .int .i64 ((rd_T40 l1 x11_3).f4.f2), .int .i64 ((rd_T40 l1 x11_3).f4.f3), .slice A561_8 ((rd_T40 l1 x11_3).f5).length c561_8]] (by rfl) rfl rfl wm_ ?_
         with_reducible refine (tree_Equal.calls ((rd_T40 l0 x11_3).f0) ((rd_T40 l0 x11_3).f1) ((rd_T40 l0 x11_3).f2) ((rd_T40 l0 x11_3).f3) ((rd_T40 l0 x11_3).f4.f0) ((rd_T40 l0 x11_3).f4.f1) ((rd_T40 l0 x11_3).f4.f2) ((rd_T40 l0 x11_3).f4.f3) _ _ ((rd_T40 l0 x11_3).f5) ((rd_T40 l1 x11_3).f0) ((rd_T40 l1 x11_3).f1) ((rd_T40 l1 x11_3).f2) ((rd_T40 l1 x11_3).f3) ((rd_T40 l1 x11_3).f4.f0) ((rd_T40 l1 x11_3).f4.f1) ((rd_T40 l1 x11_3).f4.f2) ((rd_T40 l1 x11_3).f4.f3) _ _ ((rd_T40 l1 x11_3).f5) t562 _ ?side1 ?side2 ?side3 ?side4 A47.out).mono ?_
         (case side1 => exact wc_ (Kd.C_below HR560_8.out HB.out))
         (case side2 => exact HC560_8.out)
         (case side3 => exact wc_ (Kd.C_below HR561_8.out HB.out))
         (case side4 => exact HC561_8.out)
         rintro e w54 ⟨rfl, hb⟩
         refine ⟨_, rfl, ?_⟩
         have n0_ := A0_ (Vb_ (wV_ HO_546008.out) hb)
         have n1_ := A0_ (Vb_ (wV_ HO_559008.out) hb)
         have n2_ := A0_ (blk_below (g := gb545) (o := .cells #[.string t533, .string t534, .string t535, .int .u8 t536, .int .i64 t537, .int .i64 t538, .int .i64 t539, .int .i64 t540, .slice Ao20 t541.length co20] 40 (0, 0)) (wB_ BK545.out) hb)
         have n3_ := A0_ (blk_below (g := gb558) (o := .cells #[.string t546, .string t547, .string t548, .int .u8 t549, .int .i64 t550, .int .i64 t551, .int .i64 t552, .int .i64 t553, .slice Ao26 t554.length co26] 40 (0, 0)) (wB_ BK558.out) hb)
         have n4_ := A0_ (below_step (wb2_ HB.out GE545.out GE558.out) hb)
         clear HO_546008
         clear HO_559008
         clear BK545
         clear BK558
         clear HB
         have HO_546008 := n0_
         have HO_559008 := n1_
         have BK545 := n2_
         have BK558 := n3_
         have HB := n4_
         clear n0_ n1_ n2_ n3_ n4_
         (try clear hb)
         (try clear hb2)
         (try clear hk)
         (try clear hi)
         refine hK.out _ _ ⟨((HB.out.cell (World.block_lt_of_cell? w _ hw560_0)).trans hw560_0), ((HB.out.cell (World.block_lt_of_cell? w _ hw560_1)).trans hw560_1), ((HB.out.cell (World.block_lt_of_cell? w _ hw560_2)).trans hw560_2), ((HB.out.cell (World.block_lt_of_cell? w _ hw560_3)).trans hw560_3), ((HB.out.cell (World.block_lt_of_cell? w _ hw560_4)).trans hw560_4), ((HB.out.cell (World.block_lt_of_cell? w _ hw560_5)).trans hw560_5), ((HB.out.cell (World.block_lt_of_cell? w _ hw560_6)).trans hw560_6), ((HB.out.cell (World.block_lt_of_cell? w _ hw560_7)).trans hw560_7), ((HB.out.cell (World.block_lt_of_cell? w _ hw560_8)).trans hw560_8), ((HB.out.cell (World.block_lt_of_cell? w _ hw561_0)).trans hw561_0), ((HB.out.cell (World.block_lt_of_cell? w _ hw561_1)).trans hw561_1), ((HB.out.cell (World.block_lt_of_cell? w _ hw561_2)).trans hw561_2), ((HB.out.cell (World.block_lt_of_cell? w _ hw561_3)).trans hw561_3), ((HB.out.cell (World.block_lt_of_cell? w _ hw561_4)).trans hw561_4), ((HB.out.cell (World.block_lt_of_cell? w _ hw561_5)).trans hw561_5), ((HB.out.cell (World.block_lt_of_cell? w _ hw561_6)).trans hw561_6), ((HB.out.cell (World.block_lt_of_cell? w _ hw561_7)).trans hw561_7), ((HB.out.cell (World.block_lt_of_cell? w _ hw561_8)).trans hw561_8), ((HB.out.cell (World.block_lt_of_cell? w _ hw563_0)).trans hw563_0), ((HB.out.cell (World.block_lt_of_cell? w _ hw563_1)).trans hw563_1), ((HB.out.cell (World.block_lt_of_cell? w _ hw563_2)).trans hw563_2), ((HB.out.cell (World.block_lt_of_cell? w _ hw563_3)).trans hw563_3), ((HB.out.cell (World.block_lt_of_cell? w _ hw563_4)).trans hw563_4), ((HB.out.cell (World.block_lt_of_cell? w _ hw563_5)).trans hw563_5), ((HB.out.cell (World.block_lt_of_cell? w _ hw563_6)).trans hw563_6), ((HB.out.cell (World.block_lt_of_cell? w _ hw563_7)).trans hw563_7), ((HB.out.cell (World.block_lt_of_cell? w _ hw563_8)).trans hw563_8), ((HB.out.cell (World.block_lt_of_cell? w _ hw564_0)).trans hw564_0), ((HB.out.cell (World.block_lt_of_cell? w _ hw564_1)).trans hw564_1), ((HB.out.cell (World.block_lt_of_cell? w _ hw564_2)).trans hw564_2), ((HB.out.cell (World.block_lt_of_cell? w _ hw564_3)).trans hw564_3), ((HB.out.cell (World.block_lt_of_cell? w _ hw564_4)).trans hw564_4), ((HB.out.cell (World.block_lt_of_cell? w _ hw564_5)).trans hw564_5), ((HB.out.cell (World.block_lt_of_cell? w _ hw564_6)).trans hw564_6), ((HB.out.cell (World.block_lt_of_cell? w _ hw564_7)).trans hw564_7), ((HB.out.cell (World.block_lt_of_cell? w _ hw564_8)).trans hw564_8)⟩ (fun hHeld => ?_)
         clear hK K
         refine norm_ (a' := ?_) ?_ ?_
         rotate_left
         ·show Act.put _ (some 74) _ = _
          simp only [Act.put, List.setIfInBounds_toArray, List.set_cons_zero, List.set_cons_succ, i64_w, i32_w]
          rfl
         refine one_ (i := 17) (N := some 83) q12_18 rfl rfl (one_of HT_.out (by kernel_rfl)) (by decide) (fun K hK => ?_)
         refine goes_ Tryd.func35 (by kernel_rfl) rfl #[.agg #[.string ((rd_T40 l0 x11_3).f0), .string ((rd_T40 l0 x11_3).f1), .string ((rd_T40 l0 x11_3).f2), .int .u8 ((rd_T40 l0 x11_3).f3), .int .i64 ((rd_T40 l0 x11_3).f4.f0), .int .i64 ((rd_T40 l0 x11_3).f4.f1), .int .i64 ((rd_T40 l0 x11_3).f4.f2), .int .i64 ((rd_T40 l0 x11_3).f4.f3), .slice A560_8 ((rd_T40 l0 x11_3).f5).length c560_8], .agg #[.string ((rd_T40 l1 x11_3).f0), .string ((rd_T40 l1 x11_3).f1), .string ((rd_T40 l1 x11_3).f2), .int .u8 ((rd_T40 l1 x11_3).f3), .int .i64 ((rd_T40 l1 x11_3).f4.f0), .int .i64 ((rd_T40 l1 x11_3).f4.f1), .int .i64 ((rd_T40 l1 x11_3).f4.f2), .int .i64 ((rd_T40 l1 x11_3).f4.f3), .slice A561_8 ((rd_T40 l1 x11_3).f5).length c561_8]] (by rfl) rfl rfl wm_ ?_
         with_reducible refine (bindleref08_Equal.calls ((rd_T40 l0 x11_3).f0) ((rd_T40 l0 x11_3).f1) ((rd_T40 l0 x11_3).f2) ((rd_T40 l0 x11_3).f3) ((rd_T40 l0 x11_3).f4.f0) ((rd_T40 l0 x11_3).f4.f1) ((rd_T40 l0 x11_3).f4.f2) ((rd_T40 l0 x11_3).f4.f3) _ _ ((rd_T40 l0 x11_3).f5) ((rd_T40 l1 x11_3).f0) ((rd_T40 l1 x11_3).f1) ((rd_T40 l1 x11_3).f2) ((rd_T40 l1 x11_3).f3) ((rd_T40 l1 x11_3).f4.f0) ((rd_T40 l1 x11_3).f4.f1) ((rd_T40 l1 x11_3).f4.f2) ((rd_T40 l1 x11_3).f4.f3) _ _ ((rd_T40 l1 x11_3).f5) t565 _ ?side1 ?side2 ?side3 ?side4 A48.out).mono ?_
         (case side1 => exact wc_ (Kd.C_below HR563_8.out HB.out))
         (case side2 => exact HC563_8.out)
         (case side3 => exact wc_ (Kd.C_below HR564_8.out HB.out))
         (case side4 => exact HC564_8.out)
         rintro e w55 ⟨rfl, hb⟩
         refine ⟨_, rfl, ?_⟩
         have n0_ := A0_ (Vb_ (wV_ HO_546008.out) hb)
         have n1_ := A0_ (Vb_ (wV_ HO_559008.out) hb)
         have n2_ := A0_ (blk_below (g := gb545) (o := .cells #[.string t533, .string t534, .string t535, .int .u8 t536, .int .i64 t537, .int .i64 t538, .int .i64 t539, .int .i64 t540, .slice Ao20 t541.length co20] 40 (0, 0)) (wB_ BK545.out) hb)
         have n3_ := A0_ (blk_below (g := gb558) (o := .cells #[.string t546, .string t547, .string t548, .int .u8 t549, .int .i64 t550, .int .i64 t551, .int .i64 t552, .int .i64 t553, .slice Ao26 t554.length co26] 40 (0, 0)) (wB_ BK558.out) hb)
         have n4_ := A0_ (below_step (wb2_ HB.out GE545.out GE558.out) hb)
         clear HO_546008
         clear HO_559008
         clear BK545
         clear BK558
         clear HB
         have HO_546008 := n0_
         have HO_559008 := n1_
         have BK545 := n2_
         have BK558 := n3_
         have HB := n4_
         clear n0_ n1_ n2_ n3_ n4_
         (try clear hb)
         (try clear hb2)
         (try clear hk)
         (try clear hi)
         refine hK.out _ _ ⟨((HB.out.cell (World.block_lt_of_cell? w _ hw560_0)).trans hw560_0), ((HB.out.cell (World.block_lt_of_cell? w _ hw560_1)).trans hw560_1), ((HB.out.cell (World.block_lt_of_cell? w _ hw560_2)).trans hw560_2), ((HB.out.cell (World.block_lt_of_cell? w _ hw560_3)).trans hw560_3), ((HB.out.cell (World.block_lt_of_cell? w _ hw560_4)).trans hw560_4), ((HB.out.cell (World.block_lt_of_cell? w _ hw560_5)).trans hw560_5), ((HB.out.cell (World.block_lt_of_cell? w _ hw560_6)).trans hw560_6), ((HB.out.cell (World.block_lt_of_cell? w _ hw560_7)).trans hw560_7), ((HB.out.cell (World.block_lt_of_cell? w _ hw560_8)).trans hw560_8), ((HB.out.cell (World.block_lt_of_cell? w _ hw561_0)).trans hw561_0), ((HB.out.cell (World.block_lt_of_cell? w _ hw561_1)).trans hw561_1), ((HB.out.cell (World.block_lt_of_cell? w _ hw561_2)).trans hw561_2), ((HB.out.cell (World.block_lt_of_cell? w _ hw561_3)).trans hw561_3), ((HB.out.cell (World.block_lt_of_cell? w _ hw561_4)).trans hw561_4), ((HB.out.cell (World.block_lt_of_cell? w _ hw561_5)).trans hw561_5), ((HB.out.cell (World.block_lt_of_cell? w _ hw561_6)).trans hw561_6), ((HB.out.cell (World.block_lt_of_cell? w _ hw561_7)).trans hw561_7), ((HB.out.cell (World.block_lt_of_cell? w _ hw561_8)).trans hw561_8), ((HB.out.cell (World.block_lt_of_cell? w _ hw563_0)).trans hw563_0), ((HB.out.cell (World.block_lt_of_cell? w _ hw563_1)).trans hw563_1), ((HB.out.cell (World.block_lt_of_cell? w _ hw563_2)).trans hw563_2), ((HB.out.cell (World.block_lt_of_cell? w _ hw563_3)).trans hw563_3), ((HB.out.cell (World.block_lt_of_cell? w _ hw563_4)).trans hw563_4), ((HB.out.cell (World.block_lt_of_cell? w _ hw563_5)).trans hw563_5), ((HB.out.cell (World.block_lt_of_cell? w _ hw563_6)).trans hw563_6), ((HB.out.cell (World.block_lt_of_cell? w _ hw563_7)).trans hw563_7), ((HB.out.cell (World.block_lt_of_cell? w _ hw563_8)).trans hw563_8), ((HB.out.cell (World.block_lt_of_cell? w _ hw564_0)).trans hw564_0), ((HB.out.cell (World.block_lt_of_cell? w _ hw564_1)).trans hw564_1), ((HB.out.cell (World.block_lt_of_cell? w _ hw564_2)).trans hw564_2), ((HB.out.cell (World.block_lt_of_cell? w _ hw564_3)).trans hw564_3), ((HB.out.cell (World.block_lt_of_cell? w _ hw564_4)).trans hw564_4), ((HB.out.cell (World.block_lt_of_cell? w _ hw564_5)).trans hw564_5), ((HB.out.cell (World.block_lt_of_cell? w _ hw564_6)).trans hw564_6), ((HB.out.cell (World.block_lt_of_cell? w _ hw564_7)).trans hw564_7), ((HB.out.cell (World.block_lt_of_cell? w _ hw564_8)).trans hw564_8)⟩ (fun hHeld => ?_)
         clear hK K
         refine norm_ (a' := ?_) ?_ ?_
         rotate_left
         ·show Act.put _ (some 83) _ = _
          simp only [Act.put, List.setIfInBounds_toArray, List.set_cons_zero, List.set_cons_succ, i64_w, i32_w]
          rfl
         refine pur_ (i := 18) (N := some 84) q12_19 (any_of HT_.out (by kernel_rfl)) ?_
         refine done_ (done_of HT_.out (by kernel_rfl)) ?_
         try go_wp2
         go_roundg kj40
         case measure => have := HJ3.out; have := HJ15.out; have := HK3.out; have := HJ40.out; omega
         case rel => exact ⟨(wrap64 (x11_3 + 1)), wr_, H', ⟨by have := HJ3.out; have := HJ15.out; have := HK3.out; have := HJ40.out; omega⟩, ⟨wV_ HO_546008.out⟩, ⟨wV_ HO_559008.out⟩, ⟨wB_ BK545.out⟩, ⟨wB_ BK558.out⟩, ⟨wb2_ HB.out GE545.out GE558.out⟩⟩
end Go.Proofs.YtfljbidecljlcaaDoor.Print

namespace Go.Proofs.YtfljbidecljlcaaDoor
open Go.RowKit Go.Proofs.YtfljbidecljlcaaDoor.Print Go.Proofs.YtfljbidecljlcaaDoorW.PrintWords
set_option linter.unusedVariables false
theorem find_f {l : List Node} (hr : riseB l = true) (hz : nodesZ l = true) (p : ByteArray) : tree_Find.f l p = some (tupN (findF l p)) := by unfold tree_Find.f; rw [if_pos ⟨hr, hz⟩]
theorem same_f (l r : List Node) (h1 : l.length ≤ 1000000000000) (h2 : r.length ≤ 1000000000000) : tree_Same.f l r = some (sameB l r) := by unfold tree_Same.f; rw [if_pos ⟨h1, h2⟩]
theorem finds_j3_false (l r : List Node) (hz : ∀ x ∈ l, NodeZ x) (h1 : l.length ≤ 60) (h2 : r.length ≤ 60) (i : Int) : Ev (fun k => bindlelaw10_TreeFinds.j3 k l r i false) true := by
 refine Ev.step (g := fun k => bindlelaw10_TreeFinds.j3 k l r i false) (f := fun k => (bindlelaw10_answers.f).bind fun t514 => (if t514 = true then ((tree_Same.f l r).bind fun t515 => ((bindleref08_SameTree.f k l r).bind fun t516 => (if (t515 == t516) = true then ((bindleref08_OwnTree.f k l).bind fun t517 => ((tree_Same.f l t517).bind fun t520 => (some t520))) else (some false)))) else (some false))) (fun k => by rw [bindlelaw10_TreeFinds.j3, if_neg (by simp)]) ?_
 refine Ev.bind (g := fun _ => bindlelaw10_answers.f) (Ev.now true) ?_
 refine Ev.congr (f := fun k => (tree_Same.f l r).bind fun t515 => ((bindleref08_SameTree.f k l r).bind fun t516 => (if (t515 == t516) = true then ((bindleref08_OwnTree.f k l).bind fun t517 => ((tree_Same.f l t517).bind fun t520 => (some t520))) else (some false)))) (fun k => if_pos rfl) ?_
 rw [same_f l r (by omega) (by omega)]
 simp only [Option.bind_some]
 refine Ev.bind (sameTree_eq l r (by omega)) ?_
 refine Ev.congr (f := fun k => (bindleref08_OwnTree.f k l).bind fun t517 => ((tree_Same.f l t517).bind fun t520 => (some t520))) (fun k => if_pos (beq_self_eq_true _)) ?_
 refine Ev.bind (ownTree_eq l (by omega) (fun x hx => (hz x hx).2.2.2)) ?_
 refine Ev.congr (f := fun _ => some true) (fun k => ?_) (Ev.now _)
 rw [same_f l l (by omega) (by omega), sameB_refl]
 rfl
theorem finds_l (l r : List Node) (hz : ∀ x ∈ l, NodeZ x) (h1 : l.length ≤ 60) (h2 : r.length ≤ 60) : ∀ (d i : Nat), i + d = l.length → Ev (fun k => bindlelaw10_TreeFinds.l0 k l r (i : Int)) true := by
 intro d
 induction d with
 | zero =>
  intro i hi
  exact Ev.step (fun k => by rw [bindlelaw10_TreeFinds.l0, if_neg (by omega)]) (finds_j3_false l r hz h1 h2 _)
 | succ d ih =>
  intro i hi
  have hil : i < l.length := by omega
  refine Ev.step (f := fun k => bindlelaw10_TreeFinds.j3 k l r (i : Int) (decide ((i : Int) < (r.length : Int)))) (fun k => by rw [bindlelaw10_TreeFinds.l0, if_pos (by omega)]) ?_
  by_cases hir : i < r.length
  ·rw [decide_eq_true (show (i : Int) < (r.length : Int) by omega)]
   refine Ev.step (fun k => ?_) (ih (i + 1) (by omega))
   rw [bindlelaw10_TreeFinds.j3, if_pos rfl, if_pos (by omega), if_pos (by omega), if_pos (by omega), rdN_nat' l i hil, rdN_nat' r i hir, tequal_f, requal_f]
   simp only [Option.bind_some]
   rw [if_neg (by simp)]
   rw [show wrap64 ((i : Int) + 1) = ((i + 1 : Nat) : Int) by unfold wrap64; omega]
  ·rw [decide_eq_false (show ¬ (i : Int) < (r.length : Int) by omega)]
   exact finds_j3_false l r hz h1 h2 _
theorem tequal_t (t : Option Node) : tree_Equal.f (tupN t).1 (tupN t).2.1 (tupN t).2.2.1 (tupN t).2.2.2.1 (tupN t).2.2.2.2.1 (tupN t).2.2.2.2.2.1 (tupN t).2.2.2.2.2.2.1 (tupN t).2.2.2.2.2.2.2.1 (tupN t).2.2.2.2.2.2.2.2.1 (tupN t).1 (tupN t).2.1 (tupN t).2.2.1 (tupN t).2.2.2.1 (tupN t).2.2.2.2.1 (tupN t).2.2.2.2.2.1 (tupN t).2.2.2.2.2.2.1 (tupN t).2.2.2.2.2.2.2.1 (tupN t).2.2.2.2.2.2.2.2.1 = some true := by
 cases t with
 | none => exact (tequal_f z40 z40).trans (by rw [equalB_refl])
 | some x => exact (tequal_f x x).trans (by rw [equalB_refl])
theorem finds_j0_true (l r : List Node) (p : ByteArray) : Ev (fun k => bindlelaw10_TreeFinds.j0 k l r p true) true :=
 Ev.step (f := fun _ => some true) (fun k => by rw [bindlelaw10_TreeFinds.j0, if_pos rfl]; rfl) (Ev.now _)
theorem TreeFinds_true (l r : List Node) (p : ByteArray) (hz : ∀ x ∈ l, NodeZ x) (hlen : l.length ≤ 140737488351232) (hz2 : ∀ x ∈ r, NodeZ x) (hlen2 : r.length ≤ 140737488351232) : Ev (fun k => bindlelaw10_TreeFinds.f k l r p) true := by
 obtain ⟨b, h1, h2⟩ := slight_eq l hz hlen
 obtain ⟨b', h1', h2'⟩ := slight_eq r hz2 hlen2
 unfold bindlelaw10_TreeFinds.f
 refine Ev.bind h1 ?_
 cases b with
 | false => exact Ev.congr (fun k => if_neg (by simp)) (finds_j0_true l r p)
 | true =>
  refine Ev.congr (fun k => if_pos rfl) ?_
  refine Ev.bind h1' ?_
  cases b' with
  | false => exact Ev.congr (fun k => if_neg (by simp)) (finds_j0_true l r p)
  | true =>
   obtain ⟨hn, hg⟩ := slight_Z hz (h2 rfl)
   have hs := h2 rfl
   have hs' := h2' rfl
   refine Ev.congr (f := fun k => bindlelaw10_TreeFinds.j0 k l r p (!goodTree l)) (fun k => ?_) ?_
   ·rw [if_pos rfl]
    unfold bindleref08_GoodTree.f
    rw [if_pos hn]
    rfl
   ·cases hgt : goodTree l with
    | false => exact finds_j0_true l r p
    | true =>
     have hr := (good_parts hgt).1
     refine Ev.step (f := fun k => (bindleref08_Find.f k l p).bind fun bt494 => (if ((tupN (findF l p)).2.2.2.2.2.2.2.2.2 != bt494.2.2.2.2.2.2.2.2.2) = true then (bindlelaw10_TreeFinds.j1 k l r true) else ((tree_Equal.f (tupN (findF l p)).1 (tupN (findF l p)).2.1 (tupN (findF l p)).2.2.1 (tupN (findF l p)).2.2.2.1 (tupN (findF l p)).2.2.2.2.1 (tupN (findF l p)).2.2.2.2.2.1 (tupN (findF l p)).2.2.2.2.2.2.1 (tupN (findF l p)).2.2.2.2.2.2.2.1 (tupN (findF l p)).2.2.2.2.2.2.2.2.1 bt494.1 bt494.2.1 bt494.2.2.1 bt494.2.2.2.1 bt494.2.2.2.2.1 bt494.2.2.2.2.2.1 bt494.2.2.2.2.2.2.1 bt494.2.2.2.2.2.2.2.1 bt494.2.2.2.2.2.2.2.2.1).bind fun t507 => (if t507 = true then (bindlelaw10_TreeFinds.j1 k l r ((tupN (findF l p)).2.2.1.toList != bt494.2.2.1.toList)) else (bindlelaw10_TreeFinds.j1 k l r true))))) (fun k => by rw [bindlelaw10_TreeFinds.j0, Bool.not_true, if_neg (by simp), find_f hr hn]; rfl) ?_
     refine Ev.bind (rfind_eq l p (by have := hs.1; omega)) ?_
     refine Ev.congr (f := fun k => bindlelaw10_TreeFinds.j1 k l r false) (fun k => ?_) ?_
     ·rw [if_neg (by simp), tequal_t, Option.bind_some, if_pos rfl]
      simp
     ·exact Ev.step (f := fun k => bindlelaw10_TreeFinds.l0 k l r ((0 : Nat) : Int)) (fun k => by rw [bindlelaw10_TreeFinds.j1, if_neg (by simp)]; rfl) (finds_l l r hz hs.1 hs'.1 l.length 0 (by omega))
end Go.Proofs.YtfljbidecljlcaaDoor

namespace Go.Proofs.YtfljbidecljlcaaDoor
open Go.RowKit Go.Lib Go.Proofs.YtfljbidecljlcaaDoorW.PrintWords
theorem laidOut : laidOutB Tryd.prog = true := by kernel_rfl
end Go.Proofs.YtfljbidecljlcaaDoor

namespace Go.Proofs.YtfljbidecljlcaaDoor
open Go.ChangeShapes Go.WideShapes Go.RowKit Go.Proofs.YtfljbidecljlcaaDoorW.PrintWords
structure Opens {α : Type} (P : Program) (d : Kd α) (t : TypeId) (B : α → Prop) : Prop where
 sz : P.cellsOf t = d.sz
 get : ∀ {H : Type} {enc : TypeId × Value → H} {W : World} {fuel : Nat} {cs : List Value} {x : DataW H × List MemPlace},
  DataW.trod enc P W 0 (fun _ => true) true fuel t cs = some x → (∀ n ∈ x.1.weights P t, n ≤ reachBytes) → ∃ a, d.K W a cs ∧ B a
theorem Opens.int {P : Program} {t : TypeId} {k : IntKind} (ht : P.underlying t = some (.int k)) (hc : P.cellsOf t = 1) : Opens P (Kd.int k) t (fun n => (Lit.int k n).wf = true) :=
 ⟨hc, fun h _ => by
  obtain ⟨n, rfl, rfl, hw⟩ := DataW.trod_int ht h
  exact ⟨n, rfl, hw⟩⟩
theorem Opens.bool {P : Program} {t : TypeId} (ht : P.underlying t = some .bool) (hc : P.cellsOf t = 1) : Opens P Kd.bool t (fun _ => True) :=
 ⟨hc, fun h _ => by
  obtain ⟨n, rfl, rfl⟩ := DataW.trod_bool ht h
  exact ⟨n, rfl, trivial⟩⟩
theorem Opens.string {P : Program} {t : TypeId} (ht : P.underlying t = some .string) (hc : P.cellsOf t = 1) : Opens P Kd.string t (fun s => s.size ≤ 140737488351232) :=
 ⟨hc, fun h hw => by
  obtain ⟨s, rfl, rfl, _⟩ := DataW.trod_string ht h
  refine ⟨s, rfl, ?_⟩
  have := hw s.data.toList.length (by simp [DataW.weights])
  have e : s.data.toList.length = s.size := by simp
  rw [e] at this
  exact this⟩
theorem each_list {α : Type} {Q : Nat → α → Prop} : ∀ n : Nat, (∀ i, i < n → ∃ x, Q i x) → ∃ xs : List α, xs.length = n ∧ ∀ i x, xs[i]? = some x → Q i x := by
 intro n
 induction n with
 | zero => exact fun _ => ⟨[], rfl, fun i x h => by simp at h⟩
 | succ n ih =>
  intro h
  obtain ⟨xs, hl, hx⟩ := ih (fun i hi => h i (by omega))
  obtain ⟨y, hy⟩ := h n (by omega)
  refine ⟨xs ++ [y], by simp [hl], fun i x hi => ?_⟩
  rcases Nat.lt_or_ge i n with h1 | h1
  ·rw [List.getElem?_append_left (by omega)] at hi
   exact hx i x hi
  ·rw [List.getElem?_append_right (by omega)] at hi
   have h0 : i - xs.length = 0 := by
    have := (List.getElem?_eq_some_iff.1 hi).1
    simp at this
    omega
   rw [h0] at hi
   simp at hi
   subst hi
   obtain rfl : i = n := by omega
   exact hy
theorem weights_all {H : Type} {P : Program} {e : TypeId} : ∀ {l : List (DataW H)} {y : DataW H}, y ∈ l → ∀ n ∈ y.weights P e, n ∈ DataW.weightsAll P e l
 | z :: r, y, hy, n, hn => by
  simp only [DataW.weightsAll, List.mem_append]
  rcases List.mem_cons.1 hy with rfl | hy
  ·exact .inl hn
  ·exact .inr (weights_all hy n hn)
theorem add_add (a : Addr) (x y : Nat) : (a.add x).add y = a.add (x + y) := by
 unfold Addr.add
 split
 ·rename_i h
  subst h
  simp
 ·rename_i h
  split
  ·rename_i h2
   subst h2
   simp [h]
  ·rw [if_neg (by omega)]
   simp [Nat.add_assoc]
theorem Opens.slice {α : Type} {P : Program} {d : Kd α} {B : α → Prop} {t e : TypeId} (ht : P.underlying t = some (.slice e)) (hc : P.cellsOf t = 1) (h : Opens P d e B) :
  Opens P (Kd.slice e d) t (fun xs => xs.length * P.bytesOf e ≤ 140737488351232 ∧ ∀ x ∈ xs, B x) :=
 ⟨hc, fun {H enc W fuel cs x} hf hw => by
  rcases DataW.trod_slice ht hf with ⟨rfl, rfl⟩ | ⟨a, len, cap, elems, rest, n, _, rfl, rfl, hb, hl, hm, hlen, hel, hsp, hns⟩
  ·exact ⟨[], ⟨none, 0, rfl, Nat.le_refl _, Kd.C_nil d W⟩, by simp, fun x hx => by cases hx⟩
  ·simp only [DataW.weights, ht] at hw
   have each : ∀ i, i < len → ∃ z : α, B z ∧ ∃ c, c.length = d.sz ∧ d.K W z c ∧ ∀ j u, c[j]? = some u → W.cell? (a.add (i * d.sz + j)) = some u := by
    intro i hi
    have h1 := hel i hi
    have hi' : i < elems.length := by omega
    rw [List.getElem?_eq_getElem hi', Option.bind_eq_some_iff] at h1
    obtain ⟨c, hcs, hy⟩ := h1
    obtain ⟨-, h2, h3⟩ := World.cells?_some hcs
    obtain ⟨z, hz, hB⟩ := h.get hy (fun n hn => hw n (by
     simp only [List.mem_cons, List.mem_append]
     exact .inr (.inl (weights_all (List.mem_map.2 ⟨_, List.getElem_mem hi', rfl⟩) n hn))))
    refine ⟨z, hB, c, by rw [h2, h.sz], hz, fun j u hj => ?_⟩
    have hj' : j < P.cellsOf e := by
     have := (List.getElem?_eq_some_iff.1 hj).1
     omega
    have h4 := h3 j hj'
    rw [add_add, h.sz] at h4
    rw [h4, hj]
   obtain ⟨xs, hxl, hxs⟩ := each_list len each
   subst hxl
   have hz := hw _ (List.mem_cons_self ..)
   simp only [List.length_map] at hz
   have h5 : xs.length * P.bytesOf e ≤ (elems.length + rest.length) * P.bytesOf e := Nat.mul_le_mul_right _ (by omega)
   have h6 : reachBytes = 140737488351232 := rfl
   refine ⟨xs, ⟨some a, cap, rfl, hl, rfl, ?_, fun _ => ⟨a, rfl, fun j p hj => (hxs j p hj).2⟩⟩, by omega, fun x hx => ?_⟩
   ·have : maxLen = 9223372036854775807 := rfl
    omega
   ·obtain ⟨i, hi⟩ := List.getElem?_of_mem hx
    exact (hxs i x hi).1⟩
structure OpensF {α : Type} (P : Program) (d : Kd α) (fs : List Field) (o : Nat) (B : α → Prop) : Prop where
 get : ∀ {H : Type} {enc : TypeId × Value → H} {W : World} {n : Nat} {cs : List Value} {xs : List (DataW H × List MemPlace)}, xs.length = fs.length →
  (∀ (i : Nat) (f : Field), fs[i]? = some f → DataW.trod enc P W 0 (fun _ => true) true n f.type ((cs.drop f.offset).take (P.cellsOf f.type)) = xs[i]?) →
  (∀ m ∈ DataW.weightsEach P (fs.map (·.type)) (xs.map (·.1)), m ≤ reachBytes) → ∃ a, d.K W a ((cs.drop o).take d.sz) ∧ B a
theorem OpensF.one {α : Type} {P : Program} {d : Kd α} {B : α → Prop} {f : Field} {o : Nat} (ho : f.offset = o) (h : Opens P d f.type B) : OpensF P d [f] o B := by
 refine ⟨fun {H enc W n cs xs} hl hx hw => ?_⟩
 match xs, hl with
 | [x], _ =>
  have h0 := hx 0 f rfl
  rw [h.sz, ho] at h0
  simp only [List.getElem?_cons_zero] at h0
  exact h.get h0 (fun m hm => hw m (by simp only [List.map_cons, List.map_nil, DataW.weightsEach, List.mem_append]; exact .inl hm))
theorem OpensF.cons {α β : Type} {P : Program} {d : Kd α} {d' : Kd β} {B : α → Prop} {B' : β → Prop} {f : Field} {fs : List Field} {o : Nat} (ho : f.offset = o) (h : Opens P d f.type B) (h' : OpensF P d' fs (o + d.sz) B') :
  OpensF P (Kd.pair d d') (f :: fs) o (fun x => B x.1 ∧ B' x.2) := by
 refine ⟨fun {H enc W n cs xs} hl hx hw => ?_⟩
 match xs, hl with
 | x :: xs, hl =>
  have h0 := hx 0 f rfl
  rw [h.sz, ho] at h0
  simp only [List.getElem?_cons_zero] at h0
  obtain ⟨a, ha, hB⟩ := h.get h0 (fun m hm => hw m (by simp only [List.map_cons, DataW.weightsEach, List.mem_append]; exact .inl hm))
  obtain ⟨b, hb, hB'⟩ := h'.get (enc := enc) (W := W) (n := n) (cs := cs) (xs := xs) (by simpa using hl) (fun i g hg => by have := hx (i + 1) g (by simpa using hg); simpa using this)
   (fun m hm => hw m (by simp only [List.map_cons, DataW.weightsEach, List.mem_append]; exact .inr hm))
  refine ⟨(a, b), ⟨_, _, ?_, ha, hb⟩, hB, hB'⟩
  show (cs.drop o).take (d.sz + d'.sz) = _
  rw [List.take_add, List.drop_drop]
theorem Opens.struct {α β : Type} {P : Program} {d : Kd α} {B : α → Prop} {t : TypeId} {fs : Array Field} (ht : P.underlying t = some (.struct fs)) (hc : P.cellsOf t = d.sz) (h : OpensF P d fs.toList 0 B) (f : β → α) (g : α → β) (hg : ∀ a, f (g a) = a) :
  Opens P (Kd.iso d f) t (fun x => B (f x)) :=
 ⟨hc, fun {H enc W fuel cs x} hf hw => by
  obtain ⟨xs, n, _, rfl, hl, hlen, hx⟩ := DataW.trod_struct ht hf
  simp only [DataW.weights, ht] at hw
  obtain ⟨a, ha, hB⟩ := h.get (enc := enc) (W := W) (n := n) (cs := cs) (xs := xs) (by simpa using hlen) (fun i g hg => hx i g (by simpa using hg)) hw
  refine ⟨g a, ?_, by rw [hg]; exact hB⟩
  show d.K W (f (g a)) cs
  rw [hg]
  rw [List.drop_zero, List.take_of_length_le (by omega)] at ha
  exact ha⟩
theorem Opens.imp {α : Type} {P : Program} {d : Kd α} {t : TypeId} {B B' : α → Prop} (h : Opens P d t B) (hB : ∀ a, B a → B' a) : Opens P d t B' :=
 ⟨h.sz, fun hf hw => by obtain ⟨a, ha, hb⟩ := h.get hf hw; exact ⟨a, ha, hB a hb⟩⟩
theorem Opens.param {α : Type} {P : Program} {d : Kd α} {t : TypeId} {B : α → Prop} (h : Opens P d t B) {H : Type} {enc : TypeId × Value → H} {W : World} {v : Value} {x : DataW H} {p : List MemPlace} {ts : List TypeId} {ds : List (DataW H)} {j : Nat}
  (hsz : (DataW.weightsEach P ts ds).all (· ≤ reachBytes) = true) (hj : ts[j]? = some t) (hd : ds[j]? = some x) (ht : DataW.Trod enc P W 0 (fun _ => true) true t v x p) : ∃ a, d.K W a v.cells.toList ∧ B a := by
 obtain ⟨fuel, hf⟩ := ht
 exact h.get hf (fun n hn => by simpa using List.all_eq_true.1 hsz _ (DataW.weights_mem_each hj hd n hn))
theorem Opens.row {α : Type} {P : Program} {d : Kd α} {t e : TypeId} {B : List α → Prop} (h : Opens P (Kd.slice e d) t B) {H : Type} {enc : TypeId × Value → H} {W : World} {A : Option Addr} {n c : Nat} {x : DataW H} {p : List MemPlace} {ts : List TypeId} {ds : List (DataW H)} {j : Nat}
  (hsz : (DataW.weightsEach P ts ds).all (· ≤ reachBytes) = true) (hj : ts[j]? = some t) (hd : ds[j]? = some x) (ht : DataW.Trod enc P W 0 (fun _ => true) true t (.slice A n c) x p) :
  ∃ xs : List α, xs.length = n ∧ d.C W A n xs ∧ n ≤ c ∧ B xs := by
 obtain ⟨xs, ⟨A', c', he, hl, hC⟩, hB⟩ := h.param hsz hj hd ht
 simp [Value.cells] at he
 obtain ⟨rfl, rfl, rfl⟩ := he
 exact ⟨xs, rfl, hC, hl, hB⟩
end Go.Proofs.YtfljbidecljlcaaDoor

namespace Go.Proofs.YtfljbidecljlcaaDoor
open Go.RowKit Go.Proofs.YtfljbidecljlcaaDoor.Print Go.Proofs.YtfljbidecljlcaaDoorW.PrintWords
theorem o_str : Opens Tryd.prog Kd.string 9 (fun s => s.size ≤ 140737488351232) := Opens.string Tryd.underlying9 (by kernel_rfl)
theorem o_u8 : Opens Tryd.prog (Kd.int .u8) 5 (fun n => (Lit.int .u8 n).wf = true) := Opens.int Tryd.underlying5 (by kernel_rfl)
theorem o_int : Opens Tryd.prog (Kd.int .i64) 3 (fun n => (Lit.int .i64 n).wf = true) := Opens.int Tryd.underlying3 (by kernel_rfl)
theorem o_bytes : Opens Tryd.prog (Kd.slice 5 (Kd.int .u8)) 23 (fun xs => xs.length ≤ 140737488351232) :=
 (Opens.slice Tryd.underlying23 (by kernel_rfl) o_u8).imp (fun xs h => by
  have hb : Tryd.prog.bytesOf 5 = 1 := by kernel_rfl
  have h1 := h.1
  rw [hb] at h1
  omega)
theorem o_meta : Opens Tryd.prog k38 38 (fun _ => True) := by
 have h := Opens.struct Tryd.underlying38 (by kernel_rfl) (OpensF.cons rfl o_int (OpensF.cons rfl o_int (OpensF.cons rfl o_int (OpensF.one rfl o_int)))) (fun x : S38 => (x.f0, x.f1, x.f2, x.f3)) (fun p => ⟨p.1, p.2.1, p.2.2.1, p.2.2.2⟩) (fun _ => rfl)
 exact Opens.imp h (fun _ _ => trivial)
theorem o_node : Opens Tryd.prog k40 40 NodeZ := by
 have h := Opens.struct Tryd.underlying40 (by kernel_rfl) (OpensF.cons rfl o_str (OpensF.cons rfl o_str (OpensF.cons rfl o_str (OpensF.cons rfl o_u8 (OpensF.cons rfl o_meta (OpensF.one rfl o_bytes)))))) (fun x : S40 => (x.f0, x.f1, x.f2, x.f3, x.f4, x.f5)) (fun p => ⟨p.1, p.2.1, p.2.2.1, p.2.2.2.1, p.2.2.2.2.1, p.2.2.2.2.2⟩) (fun _ => rfl)
 exact Opens.imp h (fun _ hx => ⟨hx.1, hx.2.1, hx.2.2.1, hx.2.2.2.2.2⟩)
theorem o_nodes : Opens Tryd.prog (Kd.slice 40 k40) 22 (fun xs => (∀ x ∈ xs, NodeZ x) ∧ xs.length ≤ 140737488351232) :=
 (Opens.slice Tryd.underlying22 (by kernel_rfl) o_node).imp (fun xs h => ⟨h.2, by
  have hb : Tryd.prog.bytesOf 40 = 112 := by kernel_rfl
  have h1 := h.1
  rw [hb] at h1
  omega⟩)
end Go.Proofs.YtfljbidecljlcaaDoor
