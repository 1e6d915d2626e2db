/-
  Part of the proof that LinksClasses answers true: texts put together (wip/bundle.py).
-/
import Derived.Test.YtfljbidecljlcaaDoorCLinksClasses3
import Derived.SizedLaws
import Derived.ChangeSlices
import Derived.OpenShut
namespace Go.Proofs.YtfljbidecljlcaaDoor.Print
open Go.RowKit Go.Proofs.YtfljbidecljlcaaDoorW.PrintWords Go.Proofs.YtfljbidecljlcaaDoorW.PrintLast Go.Proofs.YtfljbidecljlcaaDoorW.PrintMore
attribute [local go_sem] max2_int min2_int max_two min_two max_three min_three max_four min_four   -- for this text's walks alone
set_option linter.unusedVariables false
set_option linter.unusedSimpArgs false
mutual
def bindlelaw11_LinksClasses.l0 : Nat → List (S40) → List (List ByteArray) → Int → Int → Option (Bool)
 | 0, _, _, _, _ => none
 | k + 1, x0, x3, x4, x5 => if x5 < (x3.length : Int) then (if 0 ≤ x5 then (if ((rd_L8 x3 x5).length : Int) = 0 then (bindlelaw11_LinksClasses.j1 k x0 x3 x4 x5 true) else (if x5 > 0 then (if 0 ≤ (wrap64 (x5 - 1)) then (if (wrap64 (x5 - 1)) < (x3.length : Int) then (if 0 < ((rd_L8 x3 (wrap64 (x5 - 1))).length : Int) then (if 0 < ((rd_L8 x3 x5).length : Int) then (bindlelaw11_LinksClasses.j1 k x0 x3 x4 x5 (!(Op.bytesLess ((rdOf ByteArray.empty (rd_L8 x3 (wrap64 (x5 - 1))) 0).toList) ((rdOf ByteArray.empty (rd_L8 x3 x5) 0).toList)))) else (none)) else (none)) else (none)) else (none)) else (bindlelaw11_LinksClasses.j1 k x0 x3 x4 x5 false))) else (none)) else (bindlelaw11_LinksClasses.l2 k x0 x4 0)
def bindlelaw11_LinksClasses.j1 : Nat → List (S40) → List (List ByteArray) → Int → Int → Bool → Option (Bool)
 | 0, _, _, _, _, _ => none
 | k + 1, x0, x3, x4, x5, x47 => if x47 = true then (some false) else (bindlelaw11_LinksClasses.l1 k x0 x3 x4 x5 0)
def bindlelaw11_LinksClasses.l1 : Nat → List (S40) → List (List ByteArray) → Int → Int → Int → Option (Bool)
 | 0, _, _, _, _, _ => none
 | k + 1, x0, x3, x4, x5, x6 => if 0 ≤ x5 then (if x5 < (x3.length : Int) then (if x6 < ((rd_L8 x3 x5).length : Int) then (if 0 ≤ x6 then ((bindleref08_Find.f k x0 (rdOf ByteArray.empty (rd_L8 x3 x5) x6)).bind fun bt311 => (if bt311.2.2.2.2.2.2.2.2.2 = true then (if bt311.2.2.2.1 = 48 then (if 0 < ((rd_L8 x3 x5).length : Int) then (if bt311.2.2.1.toList = (rdOf ByteArray.empty (rd_L8 x3 x5) 0).toList then (if x6 > 0 then (if 0 ≤ (wrap64 (x6 - 1)) then (if (wrap64 (x6 - 1)) < ((rd_L8 x3 x5).length : Int) then (if ((Op.bytesLess ((rdOf ByteArray.empty (rd_L8 x3 x5) (wrap64 (x6 - 1))).toList) ((rdOf ByteArray.empty (rd_L8 x3 x5) x6).toList)) = true) then (bindlelaw11_LinksClasses.l1 k x0 x3 (wrap64 (x4 + 1)) x5 (wrap64 (x6 + 1))) else (some false)) else (none)) else (none)) else (bindlelaw11_LinksClasses.l1 k x0 x3 (wrap64 (x4 + 1)) x5 (wrap64 (x6 + 1)))) else (some false)) else (none)) else (some false)) else (some false))) else (none)) else (bindlelaw11_LinksClasses.l0 k x0 x3 x4 (wrap64 (x5 + 1)))) else (none)) else (none)
def bindlelaw11_LinksClasses.l2 : Nat → List (S40) → Int → Int → Option (Bool)
 | 0, _, _, _ => none
 | k + 1, x0, x4, x9 => if x9 < (x0.length : Int) then (if 0 ≤ x9 then (if ((rd_T40 x0 x9).f3) = 48 then (bindlelaw11_LinksClasses.l2 k x0 (wrap64 (x4 - 1)) (wrap64 (x9 + 1))) else (bindlelaw11_LinksClasses.l2 k x0 x4 (wrap64 (x9 + 1)))) else (none)) else ((bindlelaw11_answers.f).bind fun t331 => (if t331 = true then (some (x4 == 0)) else (some false)))
end
def bindlelaw11_LinksClasses.f (k : Nat) (l0 : List (S40)) : Option (Bool) := (bindlelaw11_light.f k l0).bind fun t298 => (if t298 = true then ((links_Classes.f l0).bind fun t300 => (bindlelaw11_LinksClasses.l0 k l0 t300 0 0)) else ((bindlelaw11_answers.f).bind fun t299 => (some t299)))
set_option maxHeartbeats 8000000 in
set_option maxRecDepth 100000 in
theorem bindlelaw11_LinksClasses.calls (k : Nat) (A0 : Option Addr) (c0 : Nat) (l0 : List (S40)) (r : Bool) (w : World) (hT : Aside0 (Tabs w)) (hr0 : Kd.C k40 w A0 l0.length l0) (hc0 : l0.length ≤ c0) (h : bindlelaw11_LinksClasses.f k l0 = some r) (hTRUE_ : Aside0 (r = true)) :
  Calls Tryd.prog 6 #[.slice A0 l0.length c0] w fun e w' => e = .returned (.bool r) ∧ Below w.heap.size w w' := by
 have hu40 := Tryd.underlying40
 have HR0 := A0_ hr0
 have HC0 := A0_ hc0
 clear hr0 hc0
 have HB := A0_ (Below.refl w.heap.size w)
 have H : ((bindlelaw11_light.f k l0).bind fun t298 => (if t298 = true then ((links_Classes.f l0).bind fun t300 => (bindlelaw11_LinksClasses.l0 k l0 t300 0 0)) else ((bindlelaw11_answers.f).bind fun t299 => (some t299)))) = some r := h
 clear h
 replace H := Option.bind_eq_some_iff.mp H
 obtain ⟨t298, A20, H⟩ := H
 replace H : (if t298 = true then ((links_Classes.f l0).bind fun t300 => (bindlelaw11_LinksClasses.l0 k l0 t300 0 0)) else ((bindlelaw11_answers.f).bind fun t299 => (some t299))) = some r := H
 have A2 := A0_ A20
 clear A20
 by_cases c3 : t298 = true
 rotate_left
 ·replace c3 := Bool.eq_false_iff.mpr c3
  subst c3
  have H1 : ((bindlelaw11_answers.f).bind fun t299 => (some t299)) = some r := by rw [if_neg (show ¬ (false = true) by decide)] at H; exact H
  clear H
  have H := H1
  clear H1
  replace H := Option.bind_eq_some_iff.mp H
  obtain ⟨t299, A730, H⟩ := H
  replace H : (some t299) = some r := H
  have A73 := A0_ A730
  clear A730
  obtain rfl := Option.some.inj H
  go_enter Tryd.func6, Tryd.ntmps6
  go_wp2_with (first | (go_at_call 14; (with_reducible refine (bindlelaw11_light.calls k _ _ l0 false _ ?side1 ?side2 A2.out).mono ?_); (case side1 => exact wc_ HR0.out); (case side2 => exact HC0.out); rintro e w74 ⟨rfl, hb⟩; have n0_ := A0_ (below_step (wb_ HB.out) hb); clear HB; have HB := n0_; clear n0_; (try clear hb); (try clear hb2); (try clear hk); (try clear hi)) | (go_at_call 15; (with_reducible refine (bindlelaw11_answers.calls  t299 _ ?side1 A73.out).mono ?_); (case side1 => exact A0_ (Tabs.below hT.out (wb_ HB.out))); rintro e w75 ⟨rfl, hb⟩; have n0_ := A0_ (below_step (wb_ HB.out) hb); clear HB; have HB := n0_; clear n0_; (try clear hb); (try clear hb2); (try clear hk); (try clear hi)))
  repeat (go_quiet (first | (go_at_call 14; (with_reducible refine (bindlelaw11_light.calls k _ _ l0 false _ ?side1 ?side2 A2.out).mono ?_); (case side1 => exact wc_ HR0.out); (case side2 => exact HC0.out); rintro e w74 ⟨rfl, hb⟩; have n0_ := A0_ (below_step (wb_ HB.out) hb); clear HB; have HB := n0_; clear n0_; (try clear hb); (try clear hb2); (try clear hk); (try clear hi)) | (go_at_call 15; (with_reducible refine (bindlelaw11_answers.calls  t299 _ ?side1 A73.out).mono ?_); (case side1 => exact A0_ (Tabs.below hT.out (wb_ HB.out))); rintro e w75 ⟨rfl, hb⟩; have n0_ := A0_ (below_step (wb_ HB.out) hb); clear HB; have HB := n0_; clear n0_; (try clear hb); (try clear hb2); (try clear hk); (try clear hi))); try go_wp2_with (first | (go_at_call 14; (with_reducible refine (bindlelaw11_light.calls k _ _ l0 false _ ?side1 ?side2 A2.out).mono ?_); (case side1 => exact wc_ HR0.out); (case side2 => exact HC0.out); rintro e w74 ⟨rfl, hb⟩; have n0_ := A0_ (below_step (wb_ HB.out) hb); clear HB; have HB := n0_; clear n0_; (try clear hb); (try clear hb2); (try clear hk); (try clear hi)) | (go_at_call 15; (with_reducible refine (bindlelaw11_answers.calls  t299 _ ?side1 A73.out).mono ?_); (case side1 => exact A0_ (Tabs.below hT.out (wb_ HB.out))); rintro e w75 ⟨rfl, hb⟩; have n0_ := A0_ (below_step (wb_ HB.out) hb); clear HB; have HB := n0_; clear n0_; (try clear hb); (try clear hb2); (try clear hk); (try clear hi))))
  go_ret
  exact ⟨we_, wb_ HB.out⟩
 subst c3
 have H1 : ((links_Classes.f l0).bind fun t300 => (bindlelaw11_LinksClasses.l0 k l0 t300 0 0)) = some r := by rw [if_pos rfl] at H; exact H
 clear H
 have H := H1
 clear H1
 replace H := Option.bind_eq_some_iff.mp H
 obtain ⟨t300, A40, H⟩ := H
 replace H : (bindlelaw11_LinksClasses.l0 k l0 t300 0 0) = some r := H
 have A4 := A0_ A40
 clear A40
 have H' := A0_ H
 clear H
 go_enter Tryd.func6, Tryd.ntmps6
 go_wp2_with (first | (go_at_call 14; (with_reducible refine (bindlelaw11_light.calls k _ _ l0 true _ ?side1 ?side2 A2.out).mono ?_); (case side1 => exact wc_ HR0.out); (case side2 => exact HC0.out); rintro e w5 ⟨rfl, hb⟩; have n0_ := A0_ (below_step (wb_ HB.out) hb); clear HB; have HB := n0_; clear n0_; (try clear hb); (try clear hb2); (try clear hk); (try clear hi)) | (go_at_call 24; (with_reducible refine (links_Classes.calls _ _ l0 t300 _ ?side1 ?side2 A4.out).mono ?_); (case side1 => exact wc_ (Kd.C_below HR0.out HB.out)); (case side2 => exact HC0.out); rintro e w6 ⟨v301, rfl, ho0, hb⟩; have n0_ := A0_ (Kd.S_lower ho0 (below_size (wb_ HB.out))); have n1_ := A0_ (below_step (wb_ HB.out) hb); clear HB; have HO302 := n0_; have HB := n1_; clear n0_ n1_; (try clear hb); (try clear hb2); (try clear hk); (try clear hi); (try clear ho0)))
 repeat (go_quiet (first | (go_at_call 14; (with_reducible refine (bindlelaw11_light.calls k _ _ l0 true _ ?side1 ?side2 A2.out).mono ?_); (case side1 => exact wc_ HR0.out); (case side2 => exact HC0.out); rintro e w5 ⟨rfl, hb⟩; have n0_ := A0_ (below_step (wb_ HB.out) hb); clear HB; have HB := n0_; clear n0_; (try clear hb); (try clear hb2); (try clear hk); (try clear hi)) | (go_at_call 24; (with_reducible refine (links_Classes.calls _ _ l0 t300 _ ?side1 ?side2 A4.out).mono ?_); (case side1 => exact wc_ (Kd.C_below HR0.out HB.out)); (case side2 => exact HC0.out); rintro e w6 ⟨v301, rfl, ho0, hb⟩; have n0_ := A0_ (Kd.S_lower ho0 (below_size (wb_ HB.out))); have n1_ := A0_ (below_step (wb_ HB.out) hb); clear HB; have HO302 := n0_; have HB := n1_; clear n0_ n1_; (try clear hb); (try clear hb2); (try clear hk); (try clear hi); (try clear ho0))); try go_wp2_with (first | (go_at_call 14; (with_reducible refine (bindlelaw11_light.calls k _ _ l0 true _ ?side1 ?side2 A2.out).mono ?_); (case side1 => exact wc_ HR0.out); (case side2 => exact HC0.out); rintro e w5 ⟨rfl, hb⟩; have n0_ := A0_ (below_step (wb_ HB.out) hb); clear HB; have HB := n0_; clear n0_; (try clear hb); (try clear hb2); (try clear hk); (try clear hi)) | (go_at_call 24; (with_reducible refine (links_Classes.calls _ _ l0 t300 _ ?side1 ?side2 A4.out).mono ?_); (case side1 => exact wc_ (Kd.C_below HR0.out HB.out)); (case side2 => exact HC0.out); rintro e w6 ⟨v301, rfl, ho0, hb⟩; have n0_ := A0_ (Kd.S_lower ho0 (below_size (wb_ HB.out))); have n1_ := A0_ (below_step (wb_ HB.out) hb); clear HB; have HO302 := n0_; have HB := n1_; clear n0_ n1_; (try clear hb); (try clear hb2); (try clear hk); (try clear hi); (try clear ho0))))
 go_loopg [4, 5] k (fun kq v4 v5 w' => ∃ (x4_1 : Int) (x5_1 : Int), v4 = .int .i64 x4_1 ∧ v5 = .int .i64 x5_1 ∧ Aside0 (bindlelaw11_LinksClasses.l0 kq l0 t300 x4_1 x5_1 = some r) ∧ Aside0 (kq ≤ k) ∧ Aside0 (Kd.S (Kd.slice 9 Kd.string) 26 w' w.heap.size (fun _ => True) v301 t300) ∧ Aside0 (Below w.heap.size w w'))
 case atStart => exact ⟨(0), (0), wr_, wr_, H', ⟨Nat.le_refl _⟩, ⟨wS_ HO302.out⟩, ⟨wb_ HB.out⟩⟩
 case round =>
  clear H'
  try clear p2
  try clear c3
  try clear c6
  obtain ⟨x4_1, x5_1, rfl, rfl, HA, HK1, HO_3, HB⟩ := hrel
  cases gk with
  | zero => exact absurd HA.out (by simp [bindlelaw11_LinksClasses.l0])
  | succ k1 =>
   have H := HA.out
   clear HA
   simp only [bindlelaw11_LinksClasses.l0] at H
   by_cases c7 : x5_1 < (t300.length : Int)
   rotate_left
   ·rw [if_neg c7] at H
    have c7b0 : decide (x5_1 < (t300.length : Int)) = false := decide_eq_false c7
    clear c7
    have H' := A0_ H
    clear H
    obtain ⟨Ao65, co65, eo65⟩ := Kd.S_slice HO_3.out
    subst eo65
    go_wp2
    repeat (go_quiet (fail); try go_wp2)
    go_loopg [4, 9] k1 (fun kq v4 v9 w' => ∃ (x4_2 : Int) (x9_2 : Int), v4 = .int .i64 x4_2 ∧ v9 = .int .i64 x9_2 ∧ Aside0 (bindlelaw11_LinksClasses.l2 kq l0 x4_2 x9_2 = some r) ∧ Aside0 (kq ≤ k1) ∧ Aside0 (Below w.heap.size w w'))
    case atStart => exact ⟨(x4_1), (0), wr_, wr_, H', ⟨Nat.le_refl _⟩, ⟨wb_ HB.out⟩⟩
    case round =>
     clear H'
     try clear c1
     try clear c2
     try clear p2
     try clear c3
     try clear p3
     try clear q3
     try clear hx3
     try clear qi3
     try clear c6
     try clear p6
     try clear c7
     try clear c7b0
     try clear c10
     try clear c10b0
     try clear c11
     try clear c11b0
     try clear c11b1
     try clear c11b2
     try clear c12
     try clear c12b0
     try clear c14
     try clear c14b0
     try clear c15
     try clear c15b0
     try clear c16
     try clear c16b0
     try clear c16b1
     try clear c17
     try clear c17b0
     try clear c17b1
     try clear c18
     try clear c19
     try clear c19b0
     try clear c20
     try clear c20b0
     try clear c21
     try clear c21b0
     try clear c22
     try clear c22b0
     try clear c24
     try clear c25
     try clear c25b0
     try clear c25b1
     try clear c26
     try clear c26b0
     try clear c26b1
     try clear c27
     try clear c27b0
     try clear c27b1
     try clear c28
     try clear c28b0
     try clear c30
     try clear c30b0
     try clear p30
     try clear q30
     try clear hx30
     try clear c31
     try clear c31b0
     try clear p31
     try clear q31
     try clear hx31
     try clear c32
     try clear c32b0
     try clear p32
     try clear q32
     try clear hx32
     try clear qi32
     try clear p64
     try clear hcz35_0
     try clear hcz35_1
     try clear hcz35_2
     try clear hcz35_3
     try clear hcz35_4
     try clear hcz35_5
     try clear hcz35_6
     try clear hcz35_7
     try clear hcz35_8
     try clear hcz38_0
     try clear hcz38_1
     try clear hcz38_2
     try clear hcz38_3
     try clear hcz38_4
     try clear hcz38_5
     try clear hcz38_6
     try clear hcz38_7
     try clear hcz38_8
     try clear hcz41_0
     try clear hcz41_1
     try clear hcz41_2
     try clear hcz41_3
     try clear hcz41_4
     try clear hcz41_5
     try clear hcz41_6
     try clear hcz41_7
     try clear hcz41_8
     try clear hcz44_0
     try clear hcz44_1
     try clear hcz44_2
     try clear hcz44_3
     try clear hcz44_4
     try clear hcz44_5
     try clear hcz44_6
     try clear hcz44_7
     try clear hcz44_8
     try clear hcz47_0
     try clear hcz47_1
     try clear hcz47_2
     try clear hcz47_3
     try clear hcz47_4
     try clear hcz47_5
     try clear hcz47_6
     try clear hcz47_7
     try clear hcz47_8
     try clear hcz50_0
     try clear hcz50_1
     try clear hcz50_2
     try clear hcz50_3
     try clear hcz50_4
     try clear hcz50_5
     try clear hcz50_6
     try clear hcz50_7
     try clear hcz50_8
     try clear hcz53_0
     try clear hcz53_1
     try clear hcz53_2
     try clear hcz53_3
     try clear hcz53_4
     try clear hcz53_5
     try clear hcz53_6
     try clear hcz53_7
     try clear hcz53_8
     try clear hcz56_0
     try clear hcz56_1
     try clear hcz56_2
     try clear hcz56_3
     try clear hcz56_4
     try clear hcz56_5
     try clear hcz56_6
     try clear hcz56_7
     try clear hcz56_8
     try clear hcz59_0
     try clear hcz59_1
     try clear hcz59_2
     try clear hcz59_3
     try clear hcz59_4
     try clear hcz59_5
     try clear hcz59_6
     try clear hcz59_7
     try clear hcz59_8
     try clear hcz63_0
     try clear hcz63_1
     try clear hcz63_2
     try clear hcz63_3
     try clear hcz63_4
     try clear hcz63_5
     try clear hcz63_6
     try clear hcz63_7
     try clear hcz63_8
     try clear hfz35_0
     try clear hfz35_1
     try clear hfz35_2
     try clear hfz35_3
     try clear hfz35_4
     try clear hfz35_5
     try clear hfz35_6
     try clear hfz35_7
     try clear hfz35_8
     try clear hfz38_0
     try clear hfz38_1
     try clear hfz38_2
     try clear hfz38_3
     try clear hfz38_4
     try clear hfz38_5
     try clear hfz38_6
     try clear hfz38_7
     try clear hfz38_8
     try clear hfz41_0
     try clear hfz41_1
     try clear hfz41_2
     try clear hfz41_3
     try clear hfz41_4
     try clear hfz41_5
     try clear hfz41_6
     try clear hfz41_7
     try clear hfz41_8
     try clear hfz44_0
     try clear hfz44_1
     try clear hfz44_2
     try clear hfz44_3
     try clear hfz44_4
     try clear hfz44_5
     try clear hfz44_6
     try clear hfz44_7
     try clear hfz44_8
     try clear hfz47_0
     try clear hfz47_1
     try clear hfz47_2
     try clear hfz47_3
     try clear hfz47_4
     try clear hfz47_5
     try clear hfz47_6
     try clear hfz47_7
     try clear hfz47_8
     try clear hfz50_0
     try clear hfz50_1
     try clear hfz50_2
     try clear hfz50_3
     try clear hfz50_4
     try clear hfz50_5
     try clear hfz50_6
     try clear hfz50_7
     try clear hfz50_8
     try clear hfz53_0
     try clear hfz53_1
     try clear hfz53_2
     try clear hfz53_3
     try clear hfz53_4
     try clear hfz53_5
     try clear hfz53_6
     try clear hfz53_7
     try clear hfz53_8
     try clear hfz56_0
     try clear hfz56_1
     try clear hfz56_2
     try clear hfz56_3
     try clear hfz56_4
     try clear hfz56_5
     try clear hfz56_6
     try clear hfz56_7
     try clear hfz56_8
     try clear hfz59_0
     try clear hfz59_1
     try clear hfz59_2
     try clear hfz59_3
     try clear hfz59_4
     try clear hfz59_5
     try clear hfz59_6
     try clear hfz59_7
     try clear hfz59_8
     try clear hfz63_0
     try clear hfz63_1
     try clear hfz63_2
     try clear hfz63_3
     try clear hfz63_4
     try clear hfz63_5
     try clear hfz63_6
     try clear hfz63_7
     try clear hfz63_8
     try clear hx303_0
     try clear hx304_0
     try clear hx305_0
     try clear hx306_0
     try clear hx307_0
     try clear hx308_0
     try clear hx309_0
     try clear hx310_0
     try clear hx324_0
     try clear hx325_0
     try clear hx326_0
     try clear hx327_0
     try clear hx328_0
     try clear hx329_0
     try clear p2
     try clear p3
     try clear p303
     try clear p304
     try clear p305
     try clear p306
     try clear p307
     try clear p308
     try clear p309
     try clear p310
     try clear p324
     try clear p325
     try clear p326
     try clear p327
     try clear p328
     try clear p329
     try clear p6
     try clear q3
     try clear q303
     try clear q304
     try clear q305
     try clear q306
     try clear q307
     try clear q308
     try clear q309
     try clear q310
     try clear q324
     try clear q325
     try clear q326
     try clear q327
     try clear q328
     try clear q329
     obtain ⟨x4_2, x9_2, rfl, rfl, HA, HK2, HB⟩ := hrel
     cases gk with
     | zero => exact absurd HA.out (by simp [bindlelaw11_LinksClasses.l2])
     | succ k2 =>
      have H := HA.out
      clear HA
      simp only [bindlelaw11_LinksClasses.l2] at H
      by_cases c66 : x9_2 < (l0.length : Int)
      ·rw [if_pos c66] at H
       have c66b0 : decide (x9_2 < (l0.length : Int)) = true := decide_eq_true c66
       clear c66
       by_cases c67 : 0 ≤ x9_2
       rotate_left
       ·rw [if_neg c67] at H
        exact absurd H (by simp)
       rw [if_pos c67] at H
       have c67b0 : decide (0 ≤ x9_2) = true := decide_eq_true c67
       clear c67
       by_cases c68 : ((rd_T40 l0 x9_2).f3) = 48
       rotate_left
       ·rw [if_neg c68] at H
        have c68b0 : (((rd_T40 l0 x9_2).f3) == 48) = false := beq_eq_false_iff_ne.mpr c68
        have c68b1 : (((rd_T40 l0 x9_2).f3) != 48) = true := bne_iff_ne.mpr c68
        have H' := A0_ H
        clear H
        have p330 : 0 ≤ (x9_2 : Int) := wd_
        have q330 : x9_2 < (l0.length : Int) := wd_
        obtain ⟨ad330, A330_8, c330_8, e330, hx330_0, hx330_1, hx330_2, hx330_3, hx330_4, hx330_5, hx330_6, hx330_7, hx330_8, hl330_8, hi330_8⟩ := at_T40 HR0.out x9_2 p330 q330
        cases e330
        replace hx330_0 := (HB.out.cell (World.block_lt_of_cell? w _ hx330_0)).trans hx330_0
        replace hx330_1 := (HB.out.cell (World.block_lt_of_cell? w _ hx330_1)).trans hx330_1
        replace hx330_2 := (HB.out.cell (World.block_lt_of_cell? w _ hx330_2)).trans hx330_2
        replace hx330_3 := (HB.out.cell (World.block_lt_of_cell? w _ hx330_3)).trans hx330_3
        replace hx330_4 := (HB.out.cell (World.block_lt_of_cell? w _ hx330_4)).trans hx330_4
        replace hx330_5 := (HB.out.cell (World.block_lt_of_cell? w _ hx330_5)).trans hx330_5
        replace hx330_6 := (HB.out.cell (World.block_lt_of_cell? w _ hx330_6)).trans hx330_6
        replace hx330_7 := (HB.out.cell (World.block_lt_of_cell? w _ hx330_7)).trans hx330_7
        replace hx330_8 := (HB.out.cell (World.block_lt_of_cell? w _ hx330_8)).trans hx330_8
        have HR330_8 := A0_ hi330_8
        have HC330_8 := A0_ hl330_8
        clear hi330_8 hl330_8
        replace p330 := eq_true p330
        replace q330 := eq_true q330
        go_wp2
        repeat (go_quiet (fail); try go_wp2)
        go_roundg k2
        case measure => have := HK1.out; have := HK2.out; omega
        case rel => exact ⟨(x4_2), (wrap64 (x9_2 + 1)), wr_, wr_, H', ⟨by have := HK1.out; have := HK2.out; omega⟩, ⟨wb_ HB.out⟩⟩
       rw [if_pos c68] at H
       have c68b0 : (((rd_T40 l0 x9_2).f3) == 48) = true := beq_iff_eq.mpr c68
       have c68b1 : (((rd_T40 l0 x9_2).f3) != 48) = false := bne_eq_false_iff_eq.mpr c68
       clear c68
       have H' := A0_ H
       clear H
       have p330 : 0 ≤ (x9_2 : Int) := wd_
       have q330 : x9_2 < (l0.length : Int) := wd_
       obtain ⟨ad330, A330_8, c330_8, e330, hx330_0, hx330_1, hx330_2, hx330_3, hx330_4, hx330_5, hx330_6, hx330_7, hx330_8, hl330_8, hi330_8⟩ := at_T40 HR0.out x9_2 p330 q330
       cases e330
       replace hx330_0 := (HB.out.cell (World.block_lt_of_cell? w _ hx330_0)).trans hx330_0
       replace hx330_1 := (HB.out.cell (World.block_lt_of_cell? w _ hx330_1)).trans hx330_1
       replace hx330_2 := (HB.out.cell (World.block_lt_of_cell? w _ hx330_2)).trans hx330_2
       replace hx330_3 := (HB.out.cell (World.block_lt_of_cell? w _ hx330_3)).trans hx330_3
       replace hx330_4 := (HB.out.cell (World.block_lt_of_cell? w _ hx330_4)).trans hx330_4
       replace hx330_5 := (HB.out.cell (World.block_lt_of_cell? w _ hx330_5)).trans hx330_5
       replace hx330_6 := (HB.out.cell (World.block_lt_of_cell? w _ hx330_6)).trans hx330_6
       replace hx330_7 := (HB.out.cell (World.block_lt_of_cell? w _ hx330_7)).trans hx330_7
       replace hx330_8 := (HB.out.cell (World.block_lt_of_cell? w _ hx330_8)).trans hx330_8
       have HR330_8 := A0_ hi330_8
       have HC330_8 := A0_ hl330_8
       clear hi330_8 hl330_8
       replace p330 := eq_true p330
       replace q330 := eq_true q330
       go_wp2
       repeat (go_quiet (fail); try go_wp2)
       go_roundg k2
       case measure => have := HK1.out; have := HK2.out; omega
       case rel => exact ⟨(wrap64 (x4_2 - 1)), (wrap64 (x9_2 + 1)), wr_, wr_, H', ⟨by have := HK1.out; have := HK2.out; omega⟩, ⟨wb_ HB.out⟩⟩
      rw [if_neg c66] at H
      have c66b0 : decide (x9_2 < (l0.length : Int)) = false := decide_eq_false c66
      clear c66
      replace H := Option.bind_eq_some_iff.mp H
      obtain ⟨t331, A690, H⟩ := H
      replace H : (if t331 = true then (some (x4_2 == 0)) else (some false)) = some r := H
      have A69 := A0_ A690
      clear A690
      by_cases c70 : t331 = true
      ·subst c70
       have H1 : (some (x4_2 == 0)) = some r := by rw [if_pos rfl] at H; exact H
       clear H
       have H := H1
       clear H1
       obtain rfl := Option.some.inj H
       go_wp2_with (first | (go_at_call 15; (with_reducible refine (bindlelaw11_answers.calls  true _ ?side1 A69.out).mono ?_); (case side1 => exact A0_ (Tabs.below hT.out (wb_ HB.out))); rintro e w71 ⟨rfl, hb⟩; have n0_ := A0_ (below_step (wb_ HB.out) hb); clear HB; have HB := n0_; clear n0_; (try clear hb); (try clear hb2); (try clear hk); (try clear hi)))
       repeat (go_quiet (first | (go_at_call 15; (with_reducible refine (bindlelaw11_answers.calls  true _ ?side1 A69.out).mono ?_); (case side1 => exact A0_ (Tabs.below hT.out (wb_ HB.out))); rintro e w71 ⟨rfl, hb⟩; have n0_ := A0_ (below_step (wb_ HB.out) hb); clear HB; have HB := n0_; clear n0_; (try clear hb); (try clear hb2); (try clear hk); (try clear hi))); try go_wp2_with (first | (go_at_call 15; (with_reducible refine (bindlelaw11_answers.calls  true _ ?side1 A69.out).mono ?_); (case side1 => exact A0_ (Tabs.below hT.out (wb_ HB.out))); rintro e w71 ⟨rfl, hb⟩; have n0_ := A0_ (below_step (wb_ HB.out) hb); clear HB; have HB := n0_; clear n0_; (try clear hb); (try clear hb2); (try clear hk); (try clear hi))))
       go_ret
       exact ⟨we_, wb_ HB.out⟩
      replace c70 := Bool.eq_false_iff.mpr c70
      subst c70
      have H1 : (some false) = some r := by rw [if_neg (show ¬ (false = true) by decide)] at H; exact H
      clear H
      have H := H1
      clear H1
      exact absurd ((Option.some.inj H).trans hTRUE_.out) (by decide)
   rw [if_pos c7] at H
   have c7b0 : decide (x5_1 < (t300.length : Int)) = true := decide_eq_true c7
   clear c7
   have HC8 := A0_ H
   clear H
   obtain ⟨Ao9, co9, eo9⟩ := Kd.S_slice HO_3.out
   subst eo9
   go_upto_region 8 with (fail)
   repeat (go_quiet (fail); go_upto_region 8 with (fail))
   go_cut [47] (fun v47 wc => ∃ (kq : Nat) (x47_7 : Bool), v47 = .bool x47_7 ∧ Aside0 (bindlelaw11_LinksClasses.j1 kq l0 t300 x4_1 x5_1 x47_7 = some r) ∧ Aside0 (kq ≤ k1) ∧ Aside0 (Kd.S (Kd.slice 9 Kd.string) 26 wc w.heap.size (fun _ => True) (.slice Ao9 t300.length co9) t300) ∧ Aside0 (Below w.heap.size w wc))
   case first =>
    have H := HC8.out
    clear HC8
    by_cases c10 : 0 ≤ x5_1
    rotate_left
    ·rw [if_neg c10] at H
     exact absurd H (by simp)
    rw [if_pos c10] at H
    have c10b0 : decide (0 ≤ x5_1) = true := decide_eq_true c10
    clear c10
    (first | rw [c10b0] | (simp only [i64_w, i32_w]; rw [c10b0]) | skip)
    by_cases c11 : ((rd_L8 t300 x5_1).length : Int) = 0
    ·rw [if_pos c11] at H
     have c11b0 : (((rd_L8 t300 x5_1).length : Int) == 0) = true := beq_iff_eq.mpr c11
     have c11b1 : (((rd_L8 t300 x5_1).length : Int) != 0) = false := bne_eq_false_iff_eq.mpr c11
     clear c11
     have H' := A0_ H
     clear H
     have p303 : 0 ≤ (x5_1 : Int) := wd_
     have q303 : x5_1 < (t300.length : Int) := wd_
     obtain ⟨ad303, A303_0, c303_0, e303, hx303_0, hl303_0, hi303_0⟩ := at_L8 (Kd.S_reads' HO_3.out).2.2 x5_1 p303 q303
     cases e303
     obtain ⟨ce303, hce303, hMe303, hcc303⟩ := Kd.S_get HO_3.out [] x5_1 p303 (by first | exact q303 | exact wd_ | (have e_ := (Kd.S_reads' HO_3.out).1; omega))
     obtain ⟨ve303_0, rfl, ge303_0⟩ := hMe303
     have hv303_0 := hcc303 0 _ rfl
     rw [Nat.add_zero, show ((Kd.slice 9 Kd.string)).sz = 1 from rfl, Nat.mul_one] at hv303_0
     replace hv303_0 := Option.some.inj (hv303_0.symm.trans hx303_0)
     rw [hv303_0] at ge303_0
     have HL303_0 := A0_ (show Kd.R Kd.string 9 _ _ _ _ (rd_L8 t300 x5_1) from ge303_0)
     clear hv303_0 ge303_0
     clear hcc303 hce303
     have HR303_0 := A0_ hi303_0
     have HC303_0 := A0_ hl303_0
     clear hi303_0 hl303_0
     replace p303 := eq_true p303
     replace q303 := eq_true q303
     go_wp2
     repeat (go_quiet (fail); try go_wp2)
     go_meet
     case rel => exact ⟨_, (true), wr_, H', ⟨by have := HK1.out; first | omega | exact Nat.le_refl _⟩, ⟨wS_ HO_3.out⟩, ⟨wb_ HB.out⟩⟩
    rw [if_neg c11] at H
    have c11b0 : (((rd_L8 t300 x5_1).length : Int) == 0) = false := beq_eq_false_iff_ne.mpr c11
    have c11b1 : (((rd_L8 t300 x5_1).length : Int) != 0) = true := bne_iff_ne.mpr c11
    have c11b2 : ¬ ((rd_L8 t300 x5_1) = []) := fun h_ => c11 (by rw [h_]; rfl)
    by_cases c12 : x5_1 > 0
    rotate_left
    ·rw [if_neg c12] at H
     have c12b0 : decide (0 < x5_1) = false := decide_eq_false c12
     clear c12
     have H' := A0_ H
     clear H
     have p303 : 0 ≤ (x5_1 : Int) := wd_
     have q303 : x5_1 < (t300.length : Int) := wd_
     obtain ⟨ad303, A303_0, c303_0, e303, hx303_0, hl303_0, hi303_0⟩ := at_L8 (Kd.S_reads' HO_3.out).2.2 x5_1 p303 q303
     cases e303
     obtain ⟨ce303, hce303, hMe303, hcc303⟩ := Kd.S_get HO_3.out [] x5_1 p303 (by first | exact q303 | exact wd_ | (have e_ := (Kd.S_reads' HO_3.out).1; omega))
     obtain ⟨ve303_0, rfl, ge303_0⟩ := hMe303
     have hv303_0 := hcc303 0 _ rfl
     rw [Nat.add_zero, show ((Kd.slice 9 Kd.string)).sz = 1 from rfl, Nat.mul_one] at hv303_0
     replace hv303_0 := Option.some.inj (hv303_0.symm.trans hx303_0)
     rw [hv303_0] at ge303_0
     have HL303_0 := A0_ (show Kd.R Kd.string 9 _ _ _ _ (rd_L8 t300 x5_1) from ge303_0)
     clear hv303_0 ge303_0
     clear hcc303 hce303
     have HR303_0 := A0_ hi303_0
     have HC303_0 := A0_ hl303_0
     clear hi303_0 hl303_0
     replace p303 := eq_true p303
     replace q303 := eq_true q303
     go_wp2
     repeat (go_quiet (fail); try go_wp2)
     go_meet
     case rel => exact ⟨_, (false), wr_, H', ⟨by have := HK1.out; first | omega | exact Nat.le_refl _⟩, ⟨wS_ HO_3.out⟩, ⟨wb_ HB.out⟩⟩
    rw [if_pos c12] at H
    have c12b0 : decide (0 < x5_1) = true := decide_eq_true c12
    clear c12
    obtain ⟨ji13, hji13⟩ : ∃ j_ : Int, (wrap64 (x5_1 - 1)) = j_ := ⟨_, rfl⟩
    replace H : (if 0 ≤ (ji13) then (if (ji13) < (t300.length : Int) then (if 0 < ((rd_L8 t300 (ji13)).length : Int) then (if 0 < ((rd_L8 t300 x5_1).length : Int) then (bindlelaw11_LinksClasses.j1 k1 l0 t300 x4_1 x5_1 (!(Op.bytesLess ((rdOf ByteArray.empty (rd_L8 t300 (ji13)) 0).toList) ((rdOf ByteArray.empty (rd_L8 t300 x5_1) 0).toList)))) else (none)) else (none)) else (none)) else (none)) = some r := by first | (rw [hji13] at H; exact H) | (simp only [hji13] at H ⊢; exact H)
    have hji13w : (IntKind.i64.wrap (x5_1 - 1)) = ji13 := (i64_w _).trans hji13
    by_cases c14 : 0 ≤ (ji13)
    rotate_left
    ·rw [if_neg c14] at H
     exact absurd H (by simp)
    rw [if_pos c14] at H
    have c14b0 : decide (0 ≤ (ji13)) = true := decide_eq_true c14
    clear c14
    by_cases c15 : (ji13) < (t300.length : Int)
    rotate_left
    ·rw [if_neg c15] at H
     exact absurd H (by simp)
    rw [if_pos c15] at H
    have c15b0 : decide ((ji13) < (t300.length : Int)) = true := decide_eq_true c15
    clear c15
    by_cases c16 : 0 < ((rd_L8 t300 (ji13)).length : Int)
    rotate_left
    ·rw [if_neg c16] at H
     exact absurd H (by simp)
    rw [if_pos c16] at H
    have c16b0 : decide (0 < ((rd_L8 t300 (ji13)).length : Int)) = true := decide_eq_true c16
    have c16b1 : decide (0 < (rd_L8 t300 (ji13)).length) = true := decide_eq_true (by omega)
    clear c16
    by_cases c17 : 0 < ((rd_L8 t300 x5_1).length : Int)
    rotate_left
    ·rw [if_neg c17] at H
     exact absurd H (by simp)
    rw [if_pos c17] at H
    have c17b0 : decide (0 < ((rd_L8 t300 x5_1).length : Int)) = true := decide_eq_true c17
    have c17b1 : decide (0 < (rd_L8 t300 x5_1).length) = true := decide_eq_true (by omega)
    clear c17
    have H' := A0_ H
    clear H
    have p303 : 0 ≤ (x5_1 : Int) := wd_
    have q303 : x5_1 < (t300.length : Int) := wd_
    obtain ⟨ad303, A303_0, c303_0, e303, hx303_0, hl303_0, hi303_0⟩ := at_L8 (Kd.S_reads' HO_3.out).2.2 x5_1 p303 q303
    cases e303
    obtain ⟨ce303, hce303, hMe303, hcc303⟩ := Kd.S_get HO_3.out [] x5_1 p303 (by first | exact q303 | exact wd_ | (have e_ := (Kd.S_reads' HO_3.out).1; omega))
    obtain ⟨ve303_0, rfl, ge303_0⟩ := hMe303
    have hv303_0 := hcc303 0 _ rfl
    rw [Nat.add_zero, show ((Kd.slice 9 Kd.string)).sz = 1 from rfl, Nat.mul_one] at hv303_0
    replace hv303_0 := Option.some.inj (hv303_0.symm.trans hx303_0)
    rw [hv303_0] at ge303_0
    have HL303_0 := A0_ (show Kd.R Kd.string 9 _ _ _ _ (rd_L8 t300 x5_1) from ge303_0)
    clear hv303_0 ge303_0
    clear hcc303 hce303
    have HR303_0 := A0_ hi303_0
    have HC303_0 := A0_ hl303_0
    clear hi303_0 hl303_0
    replace p303 := eq_true p303
    replace q303 := eq_true q303
    have p304 : 0 ≤ ((ji13) : Int) := wd_
    have q304 : (ji13) < (t300.length : Int) := wd_
    obtain ⟨ad304, A304_0, c304_0, e304, hx304_0, hl304_0, hi304_0⟩ := at_L8 (Kd.S_reads' HO_3.out).2.2 (ji13) p304 q304
    obtain rfl : ad303 = ad304 := (by injection e304)
    obtain ⟨ce304, hce304, hMe304, hcc304⟩ := Kd.S_get HO_3.out [] (ji13) p304 (by first | exact q304 | exact wd_ | (have e_ := (Kd.S_reads' HO_3.out).1; omega))
    obtain ⟨ve304_0, rfl, ge304_0⟩ := hMe304
    have hv304_0 := hcc304 0 _ rfl
    rw [Nat.add_zero, show ((Kd.slice 9 Kd.string)).sz = 1 from rfl, Nat.mul_one] at hv304_0
    replace hv304_0 := Option.some.inj (hv304_0.symm.trans hx304_0)
    rw [hv304_0] at ge304_0
    have HL304_0 := A0_ (show Kd.R Kd.string 9 _ _ _ _ (rd_L8 t300 (ji13)) from ge304_0)
    clear hv304_0 ge304_0
    clear hcc304 hce304
    have HR304_0 := A0_ hi304_0
    have HC304_0 := A0_ hl304_0
    clear hi304_0 hl304_0
    replace p304 := eq_true p304
    replace q304 := eq_true q304
    have p305 : 0 ≤ (0 : Int) := (by omega)
    have q305 : 0 < ((rd_L8 t300 (ji13)).length : Int) := wd_
    obtain ⟨ad305, e305, hx305_0⟩ := Kd.at_string (by repeat (first | (with_reducible exact HR304_0.out) | (with_reducible refine Ca_ ?_ _) | (with_reducible refine CN_ ?_ _) | (with_reducible refine C1_ ?_) | exact HR304_0.out)) 0 p305 q305
    cases e305
    have qi305 : (0 < (rd_L8 t300 (ji13)).length) = True := eq_true (by omega)
    (try rw [show ((0 : Int)).toNat = 0 from rfl] at hx305_0)
    (try rw [Addr.add_zero'] at hx305_0)
    replace p305 := eq_true p305
    replace q305 := eq_true q305
    have p306 : 0 ≤ (x5_1 : Int) := wd_
    have q306 : x5_1 < (t300.length : Int) := wd_
    obtain ⟨ad306, A306_0, c306_0, e306, hx306_0, hl306_0, hi306_0⟩ := at_L8 (Kd.S_reads' HO_3.out).2.2 x5_1 p306 q306
    obtain rfl : ad303 = ad306 := (by injection e306)
    obtain ⟨ce306, hce306, hMe306, hcc306⟩ := Kd.S_get HO_3.out [] x5_1 p306 (by first | exact q306 | exact wd_ | (have e_ := (Kd.S_reads' HO_3.out).1; omega))
    obtain ⟨ve306_0, rfl, ge306_0⟩ := hMe306
    have hv306_0 := hcc306 0 _ rfl
    rw [Nat.add_zero, show ((Kd.slice 9 Kd.string)).sz = 1 from rfl, Nat.mul_one] at hv306_0
    replace hv306_0 := Option.some.inj (hv306_0.symm.trans hx306_0)
    rw [hv306_0] at ge306_0
    have HL306_0 := A0_ (show Kd.R Kd.string 9 _ _ _ _ (rd_L8 t300 x5_1) from ge306_0)
    clear hv306_0 ge306_0
    clear hcc306 hce306
    have HR306_0 := A0_ hi306_0
    have HC306_0 := A0_ hl306_0
    clear hi306_0 hl306_0
    replace p306 := eq_true p306
    replace q306 := eq_true q306
    have ea_ := Option.some.inj (hx303_0.symm.trans hx306_0)
    injection ea_ with ea_ en_ ec_
    subst ea_
    subst ec_
    clear en_
    have p307 : 0 ≤ (0 : Int) := (by omega)
    have q307 : 0 < ((rd_L8 t300 x5_1).length : Int) := wd_
    obtain ⟨ad307, e307, hx307_0⟩ := Kd.at_string (by repeat (first | (with_reducible exact HR306_0.out) | (with_reducible refine Ca_ ?_ _) | (with_reducible refine CN_ ?_ _) | (with_reducible refine C1_ ?_) | exact HR306_0.out)) 0 p307 q307
    cases e307
    have qi307 : (0 < (rd_L8 t300 x5_1).length) = True := eq_true (by omega)
    (try rw [show ((0 : Int)).toNat = 0 from rfl] at hx307_0)
    (try rw [Addr.add_zero'] at hx307_0)
    replace p307 := eq_true p307
    replace q307 := eq_true q307
    go_wp2
    repeat (go_quiet (fail); try go_wp2)
    go_meet
    case rel => exact ⟨_, (!(Op.bytesLess ((rdOf ByteArray.empty (rd_L8 t300 (ji13)) 0).toList) ((rdOf ByteArray.empty (rd_L8 t300 x5_1) 0).toList))), (by first | rfl | (simp; done) | (simp only [← hji13] <;> (first | rfl | simp)) | (simp [*]; done)), H', ⟨by have := HK1.out; first | omega | exact Nat.le_refl _⟩, ⟨wS_ HO_3.out⟩, ⟨wb_ HB.out⟩⟩
   case rest =>
    clear HC8
    try clear c1
    try clear p2
    try clear c3
    try clear p3
    try clear q3
    try clear hx3
    try clear qi3
    try clear c6
    try clear p6
    try clear c7
    try clear c7b0
    try clear c10
    try clear c10b0
    try clear c11
    try clear c11b0
    try clear c11b1
    try clear c11b2
    try clear c12
    try clear c12b0
    try clear c14
    try clear c14b0
    try clear c15
    try clear c15b0
    try clear c16
    try clear c16b0
    try clear c16b1
    try clear c17
    try clear c17b0
    try clear c17b1
    try clear hx303_0
    try clear hx304_0
    try clear hx305_0
    try clear hx306_0
    try clear hx307_0
    try clear p2
    try clear p303
    try clear p304
    try clear p305
    try clear p306
    try clear p307
    try clear q303
    try clear q304
    try clear q305
    try clear q306
    try clear q307
    obtain ⟨kq, x47_7, rfl, HA, HJ7, HO_3, HB⟩ := hcut
    cases kq with
    | zero => exact absurd HA.out (by simp [bindlelaw11_LinksClasses.j1])
    | succ kj7 =>
     have H := HA.out
     clear HA
     simp only [bindlelaw11_LinksClasses.j1] at H
     by_cases c18 : x47_7 = true
     ·subst c18
      have H1 : (some false) = some r := by rw [if_pos rfl] at H; exact H
      clear H
      have H := H1
      clear H1
      exact absurd ((Option.some.inj H).trans hTRUE_.out) (by decide)
     replace c18 := Bool.eq_false_iff.mpr c18
     subst c18
     have H1 : (bindlelaw11_LinksClasses.l1 kj7 l0 t300 x4_1 x5_1 0) = some r := by rw [if_neg (show ¬ (false = true) by decide)] at H; exact H
     clear H
     have H := H1
     clear H1
     have H' := A0_ H
     clear H
     go_wp2
     repeat (go_quiet (fail); try go_wp2)
     go_loopg [4, 6] kj7 (fun kq v4 v6 w' => ∃ (x4_3 : Int) (x6_3 : Int), v4 = .int .i64 x4_3 ∧ v6 = .int .i64 x6_3 ∧ Aside0 (bindlelaw11_LinksClasses.l1 kq l0 t300 x4_3 x5_1 x6_3 = some r) ∧ Aside0 (kq ≤ kj7) ∧ Aside0 (Kd.S (Kd.slice 9 Kd.string) 26 w' w.heap.size (fun _ => True) (.slice Ao9 t300.length co9) t300) ∧ Aside0 (Below w.heap.size w w'))
     case atStart => exact ⟨(x4_1), (0), wr_, wr_, H', ⟨Nat.le_refl _⟩, ⟨wS_ HO_3.out⟩, ⟨wb_ HB.out⟩⟩
     case round =>
      clear H'
      try clear c1
      try clear p2
      try clear c3
      try clear p3
      try clear q3
      try clear hx3
      try clear qi3
      try clear c6
      try clear p6
      try clear c7
      try clear c7b0
      try clear c10
      try clear c10b0
      try clear c11
      try clear c11b0
      try clear c11b1
      try clear c11b2
      try clear c12
      try clear c12b0
      try clear c14
      try clear c14b0
      try clear c15
      try clear c15b0
      try clear c16
      try clear c16b0
      try clear c16b1
      try clear c17
      try clear c17b0
      try clear c17b1
      try clear c18
      try clear hx303_0
      try clear hx304_0
      try clear hx305_0
      try clear hx306_0
      try clear hx307_0
      try clear p2
      try clear p3
      try clear p303
      try clear p304
      try clear p305
      try clear p306
      try clear p307
      try clear p6
      try clear q3
      try clear q303
      try clear q304
      try clear q305
      try clear q306
      try clear q307
      obtain ⟨x4_3, x6_3, rfl, rfl, HA, HK3, HO_3, HB⟩ := hrel
      cases gk with
      | zero => exact absurd HA.out (by simp [bindlelaw11_LinksClasses.l1])
      | succ k3 =>
       have H := HA.out
       clear HA
       simp only [bindlelaw11_LinksClasses.l1] at H
       by_cases c19 : 0 ≤ x5_1
       rotate_left
       ·rw [if_neg c19] at H
        exact absurd H (by simp)
       rw [if_pos c19] at H
       have c19b0 : decide (0 ≤ x5_1) = true := decide_eq_true c19
       clear c19
       by_cases c20 : x5_1 < (t300.length : Int)
       rotate_left
       ·rw [if_neg c20] at H
        exact absurd H (by simp)
       rw [if_pos c20] at H
       have c20b0 : decide (x5_1 < (t300.length : Int)) = true := decide_eq_true c20
       clear c20
       by_cases c21 : x6_3 < ((rd_L8 t300 x5_1).length : Int)
       rotate_left
       ·rw [if_neg c21] at H
        have c21b0 : decide (x6_3 < ((rd_L8 t300 x5_1).length : Int)) = false := decide_eq_false c21
        clear c21
        have H' := A0_ H
        clear H
        have p308 : 0 ≤ (x5_1 : Int) := wd_
        have q308 : x5_1 < (t300.length : Int) := wd_
        obtain ⟨ad308, A308_0, c308_0, e308, hx308_0, hl308_0, hi308_0⟩ := at_L8 (Kd.S_reads' HO_3.out).2.2 x5_1 p308 q308
        cases e308
        obtain ⟨ce308, hce308, hMe308, hcc308⟩ := Kd.S_get HO_3.out [] x5_1 p308 (by first | exact q308 | exact wd_ | (have e_ := (Kd.S_reads' HO_3.out).1; omega))
        obtain ⟨ve308_0, rfl, ge308_0⟩ := hMe308
        have hv308_0 := hcc308 0 _ rfl
        rw [Nat.add_zero, show ((Kd.slice 9 Kd.string)).sz = 1 from rfl, Nat.mul_one] at hv308_0
        replace hv308_0 := Option.some.inj (hv308_0.symm.trans hx308_0)
        rw [hv308_0] at ge308_0
        have HL308_0 := A0_ (show Kd.R Kd.string 9 _ _ _ _ (rd_L8 t300 x5_1) from ge308_0)
        clear hv308_0 ge308_0
        clear hcc308 hce308
        have HR308_0 := A0_ hi308_0
        have HC308_0 := A0_ hl308_0
        clear hi308_0 hl308_0
        replace p308 := eq_true p308
        replace q308 := eq_true q308
        go_wp2
        repeat (go_quiet (fail); try go_wp2)
        go_roundg k3
        case measure => have := HK1.out; have := HJ7.out; have := HK3.out; omega
        case rel => exact ⟨(x4_3), (wrap64 (x5_1 + 1)), wr_, wr_, H', ⟨by have := HK1.out; have := HJ7.out; have := HK3.out; omega⟩, ⟨wS_ HO_3.out⟩, ⟨wb_ HB.out⟩⟩
       rw [if_pos c21] at H
       have c21b0 : decide (x6_3 < ((rd_L8 t300 x5_1).length : Int)) = true := decide_eq_true c21
       clear c21
       by_cases c22 : 0 ≤ x6_3
       rotate_left
       ·rw [if_neg c22] at H
        exact absurd H (by simp)
       rw [if_pos c22] at H
       have c22b0 : decide (0 ≤ x6_3) = true := decide_eq_true c22
       clear c22
       replace H := Option.bind_eq_some_iff.mp H
       obtain ⟨⟨t311, t312, t313, t314, t315, t316, t317, t318, t319, t322⟩, A230, H⟩ := H
       replace H : (if t322 = true then (if t314 = 48 then (if 0 < ((rd_L8 t300 x5_1).length : Int) then (if t313.toList = (rdOf ByteArray.empty (rd_L8 t300 x5_1) 0).toList then (if x6_3 > 0 then (if 0 ≤ (wrap64 (x6_3 - 1)) then (if (wrap64 (x6_3 - 1)) < ((rd_L8 t300 x5_1).length : Int) then (if ((Op.bytesLess ((rdOf ByteArray.empty (rd_L8 t300 x5_1) (wrap64 (x6_3 - 1))).toList) ((rdOf ByteArray.empty (rd_L8 t300 x5_1) x6_3).toList)) = true) then (bindlelaw11_LinksClasses.l1 k3 l0 t300 (wrap64 (x4_3 + 1)) x5_1 (wrap64 (x6_3 + 1))) else (some false)) else (none)) else (none)) else (bindlelaw11_LinksClasses.l1 k3 l0 t300 (wrap64 (x4_3 + 1)) x5_1 (wrap64 (x6_3 + 1)))) else (some false)) else (none)) else (some false)) else (some false)) = some r := H
       have A23 := A0_ A230
       clear A230
       by_cases c24 : t322 = true
       rotate_left
       ·replace c24 := Bool.eq_false_iff.mpr c24
        subst c24
        have H1 : (some false) = some r := by rw [if_neg (show ¬ (false = true) by decide)] at H; exact H
        clear H
        have H := H1
        clear H1
        exact absurd ((Option.some.inj H).trans hTRUE_.out) (by decide)
       subst c24
       have H1 : (if t314 = 48 then (if 0 < ((rd_L8 t300 x5_1).length : Int) then (if t313.toList = (rdOf ByteArray.empty (rd_L8 t300 x5_1) 0).toList then (if x6_3 > 0 then (if 0 ≤ (wrap64 (x6_3 - 1)) then (if (wrap64 (x6_3 - 1)) < ((rd_L8 t300 x5_1).length : Int) then (if ((Op.bytesLess ((rdOf ByteArray.empty (rd_L8 t300 x5_1) (wrap64 (x6_3 - 1))).toList) ((rdOf ByteArray.empty (rd_L8 t300 x5_1) x6_3).toList)) = true) then (bindlelaw11_LinksClasses.l1 k3 l0 t300 (wrap64 (x4_3 + 1)) x5_1 (wrap64 (x6_3 + 1))) else (some false)) else (none)) else (none)) else (bindlelaw11_LinksClasses.l1 k3 l0 t300 (wrap64 (x4_3 + 1)) x5_1 (wrap64 (x6_3 + 1)))) else (some false)) else (none)) else (some false)) = some r := by rw [if_pos rfl] at H; exact H
       clear H
       have H := H1
       clear H1
       by_cases c25 : t314 = 48
       rotate_left
       ·rw [if_neg c25] at H
        have c25b0 : (t314 == 48) = false := beq_eq_false_iff_ne.mpr c25
        have c25b1 : (t314 != 48) = true := bne_iff_ne.mpr c25
        exact absurd ((Option.some.inj H).trans hTRUE_.out) (by decide)
       rw [if_pos c25] at H
       have c25b0 : (t314 == 48) = true := beq_iff_eq.mpr c25
       have c25b1 : (t314 != 48) = false := bne_eq_false_iff_eq.mpr c25
       clear c25
       by_cases c26 : 0 < ((rd_L8 t300 x5_1).length : Int)
       rotate_left
       ·rw [if_neg c26] at H
        exact absurd H (by simp)
       rw [if_pos c26] at H
       have c26b0 : decide (0 < ((rd_L8 t300 x5_1).length : Int)) = true := decide_eq_true c26
       have c26b1 : decide (0 < (rd_L8 t300 x5_1).length) = true := decide_eq_true (by omega)
       clear c26
       by_cases c27 : t313.toList = (rdOf ByteArray.empty (rd_L8 t300 x5_1) 0).toList
       rotate_left
       ·rw [if_neg c27] at H
        have c27b0 : (t313.toList == (rdOf ByteArray.empty (rd_L8 t300 x5_1) 0).toList) = false := beq_eq_false_iff_ne.mpr c27
        have c27b1 : (t313.toList != (rdOf ByteArray.empty (rd_L8 t300 x5_1) 0).toList) = true := bne_iff_ne.mpr c27
        exact absurd ((Option.some.inj H).trans hTRUE_.out) (by decide)
       rw [if_pos c27] at H
       have c27b0 : (t313.toList == (rdOf ByteArray.empty (rd_L8 t300 x5_1) 0).toList) = true := beq_iff_eq.mpr c27
       have c27b1 : (t313.toList != (rdOf ByteArray.empty (rd_L8 t300 x5_1) 0).toList) = false := bne_eq_false_iff_eq.mpr c27
       clear c27
       by_cases c28 : x6_3 > 0
       rotate_left
       ·rw [if_neg c28] at H
        have c28b0 : decide (0 < x6_3) = false := decide_eq_false c28
        clear c28
        have H' := A0_ H
        clear H
        have p308 : 0 ≤ (x5_1 : Int) := wd_
        have q308 : x5_1 < (t300.length : Int) := wd_
        obtain ⟨ad308, A308_0, c308_0, e308, hx308_0, hl308_0, hi308_0⟩ := at_L8 (Kd.S_reads' HO_3.out).2.2 x5_1 p308 q308
        cases e308
        obtain ⟨ce308, hce308, hMe308, hcc308⟩ := Kd.S_get HO_3.out [] x5_1 p308 (by first | exact q308 | exact wd_ | (have e_ := (Kd.S_reads' HO_3.out).1; omega))
        obtain ⟨ve308_0, rfl, ge308_0⟩ := hMe308
        have hv308_0 := hcc308 0 _ rfl
        rw [Nat.add_zero, show ((Kd.slice 9 Kd.string)).sz = 1 from rfl, Nat.mul_one] at hv308_0
        replace hv308_0 := Option.some.inj (hv308_0.symm.trans hx308_0)
        rw [hv308_0] at ge308_0
        have HL308_0 := A0_ (show Kd.R Kd.string 9 _ _ _ _ (rd_L8 t300 x5_1) from ge308_0)
        clear hv308_0 ge308_0
        clear hcc308 hce308
        have HR308_0 := A0_ hi308_0
        have HC308_0 := A0_ hl308_0
        clear hi308_0 hl308_0
        replace p308 := eq_true p308
        replace q308 := eq_true q308
        have p309 : 0 ≤ (x5_1 : Int) := wd_
        have q309 : x5_1 < (t300.length : Int) := wd_
        obtain ⟨ad309, A309_0, c309_0, e309, hx309_0, hl309_0, hi309_0⟩ := at_L8 (Kd.S_reads' HO_3.out).2.2 x5_1 p309 q309
        obtain rfl : ad308 = ad309 := (by injection e309)
        obtain ⟨ce309, hce309, hMe309, hcc309⟩ := Kd.S_get HO_3.out [] x5_1 p309 (by first | exact q309 | exact wd_ | (have e_ := (Kd.S_reads' HO_3.out).1; omega))
        obtain ⟨ve309_0, rfl, ge309_0⟩ := hMe309
        have hv309_0 := hcc309 0 _ rfl
        rw [Nat.add_zero, show ((Kd.slice 9 Kd.string)).sz = 1 from rfl, Nat.mul_one] at hv309_0
        replace hv309_0 := Option.some.inj (hv309_0.symm.trans hx309_0)
        rw [hv309_0] at ge309_0
        have HL309_0 := A0_ (show Kd.R Kd.string 9 _ _ _ _ (rd_L8 t300 x5_1) from ge309_0)
        clear hv309_0 ge309_0
        clear hcc309 hce309
        have HR309_0 := A0_ hi309_0
        have HC309_0 := A0_ hl309_0
        clear hi309_0 hl309_0
        replace p309 := eq_true p309
        replace q309 := eq_true q309
        have ea_ := Option.some.inj (hx308_0.symm.trans hx309_0)
        injection ea_ with ea_ en_ ec_
        subst ea_
        subst ec_
        clear en_
        have p310 : 0 ≤ (x6_3 : Int) := wd_
        have q310 : x6_3 < ((rd_L8 t300 x5_1).length : Int) := wd_
        obtain ⟨ad310, e310, hx310_0⟩ := Kd.at_string (by repeat (first | (with_reducible exact HR309_0.out) | (with_reducible refine Ca_ ?_ _) | (with_reducible refine CN_ ?_ _) | (with_reducible refine C1_ ?_) | exact HR309_0.out)) x6_3 p310 q310
        cases e310
        replace p310 := eq_true p310
        replace q310 := eq_true q310
        go_wp2_with (first | (go_at_call 23; (with_reducible refine (bindleref08_Find.calls k3 (fun k_ => k_ < w.heap.size) _ _ l0 (rdOf ByteArray.empty (rd_L8 t300 x5_1) x6_3) t311 t312 t313 t314 t315 t316 t317 t318 t319 true _ ?side1 A23.out).mono ?_); (case side1 => exact Kd.V_mk HC0.out (Kd.F_below (Kd.C_F k40_heap HR0.out) (wb_ HB.out))); rintro e w45 ⟨v320, rfl, ho0, hb⟩; have n0_ := A0_ (Sb_ (wS_ HO_3.out) hb); have n1_ := A0_ (Rb_ (wR_ HL308_0.out) hb); have n2_ := A0_ (Rb_ (wR_ HL309_0.out) hb); have n3_ := A0_ (Kd.V_lower (Kd.V_mono (ok' := fun k_ => some k_ ≠ (.slice (some ad308) t300.length co9 : Value).ownBlock) ho0 (fun k_ hk_ => Or.elim hk_ (fun hs_ => fun e_ => Nat.not_le.2 hs_ (Kd.S_base HO_3.out k_ e_.symm)) (fun hn_ => (Kd.fresh' (Kd.S_lt (wS_ HO_3.out)) k_ hn_)))) (below_size (wb_ HB.out))); have n4_ := A0_ (Kd.C_below (by repeat (first | (with_reducible exact HR308_0.out) | (with_reducible refine Ca_ ?_ _) | (with_reducible refine CN_ ?_ _) | (with_reducible refine C1_ ?_) | exact HR308_0.out)) hb); have n5_ := A0_ (Kd.C_below (by repeat (first | (with_reducible exact HR309_0.out) | (with_reducible refine Ca_ ?_ _) | (with_reducible refine CN_ ?_ _) | (with_reducible refine C1_ ?_) | exact HR309_0.out)) hb); have n6_ := A0_ (below_step (wb_ HB.out) hb); clear HO_3; clear HL308_0; clear HL309_0; clear HR308_0; clear HR309_0; clear HB; have HO_3 := n0_; have HL308_0 := n1_; have HL309_0 := n2_; have HO321 := n3_; have HR308_0 := n4_; have HR309_0 := n5_; have HB := n6_; clear n0_ n1_ n2_ n3_ n4_ n5_ n6_; (try clear hb); (try clear hb2); (try clear hk); (try clear hi); (try clear ho0)) | ((with_reducible refine gate_dst (N := 7) rfl ?_); refine box_event ?hg (N := 7) ?hd (cs := #[.string (⟨#[]⟩ : ByteArray), .string (⟨#[]⟩ : ByteArray), .string (⟨#[]⟩ : ByteArray), .int .u8 0, .int .i64 0, .int .i64 0, .int .i64 0, .int .i64 0, .slice none 0 0]) (t := 40) ?hr ?_; (case hd => rfl); (case hg => rfl); (case hr => first | (go_simp; done) | (go_simp; rfl)); intro gb323 hg w46 hbox hb; have n0_ := A0_ (Sb_ (wS_ HO_3.out) hb); have n1_ := A0_ (Rb_ (wR_ HL308_0.out) hb); have n2_ := A0_ (Rb_ (wR_ HL309_0.out) hb); have n3_ := A0_ (Vb_ (Kd.V_elderB (wV_ HO321.out) gb323 (Nat.le_of_eq hg.symm)) hb); have n4_ := A0_ (Kd.C_below (by repeat (first | (with_reducible exact HR308_0.out) | (with_reducible refine Ca_ ?_ _) | (with_reducible refine CN_ ?_ _) | (with_reducible refine C1_ ?_) | exact HR308_0.out)) hb); have n5_ := A0_ (Kd.C_below (by repeat (first | (with_reducible exact HR309_0.out) | (with_reducible refine Ca_ ?_ _) | (with_reducible refine CN_ ?_ _) | (with_reducible refine C1_ ?_) | exact HR309_0.out)) hb); have n6_ := A0_ (below_step (wb_ HB.out) hb); have n7_ := A0_ (hbox); have n8_ := A0_ ((by rw [hg]; exact (below_size (wb_ HB.out)) : w.heap.size ≤ gb323)); have n9_ := A0_ ((by rw [hg]; exact (below_size (wb_ HB.out)) : w.heap.size ≤ gb323)); clear HO_3; clear HL308_0; clear HL309_0; clear HO321; clear HR308_0; clear HR309_0; clear HB; have HO_3 := n0_; have HL308_0 := n1_; have HL309_0 := n2_; have HO321 := n3_; have HR308_0 := n4_; have HR309_0 := n5_; have HB := n6_; have BK323 := n7_; have GW323 := n8_; have GE323 := n9_; clear n0_ n1_ n2_ n3_ n4_ n5_ n6_ n7_ n8_ n9_; clear hb hbox hg; have hcz47_0 : w46.cell? ⟨gb323, 0, none⟩ = some (.string (⟨#[]⟩ : ByteArray)) := (bc_ BK323.out 0).trans rfl; have hcz47_1 : w46.cell? ⟨gb323, 1, none⟩ = some (.string (⟨#[]⟩ : ByteArray)) := (bc_ BK323.out 1).trans rfl; have hcz47_2 : w46.cell? ⟨gb323, 2, none⟩ = some (.string (⟨#[]⟩ : ByteArray)) := (bc_ BK323.out 2).trans rfl; have hcz47_3 : w46.cell? ⟨gb323, 3, none⟩ = some (.int .u8 0) := (bc_ BK323.out 3).trans rfl; have hcz47_4 : w46.cell? ⟨gb323, 4, none⟩ = some (.int .i64 0) := (bc_ BK323.out 4).trans rfl; have hcz47_5 : w46.cell? ⟨gb323, 5, none⟩ = some (.int .i64 0) := (bc_ BK323.out 5).trans rfl; have hcz47_6 : w46.cell? ⟨gb323, 6, none⟩ = some (.int .i64 0) := (bc_ BK323.out 6).trans rfl; have hcz47_7 : w46.cell? ⟨gb323, 7, none⟩ = some (.int .i64 0) := (bc_ BK323.out 7).trans rfl; have hcz47_8 : w46.cell? ⟨gb323, 8, none⟩ = some (.slice none 0 0) := (bc_ BK323.out 8).trans rfl; have hfz47_0 := bf_ BK323.out 0; have hfz47_1 := bf_ BK323.out 1; have hfz47_2 := bf_ BK323.out 2; have hfz47_3 := bf_ BK323.out 3; have hfz47_4 := bf_ BK323.out 4; have hfz47_5 := bf_ BK323.out 5; have hfz47_6 := bf_ BK323.out 6; have hfz47_7 := bf_ BK323.out 7; have hfz47_8 := bf_ BK323.out 8; obtain ⟨Ao48, co48, eo48⟩ := Kd.V_slice HO321.out; subst eo48) | ((with_reducible refine gate_store (t := 40) (p := 7) rfl ?_); (try (rw [drewN_self w46]; generalize hq_ : World.drewN w46 _ = w46; have n0_ := A0_ (Kd.S_at hq_ HO_3.out); have n1_ := A0_ (Kd.R_at hq_ HL308_0.out); have n2_ := A0_ (Kd.R_at hq_ HL309_0.out); have n3_ := A0_ (Kd.V_at hq_ HO321.out); have n4_ := A0_ (blk_at hq_ BK323.out); have n5_ := A0_ (Kd.C_at hq_ HR308_0.out); have n6_ := A0_ (Kd.C_at hq_ HR309_0.out); have n7_ := A0_ (below_at hq_ HB.out); clear hq_ HO_3 HL308_0 HL309_0 HO321 BK323 HR308_0 HR309_0 HB; have HO_3 := n0_; have HL308_0 := n1_; have HL309_0 := n2_; have HO321 := n3_; have BK323 := n4_; have HR308_0 := n5_; have HR309_0 := n6_; have HB := n7_; clear n0_ n1_ n2_ n3_ n4_ n5_ n6_ n7_)); refine store_event (t := 40) (p := 7) (v := ?vo_w49) (w1 := (((((((((w46.setCell ⟨gb323, 0, none⟩ (.string t311)).setCell ⟨gb323, 1, none⟩ (.string t312)).setCell ⟨gb323, 2, none⟩ (.string t313)).setCell ⟨gb323, 3, none⟩ (.int .u8 t314)).setCell ⟨gb323, 4, none⟩ (.int .i64 t315)).setCell ⟨gb323, 5, none⟩ (.int .i64 t316)).setCell ⟨gb323, 6, none⟩ (.int .i64 t317)).setCell ⟨gb323, 7, none⟩ (.int .i64 t318)).setCell ⟨gb323, 8, none⟩ (.slice Ao48 t319.length co48))) ?hg ?ho ?hn ?hr ?_; (case ho => rfl); (case hg => rfl); (case hn => rfl); (case hr => first | (go_simp; done) | (go_simp; rfl)); intro w49 hw; have n0_ : Aside0 (Kd.S (Kd.slice 9 Kd.string) 26 w49 w.heap.size (fun _ => True) (.slice (some ad308) t300.length co9) t300) := ⟨(by rw [hw]; exact (by (with_reducible repeat (first | apply Sa_ | apply SN_ | apply S1_)); exact Kd.S_mono (Kd.S_far (p := ⟨gb323, 8, none⟩) (Kd.S_far (p := ⟨gb323, 7, none⟩) (Kd.S_far (p := ⟨gb323, 6, none⟩) (Kd.S_far (p := ⟨gb323, 5, none⟩) (Kd.S_far (p := ⟨gb323, 4, none⟩) (Kd.S_far (p := ⟨gb323, 3, none⟩) (Kd.S_far (p := ⟨gb323, 2, none⟩) (Kd.S_far (p := ⟨gb323, 1, none⟩) (Kd.S_far (p := ⟨gb323, 0, none⟩) (Kd.S_types HO_3.out BK323.out (by decide)) (fun _ hk => hk.2) (.string t311)) (fun _ hk => hk.2) (.string t312)) (fun _ hk => hk.2) (.string t313)) (fun _ hk => hk.2) (.int .u8 t314)) (fun _ hk => hk.2) (.int .i64 t315)) (fun _ hk => hk.2) (.int .i64 t316)) (fun _ hk => hk.2) (.int .i64 t317)) (fun _ hk => hk.2) (.int .i64 t318)) (fun _ hk => hk.2) (.slice Ao48 t319.length co48)) (fun _ hk => trivial)))⟩; have n1_ : Aside0 (Kd.R Kd.string 9 w49 w.heap.size (fun k_ => some k_ ≠ (.slice (some ad308) t300.length co9 : Value).ownBlock) (.slice (some ad310) (rd_L8 t300 x5_1).length c308_0) (rd_L8 t300 x5_1)) := ⟨(by rw [hw]; exact (by (with_reducible repeat (first | apply Ra_ | apply RN_ | apply R1_)); exact Kd.R_mono (Kd.R_far (p := ⟨gb323, 8, none⟩) (Kd.R_far (p := ⟨gb323, 7, none⟩) (Kd.R_far (p := ⟨gb323, 6, none⟩) (Kd.R_far (p := ⟨gb323, 5, none⟩) (Kd.R_far (p := ⟨gb323, 4, none⟩) (Kd.R_far (p := ⟨gb323, 3, none⟩) (Kd.R_far (p := ⟨gb323, 2, none⟩) (Kd.R_far (p := ⟨gb323, 1, none⟩) (Kd.R_far (p := ⟨gb323, 0, none⟩) (Kd.R_types HL308_0.out BK323.out (by decide)) (fun _ hk => hk.2) (.string t311)) (fun _ hk => hk.2) (.string t312)) (fun _ hk => hk.2) (.string t313)) (fun _ hk => hk.2) (.int .u8 t314)) (fun _ hk => hk.2) (.int .i64 t315)) (fun _ hk => hk.2) (.int .i64 t316)) (fun _ hk => hk.2) (.int .i64 t317)) (fun _ hk => hk.2) (.int .i64 t318)) (fun _ hk => hk.2) (.slice Ao48 t319.length co48)) (fun _ hk => hk.1.2)))⟩; have n2_ : Aside0 (Kd.R Kd.string 9 w49 w.heap.size (fun k_ => some k_ ≠ (.slice (some ad308) t300.length co9 : Value).ownBlock) (.slice (some ad310) (rd_L8 t300 x5_1).length c308_0) (rd_L8 t300 x5_1)) := ⟨(by rw [hw]; exact (by (with_reducible repeat (first | apply Ra_ | apply RN_ | apply R1_)); exact Kd.R_mono (Kd.R_far (p := ⟨gb323, 8, none⟩) (Kd.R_far (p := ⟨gb323, 7, none⟩) (Kd.R_far (p := ⟨gb323, 6, none⟩) (Kd.R_far (p := ⟨gb323, 5, none⟩) (Kd.R_far (p := ⟨gb323, 4, none⟩) (Kd.R_far (p := ⟨gb323, 3, none⟩) (Kd.R_far (p := ⟨gb323, 2, none⟩) (Kd.R_far (p := ⟨gb323, 1, none⟩) (Kd.R_far (p := ⟨gb323, 0, none⟩) (Kd.R_types HL309_0.out BK323.out (by decide)) (fun _ hk => hk.2) (.string t311)) (fun _ hk => hk.2) (.string t312)) (fun _ hk => hk.2) (.string t313)) (fun _ hk => hk.2) (.int .u8 t314)) (fun _ hk => hk.2) (.int .i64 t315)) (fun _ hk => hk.2) (.int .i64 t316)) (fun _ hk => hk.2) (.int .i64 t317)) (fun _ hk => hk.2) (.int .i64 t318)) (fun _ hk => hk.2) (.slice Ao48 t319.length co48)) (fun _ hk => hk.1.2)))⟩; have n3_ : Aside0 (Kd.V (Kd.int .u8) 5 w49 w.heap.size (fun k_ => some k_ ≠ (.slice (some ad308) t300.length co9 : Value).ownBlock ∧ k_ ≠ gb323) (.slice Ao48 t319.length co48) t319) := ⟨(by rw [hw]; exact (by (with_reducible repeat (first | apply Va_ | apply VN_ | apply V1_)); exact Kd.V_mono (Kd.V_far (p := ⟨gb323, 8, none⟩) (Kd.V_far (p := ⟨gb323, 7, none⟩) (Kd.V_far (p := ⟨gb323, 6, none⟩) (Kd.V_far (p := ⟨gb323, 5, none⟩) (Kd.V_far (p := ⟨gb323, 4, none⟩) (Kd.V_far (p := ⟨gb323, 3, none⟩) (Kd.V_far (p := ⟨gb323, 2, none⟩) (Kd.V_far (p := ⟨gb323, 1, none⟩) (Kd.V_far (p := ⟨gb323, 0, none⟩) (Kd.V_mono HO321.out (fun k_ hk => (⟨hk, hk.2⟩ : _ ∧ k_ ≠ gb323))) (fun _ hk => hk.2) (.string t311)) (fun _ hk => hk.2) (.string t312)) (fun _ hk => hk.2) (.string t313)) (fun _ hk => hk.2) (.int .u8 t314)) (fun _ hk => hk.2) (.int .i64 t315)) (fun _ hk => hk.2) (.int .i64 t316)) (fun _ hk => hk.2) (.int .i64 t317)) (fun _ hk => hk.2) (.int .i64 t318)) (fun _ hk => hk.2) (.slice Ao48 t319.length co48)) (fun _ hk => ⟨hk.1.1, hk.1.2⟩)))⟩; have n4_ : Aside0 (w49.heap[gb323]? = some (.cells #[.string t311, .string t312, .string t313, .int .u8 t314, .int .i64 t315, .int .i64 t316, .int .i64 t317, .int .i64 t318, .slice Ao48 t319.length co48] 40 (0, 0))) := ⟨(by rw [hw]; exact (by (with_reducible repeat (first | refine blk_drewN ?_ _ | refine blk_drew ?_ | refine blk_alloc ?_ _)); refine blk_put (cs := #[.string t311, .string t312, .string t313, .int .u8 t314, .int .i64 t315, .int .i64 t316, .int .i64 t317, .int .i64 t318, .slice none 0 0]) ?_ 8 _ rfl; (with_reducible repeat (first | refine blk_drewN ?_ _ | refine blk_drew ?_ | refine blk_alloc ?_ _)); refine blk_put (cs := #[.string t311, .string t312, .string t313, .int .u8 t314, .int .i64 t315, .int .i64 t316, .int .i64 t317, .int .i64 0, .slice none 0 0]) ?_ 7 _ rfl; (with_reducible repeat (first | refine blk_drewN ?_ _ | refine blk_drew ?_ | refine blk_alloc ?_ _)); refine blk_put (cs := #[.string t311, .string t312, .string t313, .int .u8 t314, .int .i64 t315, .int .i64 t316, .int .i64 0, .int .i64 0, .slice none 0 0]) ?_ 6 _ rfl; (with_reducible repeat (first | refine blk_drewN ?_ _ | refine blk_drew ?_ | refine blk_alloc ?_ _)); refine blk_put (cs := #[.string t311, .string t312, .string t313, .int .u8 t314, .int .i64 t315, .int .i64 0, .int .i64 0, .int .i64 0, .slice none 0 0]) ?_ 5 _ rfl; (with_reducible repeat (first | refine blk_drewN ?_ _ | refine blk_drew ?_ | refine blk_alloc ?_ _)); refine blk_put (cs := #[.string t311, .string t312, .string t313, .int .u8 t314, .int .i64 0, .int .i64 0, .int .i64 0, .int .i64 0, .slice none 0 0]) ?_ 4 _ rfl; (with_reducible repeat (first | refine blk_drewN ?_ _ | refine blk_drew ?_ | refine blk_alloc ?_ _)); refine blk_put (cs := #[.string t311, .string t312, .string t313, .int .u8 0, .int .i64 0, .int .i64 0, .int .i64 0, .int .i64 0, .slice none 0 0]) ?_ 3 _ rfl; (with_reducible repeat (first | refine blk_drewN ?_ _ | refine blk_drew ?_ | refine blk_alloc ?_ _)); refine blk_put (cs := #[.string t311, .string t312, .string (⟨#[]⟩ : ByteArray), .int .u8 0, .int .i64 0, .int .i64 0, .int .i64 0, .int .i64 0, .slice none 0 0]) ?_ 2 _ rfl; (with_reducible repeat (first | refine blk_drewN ?_ _ | refine blk_drew ?_ | refine blk_alloc ?_ _)); refine blk_put (cs := #[.string t311, .string (⟨#[]⟩ : ByteArray), .string (⟨#[]⟩ : ByteArray), .int .u8 0, .int .i64 0, .int .i64 0, .int .i64 0, .int .i64 0, .slice none 0 0]) ?_ 1 _ rfl; (with_reducible repeat (first | refine blk_drewN ?_ _ | refine blk_drew ?_ | refine blk_alloc ?_ _)); refine blk_put (cs := #[.string (⟨#[]⟩ : ByteArray), .string (⟨#[]⟩ : ByteArray), .string (⟨#[]⟩ : ByteArray), .int .u8 0, .int .i64 0, .int .i64 0, .int .i64 0, .int .i64 0, .slice none 0 0]) ?_ 0 _ rfl; (with_reducible repeat (first | refine blk_drewN ?_ _ | refine blk_drew ?_ | refine blk_alloc ?_ _)); exact BK323.out))⟩; have n5_ : Aside0 (Below w.heap.size w w49) := ⟨(by rw [hw]; exact (wb1_ HB.out GE323.out))⟩; clear hw; clear HO_3; clear HL308_0; clear HL309_0; clear HO321; clear BK323; clear HB; have HO_3 := n0_; have HL308_0 := n1_; have HL309_0 := n2_; have HO321 := n3_; have BK323 := n4_; have HB := n5_; clear n0_ n1_ n2_ n3_ n4_ n5_; have hcz50_0 : w49.cell? ⟨gb323, 0, none⟩ = some (.string t311) := (bc_ BK323.out 0).trans rfl; have hcz50_1 : w49.cell? ⟨gb323, 1, none⟩ = some (.string t312) := (bc_ BK323.out 1).trans rfl; have hcz50_2 : w49.cell? ⟨gb323, 2, none⟩ = some (.string t313) := (bc_ BK323.out 2).trans rfl; have hcz50_3 : w49.cell? ⟨gb323, 3, none⟩ = some (.int .u8 t314) := (bc_ BK323.out 3).trans rfl; have hcz50_4 : w49.cell? ⟨gb323, 4, none⟩ = some (.int .i64 t315) := (bc_ BK323.out 4).trans rfl; have hcz50_5 : w49.cell? ⟨gb323, 5, none⟩ = some (.int .i64 t316) := (bc_ BK323.out 5).trans rfl; have hcz50_6 : w49.cell? ⟨gb323, 6, none⟩ = some (.int .i64 t317) := (bc_ BK323.out 6).trans rfl; have hcz50_7 : w49.cell? ⟨gb323, 7, none⟩ = some (.int .i64 t318) := (bc_ BK323.out 7).trans rfl; have hcz50_8 : w49.cell? ⟨gb323, 8, none⟩ = some (.slice Ao48 t319.length co48) := (bc_ BK323.out 8).trans rfl; have hfz50_0 := bf_ BK323.out 0; have hfz50_1 := bf_ BK323.out 1; have hfz50_2 := bf_ BK323.out 2; have hfz50_3 := bf_ BK323.out 3; have hfz50_4 := bf_ BK323.out 4; have hfz50_5 := bf_ BK323.out 5; have hfz50_6 := bf_ BK323.out 6; have hfz50_7 := bf_ BK323.out 7; have hfz50_8 := bf_ BK323.out 8; have p324 : 0 ≤ (x5_1 : Int) := wd_; have q324 : x5_1 < (t300.length : Int) := wd_; obtain ⟨ad324, A324_0, c324_0, e324, hx324_0, hl324_0, hi324_0⟩ := at_L8 (Kd.S_reads' HO_3.out).2.2 x5_1 p324 q324; obtain rfl : ad308 = ad324 := (by injection e324); obtain ⟨ce324, hce324, hMe324, hcc324⟩ := Kd.S_get HO_3.out [] x5_1 p324 (by first | exact q324 | exact wd_ | (have e_ := (Kd.S_reads' HO_3.out).1; omega)); obtain ⟨ve324_0, rfl, ge324_0⟩ := hMe324; have hv324_0 := hcc324 0 _ rfl; rw [Nat.add_zero, show ((Kd.slice 9 Kd.string)).sz = 1 from rfl, Nat.mul_one] at hv324_0; replace hv324_0 := Option.some.inj (hv324_0.symm.trans hx324_0); rw [hv324_0] at ge324_0; have HL324_0 := A0_ (show Kd.R Kd.string 9 _ _ _ _ (rd_L8 t300 x5_1) from ge324_0); clear hv324_0 ge324_0; clear hcc324 hce324; have HR324_0 := A0_ hi324_0; have HC324_0 := A0_ hl324_0; clear hi324_0 hl324_0; replace p324 := eq_true p324; replace q324 := eq_true q324; have p325 : 0 ≤ (0 : Int) := (by omega); have q325 : 0 < ((rd_L8 t300 x5_1).length : Int) := wd_; obtain ⟨ad325, e325, hx325_0⟩ := Kd.at_string (by repeat (first | (with_reducible exact HR324_0.out) | (with_reducible refine Ca_ ?_ _) | (with_reducible refine CN_ ?_ _) | (with_reducible refine C1_ ?_) | exact HR324_0.out)) 0 p325 q325; cases e325; have qi325 : (0 < (rd_L8 t300 x5_1).length) = True := eq_true (by omega); (try rw [show ((0 : Int)).toNat = 0 from rfl] at hx325_0); (try rw [Addr.add_zero'] at hx325_0); replace p325 := eq_true p325; replace q325 := eq_true q325))
        repeat (go_quiet (first | (go_at_call 23; (with_reducible refine (bindleref08_Find.calls k3 (fun k_ => k_ < w.heap.size) _ _ l0 (rdOf ByteArray.empty (rd_L8 t300 x5_1) x6_3) t311 t312 t313 t314 t315 t316 t317 t318 t319 true _ ?side1 A23.out).mono ?_); (case side1 => exact Kd.V_mk HC0.out (Kd.F_below (Kd.C_F k40_heap HR0.out) (wb_ HB.out))); rintro e w45 ⟨v320, rfl, ho0, hb⟩; have n0_ := A0_ (Sb_ (wS_ HO_3.out) hb); have n1_ := A0_ (Rb_ (wR_ HL308_0.out) hb); have n2_ := A0_ (Rb_ (wR_ HL309_0.out) hb); have n3_ := A0_ (Kd.V_lower (Kd.V_mono (ok' := fun k_ => some k_ ≠ (.slice (some ad308) t300.length co9 : Value).ownBlock) ho0 (fun k_ hk_ => Or.elim hk_ (fun hs_ => fun e_ => Nat.not_le.2 hs_ (Kd.S_base HO_3.out k_ e_.symm)) (fun hn_ => (Kd.fresh' (Kd.S_lt (wS_ HO_3.out)) k_ hn_)))) (below_size (wb_ HB.out))); have n4_ := A0_ (Kd.C_below (by repeat (first | (with_reducible exact HR308_0.out) | (with_reducible refine Ca_ ?_ _) | (with_reducible refine CN_ ?_ _) | (with_reducible refine C1_ ?_) | exact HR308_0.out)) hb); have n5_ := A0_ (Kd.C_below (by repeat (first | (with_reducible exact HR309_0.out) | (with_reducible refine Ca_ ?_ _) | (with_reducible refine CN_ ?_ _) | (with_reducible refine C1_ ?_) | exact HR309_0.out)) hb); have n6_ := A0_ (below_step (wb_ HB.out) hb); clear HO_3; clear HL308_0; clear HL309_0; clear HR308_0; clear HR309_0; clear HB; have HO_3 := n0_; have HL308_0 := n1_; have HL309_0 := n2_; have HO321 := n3_; have HR308_0 := n4_; have HR309_0 := n5_; have HB := n6_; clear n0_ n1_ n2_ n3_ n4_ n5_ n6_; (try clear hb); (try clear hb2); (try clear hk); (try clear hi); (try clear ho0)) | ((with_reducible refine gate_dst (N := 7) rfl ?_); refine box_event ?hg (N := 7) ?hd (cs := #[.string (⟨#[]⟩ : ByteArray), .string (⟨#[]⟩ : ByteArray), .string (⟨#[]⟩ : ByteArray), .int .u8 0, .int .i64 0, .int .i64 0, .int .i64 0, .int .i64 0, .slice none 0 0]) (t := 40) ?hr ?_; (case hd => rfl); (case hg => rfl); (case hr => first | (go_simp; done) | (go_simp; rfl)); intro gb323 hg w46 hbox hb; have n0_ := A0_ (Sb_ (wS_ HO_3.out) hb); have n1_ := A0_ (Rb_ (wR_ HL308_0.out) hb); have n2_ := A0_ (Rb_ (wR_ HL309_0.out) hb); have n3_ := A0_ (Vb_ (Kd.V_elderB (wV_ HO321.out) gb323 (Nat.le_of_eq hg.symm)) hb); have n4_ := A0_ (Kd.C_below (by repeat (first | (with_reducible exact HR308_0.out) | (with_reducible refine Ca_ ?_ _) | (with_reducible refine CN_ ?_ _) | (with_reducible refine C1_ ?_) | exact HR308_0.out)) hb); have n5_ := A0_ (Kd.C_below (by repeat (first | (with_reducible exact HR309_0.out) | (with_reducible refine Ca_ ?_ _) | (with_reducible refine CN_ ?_ _) | (with_reducible refine C1_ ?_) | exact HR309_0.out)) hb); have n6_ := A0_ (below_step (wb_ HB.out) hb); have n7_ := A0_ (hbox); have n8_ := A0_ ((by rw [hg]; exact (below_size (wb_ HB.out)) : w.heap.size ≤ gb323)); have n9_ := A0_ ((by rw [hg]; exact (below_size (wb_ HB.out)) : w.heap.size ≤ gb323)); clear HO_3; clear HL308_0; clear HL309_0; clear HO321; clear HR308_0; clear HR309_0; clear HB; have HO_3 := n0_; have HL308_0 := n1_; have HL309_0 := n2_; have HO321 := n3_; have HR308_0 := n4_; have HR309_0 := n5_; have HB := n6_; have BK323 := n7_; have GW323 := n8_; have GE323 := n9_; clear n0_ n1_ n2_ n3_ n4_ n5_ n6_ n7_ n8_ n9_; clear hb hbox hg; have hcz47_0 : w46.cell? ⟨gb323, 0, none⟩ = some (.string (⟨#[]⟩ : ByteArray)) := (bc_ BK323.out 0).trans rfl; have hcz47_1 : w46.cell? ⟨gb323, 1, none⟩ = some (.string (⟨#[]⟩ : ByteArray)) := (bc_ BK323.out 1).trans rfl; have hcz47_2 : w46.cell? ⟨gb323, 2, none⟩ = some (.string (⟨#[]⟩ : ByteArray)) := (bc_ BK323.out 2).trans rfl; have hcz47_3 : w46.cell? ⟨gb323, 3, none⟩ = some (.int .u8 0) := (bc_ BK323.out 3).trans rfl; have hcz47_4 : w46.cell? ⟨gb323, 4, none⟩ = some (.int .i64 0) := (bc_ BK323.out 4).trans rfl; have hcz47_5 : w46.cell? ⟨gb323, 5, none⟩ = some (.int .i64 0) := (bc_ BK323.out 5).trans rfl; have hcz47_6 : w46.cell? ⟨gb323, 6, none⟩ = some (.int .i64 0) := (bc_ BK323.out 6).trans rfl; have hcz47_7 : w46.cell? ⟨gb323, 7, none⟩ = some (.int .i64 0) := (bc_ BK323.out 7).trans rfl; have hcz47_8 : w46.cell? ⟨gb323, 8, none⟩ = some (.slice none 0 0) := (bc_ BK323.out 8).trans rfl; have hfz47_0 := bf_ BK323.out 0; have hfz47_1 := bf_ BK323.out 1; have hfz47_2 := bf_ BK323.out 2; have hfz47_3 := bf_ BK323.out 3; have hfz47_4 := bf_ BK323.out 4; have hfz47_5 := bf_ BK323.out 5; have hfz47_6 := bf_ BK323.out 6; have hfz47_7 := bf_ BK323.out 7; have hfz47_8 := bf_ BK323.out 8; obtain ⟨Ao48, co48, eo48⟩ := Kd.V_slice HO321.out; subst eo48) | ((with_reducible refine gate_store (t := 40) (p := 7) rfl ?_); (try (rw [drewN_self w46]; generalize hq_ : World.drewN w46 _ = w46; have n0_ := A0_ (Kd.S_at hq_ HO_3.out); have n1_ := A0_ (Kd.R_at hq_ HL308_0.out); have n2_ := A0_ (Kd.R_at hq_ HL309_0.out); have n3_ := A0_ (Kd.V_at hq_ HO321.out); have n4_ := A0_ (blk_at hq_ BK323.out); have n5_ := A0_ (Kd.C_at hq_ HR308_0.out); have n6_ := A0_ (Kd.C_at hq_ HR309_0.out); have n7_ := A0_ (below_at hq_ HB.out); clear hq_ HO_3 HL308_0 HL309_0 HO321 BK323 HR308_0 HR309_0 HB; have HO_3 := n0_; have HL308_0 := n1_; have HL309_0 := n2_; have HO321 := n3_; have BK323 := n4_; have HR308_0 := n5_; have HR309_0 := n6_; have HB := n7_; clear n0_ n1_ n2_ n3_ n4_ n5_ n6_ n7_)); refine store_event (t := 40) (p := 7) (v := ?vo_w49) (w1 := (((((((((w46.setCell ⟨gb323, 0, none⟩ (.string t311)).setCell ⟨gb323, 1, none⟩ (.string t312)).setCell ⟨gb323, 2, none⟩ (.string t313)).setCell ⟨gb323, 3, none⟩ (.int .u8 t314)).setCell ⟨gb323, 4, none⟩ (.int .i64 t315)).setCell ⟨gb323, 5, none⟩ (.int .i64 t316)).setCell ⟨gb323, 6, none⟩ (.int .i64 t317)).setCell ⟨gb323, 7, none⟩ (.int .i64 t318)).setCell ⟨gb323, 8, none⟩ (.slice Ao48 t319.length co48))) ?hg ?ho ?hn ?hr ?_; (case ho => rfl); (case hg => rfl); (case hn => rfl); (case hr => first | (go_simp; done) | (go_simp; rfl)); intro w49 hw; have n0_ : Aside0 (Kd.S (Kd.slice 9 Kd.string) 26 w49 w.heap.size (fun _ => True) (.slice (some ad308) t300.length co9) t300) := ⟨(by rw [hw]; exact (by (with_reducible repeat (first | apply Sa_ | apply SN_ | apply S1_)); exact Kd.S_mono (Kd.S_far (p := ⟨gb323, 8, none⟩) (Kd.S_far (p := ⟨gb323, 7, none⟩) (Kd.S_far (p := ⟨gb323, 6, none⟩) (Kd.S_far (p := ⟨gb323, 5, none⟩) (Kd.S_far (p := ⟨gb323, 4, none⟩) (Kd.S_far (p := ⟨gb323, 3, none⟩) (Kd.S_far (p := ⟨gb323, 2, none⟩) (Kd.S_far (p := ⟨gb323, 1, none⟩) (Kd.S_far (p := ⟨gb323, 0, none⟩) (Kd.S_types HO_3.out BK323.out (by decide)) (fun _ hk => hk.2) (.string t311)) (fun _ hk => hk.2) (.string t312)) (fun _ hk => hk.2) (.string t313)) (fun _ hk => hk.2) (.int .u8 t314)) (fun _ hk => hk.2) (.int .i64 t315)) (fun _ hk => hk.2) (.int .i64 t316)) (fun _ hk => hk.2) (.int .i64 t317)) (fun _ hk => hk.2) (.int .i64 t318)) (fun _ hk => hk.2) (.slice Ao48 t319.length co48)) (fun _ hk => trivial)))⟩; have n1_ : Aside0 (Kd.R Kd.string 9 w49 w.heap.size (fun k_ => some k_ ≠ (.slice (some ad308) t300.length co9 : Value).ownBlock) (.slice (some ad310) (rd_L8 t300 x5_1).length c308_0) (rd_L8 t300 x5_1)) := ⟨(by rw [hw]; exact (by (with_reducible repeat (first | apply Ra_ | apply RN_ | apply R1_)); exact Kd.R_mono (Kd.R_far (p := ⟨gb323, 8, none⟩) (Kd.R_far (p := ⟨gb323, 7, none⟩) (Kd.R_far (p := ⟨gb323, 6, none⟩) (Kd.R_far (p := ⟨gb323, 5, none⟩) (Kd.R_far (p := ⟨gb323, 4, none⟩) (Kd.R_far (p := ⟨gb323, 3, none⟩) (Kd.R_far (p := ⟨gb323, 2, none⟩) (Kd.R_far (p := ⟨gb323, 1, none⟩) (Kd.R_far (p := ⟨gb323, 0, none⟩) (Kd.R_types HL308_0.out BK323.out (by decide)) (fun _ hk => hk.2) (.string t311)) (fun _ hk => hk.2) (.string t312)) (fun _ hk => hk.2) (.string t313)) (fun _ hk => hk.2) (.int .u8 t314)) (fun _ hk => hk.2) (.int .i64 t315)) (fun _ hk => hk.2) (.int .i64 t316)) (fun _ hk => hk.2) (.int .i64 t317)) (fun _ hk => hk.2) (.int .i64 t318)) (fun _ hk => hk.2) (.slice Ao48 t319.length co48)) (fun _ hk => hk.1.2)))⟩; have n2_ : Aside0 (Kd.R Kd.string 9 w49 w.heap.size (fun k_ => some k_ ≠ (.slice (some ad308) t300.length co9 : Value).ownBlock) (.slice (some ad310) (rd_L8 t300 x5_1).length c308_0) (rd_L8 t300 x5_1)) := ⟨(by rw [hw]; exact (by (with_reducible repeat (first | apply Ra_ | apply RN_ | apply R1_)); exact Kd.R_mono (Kd.R_far (p := ⟨gb323, 8, none⟩) (Kd.R_far (p := ⟨gb323, 7, none⟩) (Kd.R_far (p := ⟨gb323, 6, none⟩) (Kd.R_far (p := ⟨gb323, 5, none⟩) (Kd.R_far (p := ⟨gb323, 4, none⟩) (Kd.R_far (p := ⟨gb323, 3, none⟩) (Kd.R_far (p := ⟨gb323, 2, none⟩) (Kd.R_far (p := ⟨gb323, 1, none⟩) (Kd.R_far (p := ⟨gb323, 0, none⟩) (Kd.R_types HL309_0.out BK323.out (by decide)) (fun _ hk => hk.2) (.string t311)) (fun _ hk => hk.2) (.string t312)) (fun _ hk => hk.2) (.string t313)) (fun _ hk => hk.2) (.int .u8 t314)) (fun _ hk => hk.2) (.int .i64 t315)) (fun _ hk => hk.2) (.int .i64 t316)) (fun _ hk => hk.2) (.int .i64 t317)) (fun _ hk => hk.2) (.int .i64 t318)) (fun _ hk => hk.2) (.slice Ao48 t319.length co48)) (fun _ hk => hk.1.2)))⟩; have n3_ : Aside0 (Kd.V (Kd.int .u8) 5 w49 w.heap.size (fun k_ => some k_ ≠ (.slice (some ad308) t300.length co9 : Value).ownBlock ∧ k_ ≠ gb323) (.slice Ao48 t319.length co48) t319) := ⟨(by rw [hw]; exact (by (with_reducible repeat (first | apply Va_ | apply VN_ | apply V1_)); exact Kd.V_mono (Kd.V_far (p := ⟨gb323, 8, none⟩) (Kd.V_far (p := ⟨gb323, 7, none⟩) (Kd.V_far (p := ⟨gb323, 6, none⟩) (Kd.V_far (p := ⟨gb323, 5, none⟩) (Kd.V_far (p := ⟨gb323, 4, none⟩) (Kd.V_far (p := ⟨gb323, 3, none⟩) (Kd.V_far (p := ⟨gb323, 2, none⟩) (Kd.V_far (p := ⟨gb323, 1, none⟩) (Kd.V_far (p := ⟨gb323, 0, none⟩) (Kd.V_mono HO321.out (fun k_ hk => (⟨hk, hk.2⟩ : _ ∧ k_ ≠ gb323))) (fun _ hk => hk.2) (.string t311)) (fun _ hk => hk.2) (.string t312)) (fun _ hk => hk.2) (.string t313)) (fun _ hk => hk.2) (.int .u8 t314)) (fun _ hk => hk.2) (.int .i64 t315)) (fun _ hk => hk.2) (.int .i64 t316)) (fun _ hk => hk.2) (.int .i64 t317)) (fun _ hk => hk.2) (.int .i64 t318)) (fun _ hk => hk.2) (.slice Ao48 t319.length co48)) (fun _ hk => ⟨hk.1.1, hk.1.2⟩)))⟩; have n4_ : Aside0 (w49.heap[gb323]? = some (.cells #[.string t311, .string t312, .string t313, .int .u8 t314, .int .i64 t315, .int .i64 t316, .int .i64 t317, .int .i64 t318, .slice Ao48 t319.length co48] 40 (0, 0))) := ⟨(by rw [hw]; exact (by (with_reducible repeat (first | refine blk_drewN ?_ _ | refine blk_drew ?_ | refine blk_alloc ?_ _)); refine blk_put (cs := #[.string t311, .string t312, .string t313, .int .u8 t314, .int .i64 t315, .int .i64 t316, .int .i64 t317, .int .i64 t318, .slice none 0 0]) ?_ 8 _ rfl; (with_reducible repeat (first | refine blk_drewN ?_ _ | refine blk_drew ?_ | refine blk_alloc ?_ _)); refine blk_put (cs := #[.string t311, .string t312, .string t313, .int .u8 t314, .int .i64 t315, .int .i64 t316, .int .i64 t317, .int .i64 0, .slice none 0 0]) ?_ 7 _ rfl; (with_reducible repeat (first | refine blk_drewN ?_ _ | refine blk_drew ?_ | refine blk_alloc ?_ _)); refine blk_put (cs := #[.string t311, .string t312, .string t313, .int .u8 t314, .int .i64 t315, .int .i64 t316, .int .i64 0, .int .i64 0, .slice none 0 0]) ?_ 6 _ rfl; (with_reducible repeat (first | refine blk_drewN ?_ _ | refine blk_drew ?_ | refine blk_alloc ?_ _)); refine blk_put (cs := #[.string t311, .string t312, .string t313, .int .u8 t314, .int .i64 t315, .int .i64 0, .int .i64 0, .int .i64 0, .slice none 0 0]) ?_ 5 _ rfl; (with_reducible repeat (first | refine blk_drewN ?_ _ | refine blk_drew ?_ | refine blk_alloc ?_ _)); refine blk_put (cs := #[.string t311, .string t312, .string t313, .int .u8 t314, .int .i64 0, .int .i64 0, .int .i64 0, .int .i64 0, .slice none 0 0]) ?_ 4 _ rfl; (with_reducible repeat (first | refine blk_drewN ?_ _ | refine blk_drew ?_ | refine blk_alloc ?_ _)); refine blk_put (cs := #[.string t311, .string t312, .string t313, .int .u8 0, .int .i64 0, .int .i64 0, .int .i64 0, .int .i64 0, .slice none 0 0]) ?_ 3 _ rfl; (with_reducible repeat (first | refine blk_drewN ?_ _ | refine blk_drew ?_ | refine blk_alloc ?_ _)); refine blk_put (cs := #[.string t311, .string t312, .string (⟨#[]⟩ : ByteArray), .int .u8 0, .int .i64 0, .int .i64 0, .int .i64 0, .int .i64 0, .slice none 0 0]) ?_ 2 _ rfl; (with_reducible repeat (first | refine blk_drewN ?_ _ | refine blk_drew ?_ | refine blk_alloc ?_ _)); refine blk_put (cs := #[.string t311, .string (⟨#[]⟩ : ByteArray), .string (⟨#[]⟩ : ByteArray), .int .u8 0, .int .i64 0, .int .i64 0, .int .i64 0, .int .i64 0, .slice none 0 0]) ?_ 1 _ rfl; (with_reducible repeat (first | refine blk_drewN ?_ _ | refine blk_drew ?_ | refine blk_alloc ?_ _)); refine blk_put (cs := #[.string (⟨#[]⟩ : ByteArray), .string (⟨#[]⟩ : ByteArray), .string (⟨#[]⟩ : ByteArray), .int .u8 0, .int .i64 0, .int .i64 0, .int .i64 0, .int .i64 0, .slice none 0 0]) ?_ 0 _ rfl; (with_reducible repeat (first | refine blk_drewN ?_ _ | refine blk_drew ?_ | refine blk_alloc ?_ _)); exact BK323.out))⟩; have n5_ : Aside0 (Below w.heap.size w w49) := ⟨(by rw [hw]; exact (wb1_ HB.out GE323.out))⟩; clear hw; clear HO_3; clear HL308_0; clear HL309_0; clear HO321; clear BK323; clear HB; have HO_3 := n0_; have HL308_0 := n1_; have HL309_0 := n2_; have HO321 := n3_; have BK323 := n4_; have HB := n5_; clear n0_ n1_ n2_ n3_ n4_ n5_; have hcz50_0 : w49.cell? ⟨gb323, 0, none⟩ = some (.string t311) := (bc_ BK323.out 0).trans rfl; have hcz50_1 : w49.cell? ⟨gb323, 1, none⟩ = some (.string t312) := (bc_ BK323.out 1).trans rfl; have hcz50_2 : w49.cell? ⟨gb323, 2, none⟩ = some (.string t313) := (bc_ BK323.out 2).trans rfl; have hcz50_3 : w49.cell? ⟨gb323, 3, none⟩ = some (.int .u8 t314) := (bc_ BK323.out 3).trans rfl; have hcz50_4 : w49.cell? ⟨gb323, 4, none⟩ = some (.int .i64 t315) := (bc_ BK323.out 4).trans rfl; have hcz50_5 : w49.cell? ⟨gb323, 5, none⟩ = some (.int .i64 t316) := (bc_ BK323.out 5).trans rfl; have hcz50_6 : w49.cell? ⟨gb323, 6, none⟩ = some (.int .i64 t317) := (bc_ BK323.out 6).trans rfl; have hcz50_7 : w49.cell? ⟨gb323, 7, none⟩ = some (.int .i64 t318) := (bc_ BK323.out 7).trans rfl; have hcz50_8 : w49.cell? ⟨gb323, 8, none⟩ = some (.slice Ao48 t319.length co48) := (bc_ BK323.out 8).trans rfl; have hfz50_0 := bf_ BK323.out 0; have hfz50_1 := bf_ BK323.out 1; have hfz50_2 := bf_ BK323.out 2; have hfz50_3 := bf_ BK323.out 3; have hfz50_4 := bf_ BK323.out 4; have hfz50_5 := bf_ BK323.out 5; have hfz50_6 := bf_ BK323.out 6; have hfz50_7 := bf_ BK323.out 7; have hfz50_8 := bf_ BK323.out 8; have p324 : 0 ≤ (x5_1 : Int) := wd_; have q324 : x5_1 < (t300.length : Int) := wd_; obtain ⟨ad324, A324_0, c324_0, e324, hx324_0, hl324_0, hi324_0⟩ := at_L8 (Kd.S_reads' HO_3.out).2.2 x5_1 p324 q324; obtain rfl : ad308 = ad324 := (by injection e324); obtain ⟨ce324, hce324, hMe324, hcc324⟩ := Kd.S_get HO_3.out [] x5_1 p324 (by first | exact q324 | exact wd_ | (have e_ := (Kd.S_reads' HO_3.out).1; omega)); obtain ⟨ve324_0, rfl, ge324_0⟩ := hMe324; have hv324_0 := hcc324 0 _ rfl; rw [Nat.add_zero, show ((Kd.slice 9 Kd.string)).sz = 1 from rfl, Nat.mul_one] at hv324_0; replace hv324_0 := Option.some.inj (hv324_0.symm.trans hx324_0); rw [hv324_0] at ge324_0; have HL324_0 := A0_ (show Kd.R Kd.string 9 _ _ _ _ (rd_L8 t300 x5_1) from ge324_0); clear hv324_0 ge324_0; clear hcc324 hce324; have HR324_0 := A0_ hi324_0; have HC324_0 := A0_ hl324_0; clear hi324_0 hl324_0; replace p324 := eq_true p324; replace q324 := eq_true q324; have p325 : 0 ≤ (0 : Int) := (by omega); have q325 : 0 < ((rd_L8 t300 x5_1).length : Int) := wd_; obtain ⟨ad325, e325, hx325_0⟩ := Kd.at_string (by repeat (first | (with_reducible exact HR324_0.out) | (with_reducible refine Ca_ ?_ _) | (with_reducible refine CN_ ?_ _) | (with_reducible refine C1_ ?_) | exact HR324_0.out)) 0 p325 q325; cases e325; have qi325 : (0 < (rd_L8 t300 x5_1).length) = True := eq_true (by omega); (try rw [show ((0 : Int)).toNat = 0 from rfl] at hx325_0); (try rw [Addr.add_zero'] at hx325_0); replace p325 := eq_true p325; replace q325 := eq_true q325)); try go_wp2_with (first | (go_at_call 23; (with_reducible refine (bindleref08_Find.calls k3 (fun k_ => k_ < w.heap.size) _ _ l0 (rdOf ByteArray.empty (rd_L8 t300 x5_1) x6_3) t311 t312 t313 t314 t315 t316 t317 t318 t319 true _ ?side1 A23.out).mono ?_); (case side1 => exact Kd.V_mk HC0.out (Kd.F_below (Kd.C_F k40_heap HR0.out) (wb_ HB.out))); rintro e w45 ⟨v320, rfl, ho0, hb⟩; have n0_ := A0_ (Sb_ (wS_ HO_3.out) hb); have n1_ := A0_ (Rb_ (wR_ HL308_0.out) hb); have n2_ := A0_ (Rb_ (wR_ HL309_0.out) hb); have n3_ := A0_ (Kd.V_lower (Kd.V_mono (ok' := fun k_ => some k_ ≠ (.slice (some ad308) t300.length co9 : Value).ownBlock) ho0 (fun k_ hk_ => Or.elim hk_ (fun hs_ => fun e_ => Nat.not_le.2 hs_ (Kd.S_base HO_3.out k_ e_.symm)) (fun hn_ => (Kd.fresh' (Kd.S_lt (wS_ HO_3.out)) k_ hn_)))) (below_size (wb_ HB.out))); have n4_ := A0_ (Kd.C_below (by repeat (first | (with_reducible exact HR308_0.out) | (with_reducible refine Ca_ ?_ _) | (with_reducible refine CN_ ?_ _) | (with_reducible refine C1_ ?_) | exact HR308_0.out)) hb); have n5_ := A0_ (Kd.C_below (by repeat (first | (with_reducible exact HR309_0.out) | (with_reducible refine Ca_ ?_ _) | (with_reducible refine CN_ ?_ _) | (with_reducible refine C1_ ?_) | exact HR309_0.out)) hb); have n6_ := A0_ (below_step (wb_ HB.out) hb); clear HO_3; clear HL308_0; clear HL309_0; clear HR308_0; clear HR309_0; clear HB; have HO_3 := n0_; have HL308_0 := n1_; have HL309_0 := n2_; have HO321 := n3_; have HR308_0 := n4_; have HR309_0 := n5_; have HB := n6_; clear n0_ n1_ n2_ n3_ n4_ n5_ n6_; (try clear hb); (try clear hb2); (try clear hk); (try clear hi); (try clear ho0)) | ((with_reducible refine gate_dst (N := 7) rfl ?_); refine box_event ?hg (N := 7) ?hd (cs := #[.string (⟨#[]⟩ : ByteArray), .string (⟨#[]⟩ : ByteArray), .string (⟨#[]⟩ : ByteArray), .int .u8 0, .int .i64 0, .int .i64 0, .int .i64 0, .int .i64 0, .slice none 0 0]) (t := 40) ?hr ?_; (case hd => rfl); (case hg => rfl); (case hr => first | (go_simp; done) | (go_simp; rfl)); intro gb323 hg w46 hbox hb; have n0_ := A0_ (Sb_ (wS_ HO_3.out) hb); have n1_ := A0_ (Rb_ (wR_ HL308_0.out) hb); have n2_ := A0_ (Rb_ (wR_ HL309_0.out) hb); have n3_ := A0_ (Vb_ (Kd.V_elderB (wV_ HO321.out) gb323 (Nat.le_of_eq hg.symm)) hb); have n4_ := A0_ (Kd.C_below (by repeat (first | (with_reducible exact HR308_0.out) | (with_reducible refine Ca_ ?_ _) | (with_reducible refine CN_ ?_ _) | (with_reducible refine C1_ ?_) | exact HR308_0.out)) hb); have n5_ := A0_ (Kd.C_below (by repeat (first | (with_reducible exact HR309_0.out) | (with_reducible refine Ca_ ?_ _) | (with_reducible refine CN_ ?_ _) | (with_reducible refine C1_ ?_) | exact HR309_0.out)) hb); have n6_ := A0_ (below_step (wb_ HB.out) hb); have n7_ := A0_ (hbox); have n8_ := A0_ ((by rw [hg]; exact (below_size (wb_ HB.out)) : w.heap.size ≤ gb323)); have n9_ := A0_ ((by rw [hg]; exact (below_size (wb_ HB.out)) : w.heap.size ≤ gb323)); clear HO_3; clear HL308_0; clear HL309_0; clear HO321; clear HR308_0; clear HR309_0; clear HB; have HO_3 := n0_; have HL308_0 := n1_; have HL309_0 := n2_; have HO321 := n3_; have HR308_0 := n4_; have HR309_0 := n5_; have HB := n6_; have BK323 := n7_; have GW323 := n8_; have GE323 := n9_; clear n0_ n1_ n2_ n3_ n4_ n5_ n6_ n7_ n8_ n9_; clear hb hbox hg; have hcz47_0 : w46.cell? ⟨gb323, 0, none⟩ = some (.string (⟨#[]⟩ : ByteArray)) := (bc_ BK323.out 0).trans rfl; have hcz47_1 : w46.cell? ⟨gb323, 1, none⟩ = some (.string (⟨#[]⟩ : ByteArray)) := (bc_ BK323.out 1).trans rfl; have hcz47_2 : w46.cell? ⟨gb323, 2, none⟩ = some (.string (⟨#[]⟩ : ByteArray)) := (bc_ BK323.out 2).trans rfl; have hcz47_3 : w46.cell? ⟨gb323, 3, none⟩ = some (.int .u8 0) := (bc_ BK323.out 3).trans rfl; have hcz47_4 : w46.cell? ⟨gb323, 4, none⟩ = some (.int .i64 0) := (bc_ BK323.out 4).trans rfl; have hcz47_5 : w46.cell? ⟨gb323, 5, none⟩ = some (.int .i64 0) := (bc_ BK323.out 5).trans rfl; have hcz47_6 : w46.cell? ⟨gb323, 6, none⟩ = some (.int .i64 0) := (bc_ BK323.out 6).trans rfl; have hcz47_7 : w46.cell? ⟨gb323, 7, none⟩ = some (.int .i64 0) := (bc_ BK323.out 7).trans rfl; have hcz47_8 : w46.cell? ⟨gb323, 8, none⟩ = some (.slice none 0 0) := (bc_ BK323.out 8).trans rfl; have hfz47_0 := bf_ BK323.out 0; have hfz47_1 := bf_ BK323.out 1; have hfz47_2 := bf_ BK323.out 2; have hfz47_3 := bf_ BK323.out 3; have hfz47_4 := bf_ BK323.out 4; have hfz47_5 := bf_ BK323.out 5; have hfz47_6 := bf_ BK323.out 6; have hfz47_7 := bf_ BK323.out 7; have hfz47_8 := bf_ BK323.out 8; obtain ⟨Ao48, co48, eo48⟩ := Kd.V_slice HO321.out; subst eo48) | ((with_reducible refine gate_store (t := 40) (p := 7) rfl ?_); (try (rw [drewN_self w46]; generalize hq_ : World.drewN w46 _ = w46; have n0_ := A0_ (Kd.S_at hq_ HO_3.out); have n1_ := A0_ (Kd.R_at hq_ HL308_0.out); have n2_ := A0_ (Kd.R_at hq_ HL309_0.out); have n3_ := A0_ (Kd.V_at hq_ HO321.out); have n4_ := A0_ (blk_at hq_ BK323.out); have n5_ := A0_ (Kd.C_at hq_ HR308_0.out); have n6_ := A0_ (Kd.C_at hq_ HR309_0.out); have n7_ := A0_ (below_at hq_ HB.out); clear hq_ HO_3 HL308_0 HL309_0 HO321 BK323 HR308_0 HR309_0 HB; have HO_3 := n0_; have HL308_0 := n1_; have HL309_0 := n2_; have HO321 := n3_; have BK323 := n4_; have HR308_0 := n5_; have HR309_0 := n6_; have HB := n7_; clear n0_ n1_ n2_ n3_ n4_ n5_ n6_ n7_)); refine store_event (t := 40) (p := 7) (v := ?vo_w49) (w1 := (((((((((w46.setCell ⟨gb323, 0, none⟩ (.string t311)).setCell ⟨gb323, 1, none⟩ (.string t312)).setCell ⟨gb323, 2, none⟩ (.string t313)).setCell ⟨gb323, 3, none⟩ (.int .u8 t314)).setCell ⟨gb323, 4, none⟩ (.int .i64 t315)).setCell ⟨gb323, 5, none⟩ (.int .i64 t316)).setCell ⟨gb323, 6, none⟩ (.int .i64 t317)).setCell ⟨gb323, 7, none⟩ (.int .i64 t318)).setCell ⟨gb323, 8, none⟩ (.slice Ao48 t319.length co48))) ?hg ?ho ?hn ?hr ?_; (case ho => rfl); (case hg => rfl); (case hn => rfl); (case hr => first | (go_simp; done) | (go_simp; rfl)); intro w49 hw; have n0_ : Aside0 (Kd.S (Kd.slice 9 Kd.string) 26 w49 w.heap.size (fun _ => True) (.slice (some ad308) t300.length co9) t300) := ⟨(by rw [hw]; exact (by (with_reducible repeat (first | apply Sa_ | apply SN_ | apply S1_)); exact Kd.S_mono (Kd.S_far (p := ⟨gb323, 8, none⟩) (Kd.S_far (p := ⟨gb323, 7, none⟩) (Kd.S_far (p := ⟨gb323, 6, none⟩) (Kd.S_far (p := ⟨gb323, 5, none⟩) (Kd.S_far (p := ⟨gb323, 4, none⟩) (Kd.S_far (p := ⟨gb323, 3, none⟩) (Kd.S_far (p := ⟨gb323, 2, none⟩) (Kd.S_far (p := ⟨gb323, 1, none⟩) (Kd.S_far (p := ⟨gb323, 0, none⟩) (Kd.S_types HO_3.out BK323.out (by decide)) (fun _ hk => hk.2) (.string t311)) (fun _ hk => hk.2) (.string t312)) (fun _ hk => hk.2) (.string t313)) (fun _ hk => hk.2) (.int .u8 t314)) (fun _ hk => hk.2) (.int .i64 t315)) (fun _ hk => hk.2) (.int .i64 t316)) (fun _ hk => hk.2) (.int .i64 t317)) (fun _ hk => hk.2) (.int .i64 t318)) (fun _ hk => hk.2) (.slice Ao48 t319.length co48)) (fun _ hk => trivial)))⟩; have n1_ : Aside0 (Kd.R Kd.string 9 w49 w.heap.size (fun k_ => some k_ ≠ (.slice (some ad308) t300.length co9 : Value).ownBlock) (.slice (some ad310) (rd_L8 t300 x5_1).length c308_0) (rd_L8 t300 x5_1)) := ⟨(by rw [hw]; exact (by (with_reducible repeat (first | apply Ra_ | apply RN_ | apply R1_)); exact Kd.R_mono (Kd.R_far (p := ⟨gb323, 8, none⟩) (Kd.R_far (p := ⟨gb323, 7, none⟩) (Kd.R_far (p := ⟨gb323, 6, none⟩) (Kd.R_far (p := ⟨gb323, 5, none⟩) (Kd.R_far (p := ⟨gb323, 4, none⟩) (Kd.R_far (p := ⟨gb323, 3, none⟩) (Kd.R_far (p := ⟨gb323, 2, none⟩) (Kd.R_far (p := ⟨gb323, 1, none⟩) (Kd.R_far (p := ⟨gb323, 0, none⟩) (Kd.R_types HL308_0.out BK323.out (by decide)) (fun _ hk => hk.2) (.string t311)) (fun _ hk => hk.2) (.string t312)) (fun _ hk => hk.2) (.string t313)) (fun _ hk => hk.2) (.int .u8 t314)) (fun _ hk => hk.2) (.int .i64 t315)) (fun _ hk => hk.2) (.int .i64 t316)) (fun _ hk => hk.2) (.int .i64 t317)) (fun _ hk => hk.2) (.int .i64 t318)) (fun _ hk => hk.2) (.slice Ao48 t319.length co48)) (fun _ hk => hk.1.2)))⟩; have n2_ : Aside0 (Kd.R Kd.string 9 w49 w.heap.size (fun k_ => some k_ ≠ (.slice (some ad308) t300.length co9 : Value).ownBlock) (.slice (some ad310) (rd_L8 t300 x5_1).length c308_0) (rd_L8 t300 x5_1)) := ⟨(by rw [hw]; exact (by (with_reducible repeat (first | apply Ra_ | apply RN_ | apply R1_)); exact Kd.R_mono (Kd.R_far (p := ⟨gb323, 8, none⟩) (Kd.R_far (p := ⟨gb323, 7, none⟩) (Kd.R_far (p := ⟨gb323, 6, none⟩) (Kd.R_far (p := ⟨gb323, 5, none⟩) (Kd.R_far (p := ⟨gb323, 4, none⟩) (Kd.R_far (p := ⟨gb323, 3, none⟩) (Kd.R_far (p := ⟨gb323, 2, none⟩) (Kd.R_far (p := ⟨gb323, 1, none⟩) (Kd.R_far (p := ⟨gb323, 0, none⟩) (Kd.R_types HL309_0.out BK323.out (by decide)) (fun _ hk => hk.2) (.string t311)) (fun _ hk => hk.2) (.string t312)) (fun _ hk => hk.2) (.string t313)) (fun _ hk => hk.2) (.int .u8 t314)) (fun _ hk => hk.2) (.int .i64 t315)) (fun _ hk => hk.2) (.int .i64 t316)) (fun _ hk => hk.2) (.int .i64 t317)) (fun _ hk => hk.2) (.int .i64 t318)) (fun _ hk => hk.2) (.slice Ao48 t319.length co48)) (fun _ hk => hk.1.2)))⟩; have n3_ : Aside0 (Kd.V (Kd.int .u8) 5 w49 w.heap.size (fun k_ => some k_ ≠ (.slice (some ad308) t300.length co9 : Value).ownBlock ∧ k_ ≠ gb323) (.slice Ao48 t319.length co48) t319) := ⟨(by rw [hw]; exact (by (with_reducible repeat (first | apply Va_ | apply VN_ | apply V1_)); exact Kd.V_mono (Kd.V_far (p := ⟨gb323, 8, none⟩) (Kd.V_far (p := ⟨gb323, 7, none⟩) (Kd.V_far (p := ⟨gb323, 6, none⟩) (Kd.V_far (p := ⟨gb323, 5, none⟩) (Kd.V_far (p := ⟨gb323, 4, none⟩) (Kd.V_far (p := ⟨gb323, 3, none⟩) (Kd.V_far (p := ⟨gb323, 2, none⟩) (Kd.V_far (p := ⟨gb323, 1, none⟩) (Kd.V_far (p := ⟨gb323, 0, none⟩) (Kd.V_mono HO321.out (fun k_ hk => (⟨hk, hk.2⟩ : _ ∧ k_ ≠ gb323))) (fun _ hk => hk.2) (.string t311)) (fun _ hk => hk.2) (.string t312)) (fun _ hk => hk.2) (.string t313)) (fun _ hk => hk.2) (.int .u8 t314)) (fun _ hk => hk.2) (.int .i64 t315)) (fun _ hk => hk.2) (.int .i64 t316)) (fun _ hk => hk.2) (.int .i64 t317)) (fun _ hk => hk.2) (.int .i64 t318)) (fun _ hk => hk.2) (.slice Ao48 t319.length co48)) (fun _ hk => ⟨hk.1.1, hk.1.2⟩)))⟩; have n4_ : Aside0 (w49.heap[gb323]? = some (.cells #[.string t311, .string t312, .string t313, .int .u8 t314, .int .i64 t315, .int .i64 t316, .int .i64 t317, .int .i64 t318, .slice Ao48 t319.length co48] 40 (0, 0))) := ⟨(by rw [hw]; exact (by (with_reducible repeat (first | refine blk_drewN ?_ _ | refine blk_drew ?_ | refine blk_alloc ?_ _)); refine blk_put (cs := #[.string t311, .string t312, .string t313, .int .u8 t314, .int .i64 t315, .int .i64 t316, .int .i64 t317, .int .i64 t318, .slice none 0 0]) ?_ 8 _ rfl; (with_reducible repeat (first | refine blk_drewN ?_ _ | refine blk_drew ?_ | refine blk_alloc ?_ _)); refine blk_put (cs := #[.string t311, .string t312, .string t313, .int .u8 t314, .int .i64 t315, .int .i64 t316, .int .i64 t317, .int .i64 0, .slice none 0 0]) ?_ 7 _ rfl; (with_reducible repeat (first | refine blk_drewN ?_ _ | refine blk_drew ?_ | refine blk_alloc ?_ _)); refine blk_put (cs := #[.string t311, .string t312, .string t313, .int .u8 t314, .int .i64 t315, .int .i64 t316, .int .i64 0, .int .i64 0, .slice none 0 0]) ?_ 6 _ rfl; (with_reducible repeat (first | refine blk_drewN ?_ _ | refine blk_drew ?_ | refine blk_alloc ?_ _)); refine blk_put (cs := #[.string t311, .string t312, .string t313, .int .u8 t314, .int .i64 t315, .int .i64 0, .int .i64 0, .int .i64 0, .slice none 0 0]) ?_ 5 _ rfl; (with_reducible repeat (first | refine blk_drewN ?_ _ | refine blk_drew ?_ | refine blk_alloc ?_ _)); refine blk_put (cs := #[.string t311, .string t312, .string t313, .int .u8 t314, .int .i64 0, .int .i64 0, .int .i64 0, .int .i64 0, .slice none 0 0]) ?_ 4 _ rfl; (with_reducible repeat (first | refine blk_drewN ?_ _ | refine blk_drew ?_ | refine blk_alloc ?_ _)); refine blk_put (cs := #[.string t311, .string t312, .string t313, .int .u8 0, .int .i64 0, .int .i64 0, .int .i64 0, .int .i64 0, .slice none 0 0]) ?_ 3 _ rfl; (with_reducible repeat (first | refine blk_drewN ?_ _ | refine blk_drew ?_ | refine blk_alloc ?_ _)); refine blk_put (cs := #[.string t311, .string t312, .string (⟨#[]⟩ : ByteArray), .int .u8 0, .int .i64 0, .int .i64 0, .int .i64 0, .int .i64 0, .slice none 0 0]) ?_ 2 _ rfl; (with_reducible repeat (first | refine blk_drewN ?_ _ | refine blk_drew ?_ | refine blk_alloc ?_ _)); refine blk_put (cs := #[.string t311, .string (⟨#[]⟩ : ByteArray), .string (⟨#[]⟩ : ByteArray), .int .u8 0, .int .i64 0, .int .i64 0, .int .i64 0, .int .i64 0, .slice none 0 0]) ?_ 1 _ rfl; (with_reducible repeat (first | refine blk_drewN ?_ _ | refine blk_drew ?_ | refine blk_alloc ?_ _)); refine blk_put (cs := #[.string (⟨#[]⟩ : ByteArray), .string (⟨#[]⟩ : ByteArray), .string (⟨#[]⟩ : ByteArray), .int .u8 0, .int .i64 0, .int .i64 0, .int .i64 0, .int .i64 0, .slice none 0 0]) ?_ 0 _ rfl; (with_reducible repeat (first | refine blk_drewN ?_ _ | refine blk_drew ?_ | refine blk_alloc ?_ _)); exact BK323.out))⟩; have n5_ : Aside0 (Below w.heap.size w w49) := ⟨(by rw [hw]; exact (wb1_ HB.out GE323.out))⟩; clear hw; clear HO_3; clear HL308_0; clear HL309_0; clear HO321; clear BK323; clear HB; have HO_3 := n0_; have HL308_0 := n1_; have HL309_0 := n2_; have HO321 := n3_; have BK323 := n4_; have HB := n5_; clear n0_ n1_ n2_ n3_ n4_ n5_; have hcz50_0 : w49.cell? ⟨gb323, 0, none⟩ = some (.string t311) := (bc_ BK323.out 0).trans rfl; have hcz50_1 : w49.cell? ⟨gb323, 1, none⟩ = some (.string t312) := (bc_ BK323.out 1).trans rfl; have hcz50_2 : w49.cell? ⟨gb323, 2, none⟩ = some (.string t313) := (bc_ BK323.out 2).trans rfl; have hcz50_3 : w49.cell? ⟨gb323, 3, none⟩ = some (.int .u8 t314) := (bc_ BK323.out 3).trans rfl; have hcz50_4 : w49.cell? ⟨gb323, 4, none⟩ = some (.int .i64 t315) := (bc_ BK323.out 4).trans rfl; have hcz50_5 : w49.cell? ⟨gb323, 5, none⟩ = some (.int .i64 t316) := (bc_ BK323.out 5).trans rfl; have hcz50_6 : w49.cell? ⟨gb323, 6, none⟩ = some (.int .i64 t317) := (bc_ BK323.out 6).trans rfl; have hcz50_7 : w49.cell? ⟨gb323, 7, none⟩ = some (.int .i64 t318) := (bc_ BK323.out 7).trans rfl; have hcz50_8 : w49.cell? ⟨gb323, 8, none⟩ = some (.slice Ao48 t319.length co48) := (bc_ BK323.out 8).trans rfl; have hfz50_0 := bf_ BK323.out 0; have hfz50_1 := bf_ BK323.out 1; have hfz50_2 := bf_ BK323.out 2; have hfz50_3 := bf_ BK323.out 3; have hfz50_4 := bf_ BK323.out 4; have hfz50_5 := bf_ BK323.out 5; have hfz50_6 := bf_ BK323.out 6; have hfz50_7 := bf_ BK323.out 7; have hfz50_8 := bf_ BK323.out 8; have p324 : 0 ≤ (x5_1 : Int) := wd_; have q324 : x5_1 < (t300.length : Int) := wd_; obtain ⟨ad324, A324_0, c324_0, e324, hx324_0, hl324_0, hi324_0⟩ := at_L8 (Kd.S_reads' HO_3.out).2.2 x5_1 p324 q324; obtain rfl : ad308 = ad324 := (by injection e324); obtain ⟨ce324, hce324, hMe324, hcc324⟩ := Kd.S_get HO_3.out [] x5_1 p324 (by first | exact q324 | exact wd_ | (have e_ := (Kd.S_reads' HO_3.out).1; omega)); obtain ⟨ve324_0, rfl, ge324_0⟩ := hMe324; have hv324_0 := hcc324 0 _ rfl; rw [Nat.add_zero, show ((Kd.slice 9 Kd.string)).sz = 1 from rfl, Nat.mul_one] at hv324_0; replace hv324_0 := Option.some.inj (hv324_0.symm.trans hx324_0); rw [hv324_0] at ge324_0; have HL324_0 := A0_ (show Kd.R Kd.string 9 _ _ _ _ (rd_L8 t300 x5_1) from ge324_0); clear hv324_0 ge324_0; clear hcc324 hce324; have HR324_0 := A0_ hi324_0; have HC324_0 := A0_ hl324_0; clear hi324_0 hl324_0; replace p324 := eq_true p324; replace q324 := eq_true q324; have p325 : 0 ≤ (0 : Int) := (by omega); have q325 : 0 < ((rd_L8 t300 x5_1).length : Int) := wd_; obtain ⟨ad325, e325, hx325_0⟩ := Kd.at_string (by repeat (first | (with_reducible exact HR324_0.out) | (with_reducible refine Ca_ ?_ _) | (with_reducible refine CN_ ?_ _) | (with_reducible refine C1_ ?_) | exact HR324_0.out)) 0 p325 q325; cases e325; have qi325 : (0 < (rd_L8 t300 x5_1).length) = True := eq_true (by omega); (try rw [show ((0 : Int)).toNat = 0 from rfl] at hx325_0); (try rw [Addr.add_zero'] at hx325_0); replace p325 := eq_true p325; replace q325 := eq_true q325)))
        go_roundg k3
        case measure => have := HK1.out; have := HJ7.out; have := HK3.out; omega
        case rel => exact ⟨(wrap64 (x4_3 + 1)), (wrap64 (x6_3 + 1)), wr_, wr_, H', ⟨by have := HK1.out; have := HJ7.out; have := HK3.out; omega⟩, ⟨wS_ HO_3.out⟩, ⟨wb1_ HB.out GE323.out⟩⟩
       rw [if_pos c28] at H
       have c28b0 : decide (0 < x6_3) = true := decide_eq_true c28
       clear c28
       obtain ⟨ji29, hji29⟩ : ∃ j_ : Int, (wrap64 (x6_3 - 1)) = j_ := ⟨_, rfl⟩
       replace H : (if 0 ≤ (ji29) then (if (ji29) < ((rd_L8 t300 x5_1).length : Int) then (if ((Op.bytesLess ((rdOf ByteArray.empty (rd_L8 t300 x5_1) (ji29)).toList) ((rdOf ByteArray.empty (rd_L8 t300 x5_1) x6_3).toList)) = true) then (bindlelaw11_LinksClasses.l1 k3 l0 t300 (wrap64 (x4_3 + 1)) x5_1 (wrap64 (x6_3 + 1))) else (some false)) else (none)) else (none)) = some r := by first | (rw [hji29] at H; exact H) | (simp only [hji29] at H ⊢; exact H)
       (try rw [hji29] at A23)
       have hji29w : (IntKind.i64.wrap (x6_3 - 1)) = ji29 := (i64_w _).trans hji29
       by_cases c30 : 0 ≤ (ji29)
       rotate_left
       ·rw [if_neg c30] at H
        exact absurd H (by simp)
       rw [if_pos c30] at H
       have c30b0 : decide (0 ≤ (ji29)) = true := decide_eq_true c30
       clear c30
       by_cases c31 : (ji29) < ((rd_L8 t300 x5_1).length : Int)
       rotate_left
       ·rw [if_neg c31] at H
        exact absurd H (by simp)
       rw [if_pos c31] at H
       have c31b0 : decide ((ji29) < ((rd_L8 t300 x5_1).length : Int)) = true := decide_eq_true c31
       clear c31
       by_cases c32 : ((Op.bytesLess ((rdOf ByteArray.empty (rd_L8 t300 x5_1) (ji29)).toList) ((rdOf ByteArray.empty (rd_L8 t300 x5_1) x6_3).toList)) = true)
       rotate_left
       ·rw [if_neg c32] at H
        have c32b0 : (Op.bytesLess ((rdOf ByteArray.empty (rd_L8 t300 x5_1) (ji29)).toList) ((rdOf ByteArray.empty (rd_L8 t300 x5_1) x6_3).toList)) = false := by simpa using c32
        clear c32
        exact absurd ((Option.some.inj H).trans hTRUE_.out) (by decide)
       rw [if_pos c32] at H
       have c32b0 : (Op.bytesLess ((rdOf ByteArray.empty (rd_L8 t300 x5_1) (ji29)).toList) ((rdOf ByteArray.empty (rd_L8 t300 x5_1) x6_3).toList)) = true := c32
       clear c32
       have H' := A0_ H
       clear H
       have p308 : 0 ≤ (x5_1 : Int) := wd_
       have q308 : x5_1 < (t300.length : Int) := wd_
       obtain ⟨ad308, A308_0, c308_0, e308, hx308_0, hl308_0, hi308_0⟩ := at_L8 (Kd.S_reads' HO_3.out).2.2 x5_1 p308 q308
       cases e308
       obtain ⟨ce308, hce308, hMe308, hcc308⟩ := Kd.S_get HO_3.out [] x5_1 p308 (by first | exact q308 | exact wd_ | (have e_ := (Kd.S_reads' HO_3.out).1; omega))
       obtain ⟨ve308_0, rfl, ge308_0⟩ := hMe308
       have hv308_0 := hcc308 0 _ rfl
       rw [Nat.add_zero, show ((Kd.slice 9 Kd.string)).sz = 1 from rfl, Nat.mul_one] at hv308_0
       replace hv308_0 := Option.some.inj (hv308_0.symm.trans hx308_0)
       rw [hv308_0] at ge308_0
       have HL308_0 := A0_ (show Kd.R Kd.string 9 _ _ _ _ (rd_L8 t300 x5_1) from ge308_0)
       clear hv308_0 ge308_0
       clear hcc308 hce308
       have HR308_0 := A0_ hi308_0
       have HC308_0 := A0_ hl308_0
       clear hi308_0 hl308_0
       replace p308 := eq_true p308
       replace q308 := eq_true q308
       have p309 : 0 ≤ (x5_1 : Int) := wd_
       have q309 : x5_1 < (t300.length : Int) := wd_
       obtain ⟨ad309, A309_0, c309_0, e309, hx309_0, hl309_0, hi309_0⟩ := at_L8 (Kd.S_reads' HO_3.out).2.2 x5_1 p309 q309
       obtain rfl : ad308 = ad309 := (by injection e309)
       obtain ⟨ce309, hce309, hMe309, hcc309⟩ := Kd.S_get HO_3.out [] x5_1 p309 (by first | exact q309 | exact wd_ | (have e_ := (Kd.S_reads' HO_3.out).1; omega))
       obtain ⟨ve309_0, rfl, ge309_0⟩ := hMe309
       have hv309_0 := hcc309 0 _ rfl
       rw [Nat.add_zero, show ((Kd.slice 9 Kd.string)).sz = 1 from rfl, Nat.mul_one] at hv309_0
       replace hv309_0 := Option.some.inj (hv309_0.symm.trans hx309_0)
       rw [hv309_0] at ge309_0
       have HL309_0 := A0_ (show Kd.R Kd.string 9 _ _ _ _ (rd_L8 t300 x5_1) from ge309_0)
       clear hv309_0 ge309_0
       clear hcc309 hce309
       have HR309_0 := A0_ hi309_0
       have HC309_0 := A0_ hl309_0
       clear hi309_0 hl309_0
       replace p309 := eq_true p309
       replace q309 := eq_true q309
       have ea_ := Option.some.inj (hx308_0.symm.trans hx309_0)
       injection ea_ with ea_ en_ ec_
       subst ea_
       subst ec_
       clear en_
       have p310 : 0 ≤ (x6_3 : Int) := wd_
       have q310 : x6_3 < ((rd_L8 t300 x5_1).length : Int) := wd_
       obtain ⟨ad310, e310, hx310_0⟩ := Kd.at_string (by repeat (first | (with_reducible exact HR309_0.out) | (with_reducible refine Ca_ ?_ _) | (with_reducible refine CN_ ?_ _) | (with_reducible refine C1_ ?_) | exact HR309_0.out)) x6_3 p310 q310
       cases e310
       replace p310 := eq_true p310
       replace q310 := eq_true q310
       go_wp2_with (first | (go_at_call 23; (with_reducible refine (bindleref08_Find.calls k3 (fun k_ => k_ < w.heap.size) _ _ l0 (rdOf ByteArray.empty (rd_L8 t300 x5_1) x6_3) t311 t312 t313 t314 t315 t316 t317 t318 t319 true _ ?side1 A23.out).mono ?_); (case side1 => exact Kd.V_mk HC0.out (Kd.F_below (Kd.C_F k40_heap HR0.out) (wb_ HB.out))); rintro e w33 ⟨v320, rfl, ho0, hb⟩; have n0_ := A0_ (Sb_ (wS_ HO_3.out) hb); have n1_ := A0_ (Rb_ (wR_ HL308_0.out) hb); have n2_ := A0_ (Rb_ (wR_ HL309_0.out) hb); have n3_ := A0_ (Kd.V_lower (Kd.V_mono (ok' := fun k_ => some k_ ≠ (.slice (some ad308) t300.length co9 : Value).ownBlock) ho0 (fun k_ hk_ => Or.elim hk_ (fun hs_ => fun e_ => Nat.not_le.2 hs_ (Kd.S_base HO_3.out k_ e_.symm)) (fun hn_ => (Kd.fresh' (Kd.S_lt (wS_ HO_3.out)) k_ hn_)))) (below_size (wb_ HB.out))); have n4_ := A0_ (Kd.C_below (by repeat (first | (with_reducible exact HR308_0.out) | (with_reducible refine Ca_ ?_ _) | (with_reducible refine CN_ ?_ _) | (with_reducible refine C1_ ?_) | exact HR308_0.out)) hb); have n5_ := A0_ (Kd.C_below (by repeat (first | (with_reducible exact HR309_0.out) | (with_reducible refine Ca_ ?_ _) | (with_reducible refine CN_ ?_ _) | (with_reducible refine C1_ ?_) | exact HR309_0.out)) hb); have n6_ := A0_ (below_step (wb_ HB.out) hb); clear HO_3; clear HL308_0; clear HL309_0; clear HR308_0; clear HR309_0; clear HB; have HO_3 := n0_; have HL308_0 := n1_; have HL309_0 := n2_; have HO321 := n3_; have HR308_0 := n4_; have HR309_0 := n5_; have HB := n6_; clear n0_ n1_ n2_ n3_ n4_ n5_ n6_; (try clear hb); (try clear hb2); (try clear hk); (try clear hi); (try clear ho0)) | ((with_reducible refine gate_dst (N := 7) rfl ?_); refine box_event ?hg (N := 7) ?hd (cs := #[.string (⟨#[]⟩ : ByteArray), .string (⟨#[]⟩ : ByteArray), .string (⟨#[]⟩ : ByteArray), .int .u8 0, .int .i64 0, .int .i64 0, .int .i64 0, .int .i64 0, .slice none 0 0]) (t := 40) ?hr ?_; (case hd => rfl); (case hg => rfl); (case hr => first | (go_simp; done) | (go_simp; rfl)); intro gb323 hg w34 hbox hb; have n0_ := A0_ (Sb_ (wS_ HO_3.out) hb); have n1_ := A0_ (Rb_ (wR_ HL308_0.out) hb); have n2_ := A0_ (Rb_ (wR_ HL309_0.out) hb); have n3_ := A0_ (Vb_ (Kd.V_elderB (wV_ HO321.out) gb323 (Nat.le_of_eq hg.symm)) hb); have n4_ := A0_ (Kd.C_below (by repeat (first | (with_reducible exact HR308_0.out) | (with_reducible refine Ca_ ?_ _) | (with_reducible refine CN_ ?_ _) | (with_reducible refine C1_ ?_) | exact HR308_0.out)) hb); have n5_ := A0_ (Kd.C_below (by repeat (first | (with_reducible exact HR309_0.out) | (with_reducible refine Ca_ ?_ _) | (with_reducible refine CN_ ?_ _) | (with_reducible refine C1_ ?_) | exact HR309_0.out)) hb); have n6_ := A0_ (below_step (wb_ HB.out) hb); have n7_ := A0_ (hbox); have n8_ := A0_ ((by rw [hg]; exact (below_size (wb_ HB.out)) : w.heap.size ≤ gb323)); have n9_ := A0_ ((by rw [hg]; exact (below_size (wb_ HB.out)) : w.heap.size ≤ gb323)); clear HO_3; clear HL308_0; clear HL309_0; clear HO321; clear HR308_0; clear HR309_0; clear HB; have HO_3 := n0_; have HL308_0 := n1_; have HL309_0 := n2_; have HO321 := n3_; have HR308_0 := n4_; have HR309_0 := n5_; have HB := n6_; have BK323 := n7_; have GW323 := n8_; have GE323 := n9_; clear n0_ n1_ n2_ n3_ n4_ n5_ n6_ n7_ n8_ n9_; clear hb hbox hg; have hcz35_0 : w34.cell? ⟨gb323, 0, none⟩ = some (.string (⟨#[]⟩ : ByteArray)) := (bc_ BK323.out 0).trans rfl; have hcz35_1 : w34.cell? ⟨gb323, 1, none⟩ = some (.string (⟨#[]⟩ : ByteArray)) := (bc_ BK323.out 1).trans rfl; have hcz35_2 : w34.cell? ⟨gb323, 2, none⟩ = some (.string (⟨#[]⟩ : ByteArray)) := (bc_ BK323.out 2).trans rfl; have hcz35_3 : w34.cell? ⟨gb323, 3, none⟩ = some (.int .u8 0) := (bc_ BK323.out 3).trans rfl; have hcz35_4 : w34.cell? ⟨gb323, 4, none⟩ = some (.int .i64 0) := (bc_ BK323.out 4).trans rfl; have hcz35_5 : w34.cell? ⟨gb323, 5, none⟩ = some (.int .i64 0) := (bc_ BK323.out 5).trans rfl; have hcz35_6 : w34.cell? ⟨gb323, 6, none⟩ = some (.int .i64 0) := (bc_ BK323.out 6).trans rfl; have hcz35_7 : w34.cell? ⟨gb323, 7, none⟩ = some (.int .i64 0) := (bc_ BK323.out 7).trans rfl; have hcz35_8 : w34.cell? ⟨gb323, 8, none⟩ = some (.slice none 0 0) := (bc_ BK323.out 8).trans rfl; have hfz35_0 := bf_ BK323.out 0; have hfz35_1 := bf_ BK323.out 1; have hfz35_2 := bf_ BK323.out 2; have hfz35_3 := bf_ BK323.out 3; have hfz35_4 := bf_ BK323.out 4; have hfz35_5 := bf_ BK323.out 5; have hfz35_6 := bf_ BK323.out 6; have hfz35_7 := bf_ BK323.out 7; have hfz35_8 := bf_ BK323.out 8; obtain ⟨Ao36, co36, eo36⟩ := Kd.V_slice HO321.out; subst eo36) | ((with_reducible refine gate_store (t := 40) (p := 7) rfl ?_); (try (rw [drewN_self w34]; generalize hq_ : World.drewN w34 _ = w34; have n0_ := A0_ (Kd.S_at hq_ HO_3.out); have n1_ := A0_ (Kd.R_at hq_ HL308_0.out); have n2_ := A0_ (Kd.R_at hq_ HL309_0.out); have n3_ := A0_ (Kd.V_at hq_ HO321.out); have n4_ := A0_ (blk_at hq_ BK323.out); have n5_ := A0_ (Kd.C_at hq_ HR308_0.out); have n6_ := A0_ (Kd.C_at hq_ HR309_0.out); have n7_ := A0_ (below_at hq_ HB.out); clear hq_ HO_3 HL308_0 HL309_0 HO321 BK323 HR308_0 HR309_0 HB; have HO_3 := n0_; have HL308_0 := n1_; have HL309_0 := n2_; have HO321 := n3_; have BK323 := n4_; have HR308_0 := n5_; have HR309_0 := n6_; have HB := n7_; clear n0_ n1_ n2_ n3_ n4_ n5_ n6_ n7_)); refine store_event (t := 40) (p := 7) (v := ?vo_w37) (w1 := (((((((((w34.setCell ⟨gb323, 0, none⟩ (.string t311)).setCell ⟨gb323, 1, none⟩ (.string t312)).setCell ⟨gb323, 2, none⟩ (.string t313)).setCell ⟨gb323, 3, none⟩ (.int .u8 t314)).setCell ⟨gb323, 4, none⟩ (.int .i64 t315)).setCell ⟨gb323, 5, none⟩ (.int .i64 t316)).setCell ⟨gb323, 6, none⟩ (.int .i64 t317)).setCell ⟨gb323, 7, none⟩ (.int .i64 t318)).setCell ⟨gb323, 8, none⟩ (.slice Ao36 t319.length co36))) ?hg ?ho ?hn ?hr ?_; (case ho => rfl); (case hg => rfl); (case hn => rfl); (case hr => first | (go_simp; done) | (go_simp; rfl)); intro w37 hw; have n0_ : Aside0 (Kd.S (Kd.slice 9 Kd.string) 26 w37 w.heap.size (fun _ => True) (.slice (some ad308) t300.length co9) t300) := ⟨(by rw [hw]; exact (by (with_reducible repeat (first | apply Sa_ | apply SN_ | apply S1_)); exact Kd.S_mono (Kd.S_far (p := ⟨gb323, 8, none⟩) (Kd.S_far (p := ⟨gb323, 7, none⟩) (Kd.S_far (p := ⟨gb323, 6, none⟩) (Kd.S_far (p := ⟨gb323, 5, none⟩) (Kd.S_far (p := ⟨gb323, 4, none⟩) (Kd.S_far (p := ⟨gb323, 3, none⟩) (Kd.S_far (p := ⟨gb323, 2, none⟩) (Kd.S_far (p := ⟨gb323, 1, none⟩) (Kd.S_far (p := ⟨gb323, 0, none⟩) (Kd.S_types HO_3.out BK323.out (by decide)) (fun _ hk => hk.2) (.string t311)) (fun _ hk => hk.2) (.string t312)) (fun _ hk => hk.2) (.string t313)) (fun _ hk => hk.2) (.int .u8 t314)) (fun _ hk => hk.2) (.int .i64 t315)) (fun _ hk => hk.2) (.int .i64 t316)) (fun _ hk => hk.2) (.int .i64 t317)) (fun _ hk => hk.2) (.int .i64 t318)) (fun _ hk => hk.2) (.slice Ao36 t319.length co36)) (fun _ hk => trivial)))⟩; have n1_ : Aside0 (Kd.R Kd.string 9 w37 w.heap.size (fun k_ => some k_ ≠ (.slice (some ad308) t300.length co9 : Value).ownBlock) (.slice (some ad310) (rd_L8 t300 x5_1).length c308_0) (rd_L8 t300 x5_1)) := ⟨(by rw [hw]; exact (by (with_reducible repeat (first | apply Ra_ | apply RN_ | apply R1_)); exact Kd.R_mono (Kd.R_far (p := ⟨gb323, 8, none⟩) (Kd.R_far (p := ⟨gb323, 7, none⟩) (Kd.R_far (p := ⟨gb323, 6, none⟩) (Kd.R_far (p := ⟨gb323, 5, none⟩) (Kd.R_far (p := ⟨gb323, 4, none⟩) (Kd.R_far (p := ⟨gb323, 3, none⟩) (Kd.R_far (p := ⟨gb323, 2, none⟩) (Kd.R_far (p := ⟨gb323, 1, none⟩) (Kd.R_far (p := ⟨gb323, 0, none⟩) (Kd.R_types HL308_0.out BK323.out (by decide)) (fun _ hk => hk.2) (.string t311)) (fun _ hk => hk.2) (.string t312)) (fun _ hk => hk.2) (.string t313)) (fun _ hk => hk.2) (.int .u8 t314)) (fun _ hk => hk.2) (.int .i64 t315)) (fun _ hk => hk.2) (.int .i64 t316)) (fun _ hk => hk.2) (.int .i64 t317)) (fun _ hk => hk.2) (.int .i64 t318)) (fun _ hk => hk.2) (.slice Ao36 t319.length co36)) (fun _ hk => hk.1.2)))⟩; have n2_ : Aside0 (Kd.R Kd.string 9 w37 w.heap.size (fun k_ => some k_ ≠ (.slice (some ad308) t300.length co9 : Value).ownBlock) (.slice (some ad310) (rd_L8 t300 x5_1).length c308_0) (rd_L8 t300 x5_1)) := ⟨(by rw [hw]; exact (by (with_reducible repeat (first | apply Ra_ | apply RN_ | apply R1_)); exact Kd.R_mono (Kd.R_far (p := ⟨gb323, 8, none⟩) (Kd.R_far (p := ⟨gb323, 7, none⟩) (Kd.R_far (p := ⟨gb323, 6, none⟩) (Kd.R_far (p := ⟨gb323, 5, none⟩) (Kd.R_far (p := ⟨gb323, 4, none⟩) (Kd.R_far (p := ⟨gb323, 3, none⟩) (Kd.R_far (p := ⟨gb323, 2, none⟩) (Kd.R_far (p := ⟨gb323, 1, none⟩) (Kd.R_far (p := ⟨gb323, 0, none⟩) (Kd.R_types HL309_0.out BK323.out (by decide)) (fun _ hk => hk.2) (.string t311)) (fun _ hk => hk.2) (.string t312)) (fun _ hk => hk.2) (.string t313)) (fun _ hk => hk.2) (.int .u8 t314)) (fun _ hk => hk.2) (.int .i64 t315)) (fun _ hk => hk.2) (.int .i64 t316)) (fun _ hk => hk.2) (.int .i64 t317)) (fun _ hk => hk.2) (.int .i64 t318)) (fun _ hk => hk.2) (.slice Ao36 t319.length co36)) (fun _ hk => hk.1.2)))⟩; have n3_ : Aside0 (Kd.V (Kd.int .u8) 5 w37 w.heap.size (fun k_ => some k_ ≠ (.slice (some ad308) t300.length co9 : Value).ownBlock ∧ k_ ≠ gb323) (.slice Ao36 t319.length co36) t319) := ⟨(by rw [hw]; exact (by (with_reducible repeat (first | apply Va_ | apply VN_ | apply V1_)); exact Kd.V_mono (Kd.V_far (p := ⟨gb323, 8, none⟩) (Kd.V_far (p := ⟨gb323, 7, none⟩) (Kd.V_far (p := ⟨gb323, 6, none⟩) (Kd.V_far (p := ⟨gb323, 5, none⟩) (Kd.V_far (p := ⟨gb323, 4, none⟩) (Kd.V_far (p := ⟨gb323, 3, none⟩) (Kd.V_far (p := ⟨gb323, 2, none⟩) (Kd.V_far (p := ⟨gb323, 1, none⟩) (Kd.V_far (p := ⟨gb323, 0, none⟩) (Kd.V_mono HO321.out (fun k_ hk => (⟨hk, hk.2⟩ : _ ∧ k_ ≠ gb323))) (fun _ hk => hk.2) (.string t311)) (fun _ hk => hk.2) (.string t312)) (fun _ hk => hk.2) (.string t313)) (fun _ hk => hk.2) (.int .u8 t314)) (fun _ hk => hk.2) (.int .i64 t315)) (fun _ hk => hk.2) (.int .i64 t316)) (fun _ hk => hk.2) (.int .i64 t317)) (fun _ hk => hk.2) (.int .i64 t318)) (fun _ hk => hk.2) (.slice Ao36 t319.length co36)) (fun _ hk => ⟨hk.1.1, hk.1.2⟩)))⟩; have n4_ : Aside0 (w37.heap[gb323]? = some (.cells #[.string t311, .string t312, .string t313, .int .u8 t314, .int .i64 t315, .int .i64 t316, .int .i64 t317, .int .i64 t318, .slice Ao36 t319.length co36] 40 (0, 0))) := ⟨(by rw [hw]; exact (by (with_reducible repeat (first | refine blk_drewN ?_ _ | refine blk_drew ?_ | refine blk_alloc ?_ _)); refine blk_put (cs := #[.string t311, .string t312, .string t313, .int .u8 t314, .int .i64 t315, .int .i64 t316, .int .i64 t317, .int .i64 t318, .slice none 0 0]) ?_ 8 _ rfl; (with_reducible repeat (first | refine blk_drewN ?_ _ | refine blk_drew ?_ | refine blk_alloc ?_ _)); refine blk_put (cs := #[.string t311, .string t312, .string t313, .int .u8 t314, .int .i64 t315, .int .i64 t316, .int .i64 t317, .int .i64 0, .slice none 0 0]) ?_ 7 _ rfl; (with_reducible repeat (first | refine blk_drewN ?_ _ | refine blk_drew ?_ | refine blk_alloc ?_ _)); refine blk_put (cs := #[.string t311, .string t312, .string t313, .int .u8 t314, .int .i64 t315, .int .i64 t316, .int .i64 0, .int .i64 0, .slice none 0 0]) ?_ 6 _ rfl; (with_reducible repeat (first | refine blk_drewN ?_ _ | refine blk_drew ?_ | refine blk_alloc ?_ _)); refine blk_put (cs := #[.string t311, .string t312, .string t313, .int .u8 t314, .int .i64 t315, .int .i64 0, .int .i64 0, .int .i64 0, .slice none 0 0]) ?_ 5 _ rfl; (with_reducible repeat (first | refine blk_drewN ?_ _ | refine blk_drew ?_ | refine blk_alloc ?_ _)); refine blk_put (cs := #[.string t311, .string t312, .string t313, .int .u8 t314, .int .i64 0, .int .i64 0, .int .i64 0, .int .i64 0, .slice none 0 0]) ?_ 4 _ rfl; (with_reducible repeat (first | refine blk_drewN ?_ _ | refine blk_drew ?_ | refine blk_alloc ?_ _)); refine blk_put (cs := #[.string t311, .string t312, .string t313, .int .u8 0, .int .i64 0, .int .i64 0, .int .i64 0, .int .i64 0, .slice none 0 0]) ?_ 3 _ rfl; (with_reducible repeat (first | refine blk_drewN ?_ _ | refine blk_drew ?_ | refine blk_alloc ?_ _)); refine blk_put (cs := #[.string t311, .string t312, .string (⟨#[]⟩ : ByteArray), .int .u8 0, .int .i64 0, .int .i64 0, .int .i64 0, .int .i64 0, .slice none 0 0]) ?_ 2 _ rfl; (with_reducible repeat (first | refine blk_drewN ?_ _ | refine blk_drew ?_ | refine blk_alloc ?_ _)); refine blk_put (cs := #[.string t311, .string (⟨#[]⟩ : ByteArray), .string (⟨#[]⟩ : ByteArray), .int .u8 0, .int .i64 0, .int .i64 0, .int .i64 0, .int .i64 0, .slice none 0 0]) ?_ 1 _ rfl; (with_reducible repeat (first | refine blk_drewN ?_ _ | refine blk_drew ?_ | refine blk_alloc ?_ _)); refine blk_put (cs := #[.string (⟨#[]⟩ : ByteArray), .string (⟨#[]⟩ : ByteArray), .string (⟨#[]⟩ : ByteArray), .int .u8 0, .int .i64 0, .int .i64 0, .int .i64 0, .int .i64 0, .slice none 0 0]) ?_ 0 _ rfl; (with_reducible repeat (first | refine blk_drewN ?_ _ | refine blk_drew ?_ | refine blk_alloc ?_ _)); exact BK323.out))⟩; have n5_ : Aside0 (Below w.heap.size w w37) := ⟨(by rw [hw]; exact (wb1_ HB.out GE323.out))⟩; clear hw; clear HO_3; clear HL308_0; clear HL309_0; clear HO321; clear BK323; clear HB; have HO_3 := n0_; have HL308_0 := n1_; have HL309_0 := n2_; have HO321 := n3_; have BK323 := n4_; have HB := n5_; clear n0_ n1_ n2_ n3_ n4_ n5_; have hcz38_0 : w37.cell? ⟨gb323, 0, none⟩ = some (.string t311) := (bc_ BK323.out 0).trans rfl; have hcz38_1 : w37.cell? ⟨gb323, 1, none⟩ = some (.string t312) := (bc_ BK323.out 1).trans rfl; have hcz38_2 : w37.cell? ⟨gb323, 2, none⟩ = some (.string t313) := (bc_ BK323.out 2).trans rfl; have hcz38_3 : w37.cell? ⟨gb323, 3, none⟩ = some (.int .u8 t314) := (bc_ BK323.out 3).trans rfl; have hcz38_4 : w37.cell? ⟨gb323, 4, none⟩ = some (.int .i64 t315) := (bc_ BK323.out 4).trans rfl; have hcz38_5 : w37.cell? ⟨gb323, 5, none⟩ = some (.int .i64 t316) := (bc_ BK323.out 5).trans rfl; have hcz38_6 : w37.cell? ⟨gb323, 6, none⟩ = some (.int .i64 t317) := (bc_ BK323.out 6).trans rfl; have hcz38_7 : w37.cell? ⟨gb323, 7, none⟩ = some (.int .i64 t318) := (bc_ BK323.out 7).trans rfl; have hcz38_8 : w37.cell? ⟨gb323, 8, none⟩ = some (.slice Ao36 t319.length co36) := (bc_ BK323.out 8).trans rfl; have hfz38_0 := bf_ BK323.out 0; have hfz38_1 := bf_ BK323.out 1; have hfz38_2 := bf_ BK323.out 2; have hfz38_3 := bf_ BK323.out 3; have hfz38_4 := bf_ BK323.out 4; have hfz38_5 := bf_ BK323.out 5; have hfz38_6 := bf_ BK323.out 6; have hfz38_7 := bf_ BK323.out 7; have hfz38_8 := bf_ BK323.out 8; have p324 : 0 ≤ (x5_1 : Int) := wd_; have q324 : x5_1 < (t300.length : Int) := wd_; obtain ⟨ad324, A324_0, c324_0, e324, hx324_0, hl324_0, hi324_0⟩ := at_L8 (Kd.S_reads' HO_3.out).2.2 x5_1 p324 q324; obtain rfl : ad308 = ad324 := (by injection e324); obtain ⟨ce324, hce324, hMe324, hcc324⟩ := Kd.S_get HO_3.out [] x5_1 p324 (by first | exact q324 | exact wd_ | (have e_ := (Kd.S_reads' HO_3.out).1; omega)); obtain ⟨ve324_0, rfl, ge324_0⟩ := hMe324; have hv324_0 := hcc324 0 _ rfl; rw [Nat.add_zero, show ((Kd.slice 9 Kd.string)).sz = 1 from rfl, Nat.mul_one] at hv324_0; replace hv324_0 := Option.some.inj (hv324_0.symm.trans hx324_0); rw [hv324_0] at ge324_0; have HL324_0 := A0_ (show Kd.R Kd.string 9 _ _ _ _ (rd_L8 t300 x5_1) from ge324_0); clear hv324_0 ge324_0; clear hcc324 hce324; have HR324_0 := A0_ hi324_0; have HC324_0 := A0_ hl324_0; clear hi324_0 hl324_0; replace p324 := eq_true p324; replace q324 := eq_true q324; have p325 : 0 ≤ (0 : Int) := (by omega); have q325 : 0 < ((rd_L8 t300 x5_1).length : Int) := wd_; obtain ⟨ad325, e325, hx325_0⟩ := Kd.at_string (by repeat (first | (with_reducible exact HR324_0.out) | (with_reducible refine Ca_ ?_ _) | (with_reducible refine CN_ ?_ _) | (with_reducible refine C1_ ?_) | exact HR324_0.out)) 0 p325 q325; cases e325; have qi325 : (0 < (rd_L8 t300 x5_1).length) = True := eq_true (by omega); (try rw [show ((0 : Int)).toNat = 0 from rfl] at hx325_0); (try rw [Addr.add_zero'] at hx325_0); replace p325 := eq_true p325; replace q325 := eq_true q325; have p326 : 0 ≤ (x5_1 : Int) := wd_; have q326 : x5_1 < (t300.length : Int) := wd_; obtain ⟨ad326, A326_0, c326_0, e326, hx326_0, hl326_0, hi326_0⟩ := at_L8 (Kd.S_reads' HO_3.out).2.2 x5_1 p326 q326; obtain rfl : ad308 = ad326 := (by injection e326); obtain ⟨ce326, hce326, hMe326, hcc326⟩ := Kd.S_get HO_3.out [] x5_1 p326 (by first | exact q326 | exact wd_ | (have e_ := (Kd.S_reads' HO_3.out).1; omega)); obtain ⟨ve326_0, rfl, ge326_0⟩ := hMe326; have hv326_0 := hcc326 0 _ rfl; rw [Nat.add_zero, show ((Kd.slice 9 Kd.string)).sz = 1 from rfl, Nat.mul_one] at hv326_0; replace hv326_0 := Option.some.inj (hv326_0.symm.trans hx326_0); rw [hv326_0] at ge326_0; have HL326_0 := A0_ (show Kd.R Kd.string 9 _ _ _ _ (rd_L8 t300 x5_1) from ge326_0); clear hv326_0 ge326_0; clear hcc326 hce326; have HR326_0 := A0_ hi326_0; have HC326_0 := A0_ hl326_0; clear hi326_0 hl326_0; replace p326 := eq_true p326; replace q326 := eq_true q326; have ea_ := Option.some.inj (hx324_0.symm.trans hx326_0); injection ea_ with ea_ en_ ec_; subst ea_; subst ec_; clear en_; have p327 : 0 ≤ ((ji29) : Int) := wd_; have q327 : (ji29) < ((rd_L8 t300 x5_1).length : Int) := wd_; obtain ⟨ad327, e327, hx327_0⟩ := Kd.at_string (by repeat (first | (with_reducible exact HR326_0.out) | (with_reducible refine Ca_ ?_ _) | (with_reducible refine CN_ ?_ _) | (with_reducible refine C1_ ?_) | exact HR326_0.out)) (ji29) p327 q327; cases e327; replace p327 := eq_true p327; replace q327 := eq_true q327; have p328 : 0 ≤ (x5_1 : Int) := wd_; have q328 : x5_1 < (t300.length : Int) := wd_; obtain ⟨ad328, A328_0, c328_0, e328, hx328_0, hl328_0, hi328_0⟩ := at_L8 (Kd.S_reads' HO_3.out).2.2 x5_1 p328 q328; obtain rfl : ad308 = ad328 := (by injection e328); obtain ⟨ce328, hce328, hMe328, hcc328⟩ := Kd.S_get HO_3.out [] x5_1 p328 (by first | exact q328 | exact wd_ | (have e_ := (Kd.S_reads' HO_3.out).1; omega)); obtain ⟨ve328_0, rfl, ge328_0⟩ := hMe328; have hv328_0 := hcc328 0 _ rfl; rw [Nat.add_zero, show ((Kd.slice 9 Kd.string)).sz = 1 from rfl, Nat.mul_one] at hv328_0; replace hv328_0 := Option.some.inj (hv328_0.symm.trans hx328_0); rw [hv328_0] at ge328_0; have HL328_0 := A0_ (show Kd.R Kd.string 9 _ _ _ _ (rd_L8 t300 x5_1) from ge328_0); clear hv328_0 ge328_0; clear hcc328 hce328; have HR328_0 := A0_ hi328_0; have HC328_0 := A0_ hl328_0; clear hi328_0 hl328_0; replace p328 := eq_true p328; replace q328 := eq_true q328; have ea_ := Option.some.inj (hx324_0.symm.trans hx328_0); injection ea_ with ea_ en_ ec_; subst ea_; subst ec_; clear en_; have p329 : 0 ≤ (x6_3 : Int) := wd_; have q329 : x6_3 < ((rd_L8 t300 x5_1).length : Int) := wd_; obtain ⟨ad329, e329, hx329_0⟩ := Kd.at_string (by repeat (first | (with_reducible exact HR328_0.out) | (with_reducible refine Ca_ ?_ _) | (with_reducible refine CN_ ?_ _) | (with_reducible refine C1_ ?_) | exact HR328_0.out)) x6_3 p329 q329; cases e329; replace p329 := eq_true p329; replace q329 := eq_true q329))
       repeat (go_quiet (first | (go_at_call 23; (with_reducible refine (bindleref08_Find.calls k3 (fun k_ => k_ < w.heap.size) _ _ l0 (rdOf ByteArray.empty (rd_L8 t300 x5_1) x6_3) t311 t312 t313 t314 t315 t316 t317 t318 t319 true _ ?side1 A23.out).mono ?_); (case side1 => exact Kd.V_mk HC0.out (Kd.F_below (Kd.C_F k40_heap HR0.out) (wb_ HB.out))); rintro e w33 ⟨v320, rfl, ho0, hb⟩; have n0_ := A0_ (Sb_ (wS_ HO_3.out) hb); have n1_ := A0_ (Rb_ (wR_ HL308_0.out) hb); have n2_ := A0_ (Rb_ (wR_ HL309_0.out) hb); have n3_ := A0_ (Kd.V_lower (Kd.V_mono (ok' := fun k_ => some k_ ≠ (.slice (some ad308) t300.length co9 : Value).ownBlock) ho0 (fun k_ hk_ => Or.elim hk_ (fun hs_ => fun e_ => Nat.not_le.2 hs_ (Kd.S_base HO_3.out k_ e_.symm)) (fun hn_ => (Kd.fresh' (Kd.S_lt (wS_ HO_3.out)) k_ hn_)))) (below_size (wb_ HB.out))); have n4_ := A0_ (Kd.C_below (by repeat (first | (with_reducible exact HR308_0.out) | (with_reducible refine Ca_ ?_ _) | (with_reducible refine CN_ ?_ _) | (with_reducible refine C1_ ?_) | exact HR308_0.out)) hb); have n5_ := A0_ (Kd.C_below (by repeat (first | (with_reducible exact HR309_0.out) | (with_reducible refine Ca_ ?_ _) | (with_reducible refine CN_ ?_ _) | (with_reducible refine C1_ ?_) | exact HR309_0.out)) hb); have n6_ := A0_ (below_step (wb_ HB.out) hb); clear HO_3; clear HL308_0; clear HL309_0; clear HR308_0; clear HR309_0; clear HB; have HO_3 := n0_; have HL308_0 := n1_; have HL309_0 := n2_; have HO321 := n3_; have HR308_0 := n4_; have HR309_0 := n5_; have HB := n6_; clear n0_ n1_ n2_ n3_ n4_ n5_ n6_; (try clear hb); (try clear hb2); (try clear hk); (try clear hi); (try clear ho0)) | ((with_reducible refine gate_dst (N := 7) rfl ?_); refine box_event ?hg (N := 7) ?hd (cs := #[.string (⟨#[]⟩ : ByteArray), .string (⟨#[]⟩ : ByteArray), .string (⟨#[]⟩ : ByteArray), .int .u8 0, .int .i64 0, .int .i64 0, .int .i64 0, .int .i64 0, .slice none 0 0]) (t := 40) ?hr ?_; (case hd => rfl); (case hg => rfl); (case hr => first | (go_simp; done) | (go_simp; rfl)); intro gb323 hg w34 hbox hb; have n0_ := A0_ (Sb_ (wS_ HO_3.out) hb); have n1_ := A0_ (Rb_ (wR_ HL308_0.out) hb); have n2_ := A0_ (Rb_ (wR_ HL309_0.out) hb); have n3_ := A0_ (Vb_ (Kd.V_elderB (wV_ HO321.out) gb323 (Nat.le_of_eq hg.symm)) hb); have n4_ := A0_ (Kd.C_below (by repeat (first | (with_reducible exact HR308_0.out) | (with_reducible refine Ca_ ?_ _) | (with_reducible refine CN_ ?_ _) | (with_reducible refine C1_ ?_) | exact HR308_0.out)) hb); have n5_ := A0_ (Kd.C_below (by repeat (first | (with_reducible exact HR309_0.out) | (with_reducible refine Ca_ ?_ _) | (with_reducible refine CN_ ?_ _) | (with_reducible refine C1_ ?_) | exact HR309_0.out)) hb); have n6_ := A0_ (below_step (wb_ HB.out) hb); have n7_ := A0_ (hbox); have n8_ := A0_ ((by rw [hg]; exact (below_size (wb_ HB.out)) : w.heap.size ≤ gb323)); have n9_ := A0_ ((by rw [hg]; exact (below_size (wb_ HB.out)) : w.heap.size ≤ gb323)); clear HO_3; clear HL308_0; clear HL309_0; clear HO321; clear HR308_0; clear HR309_0; clear HB; have HO_3 := n0_; have HL308_0 := n1_; have HL309_0 := n2_; have HO321 := n3_; have HR308_0 := n4_; have HR309_0 := n5_; have HB := n6_; have BK323 := n7_; have GW323 := n8_; have GE323 := n9_; clear n0_ n1_ n2_ n3_ n4_ n5_ n6_ n7_ n8_ n9_; clear hb hbox hg; have hcz35_0 : w34.cell? ⟨gb323, 0, none⟩ = some (.string (⟨#[]⟩ : ByteArray)) := (bc_ BK323.out 0).trans rfl; have hcz35_1 : w34.cell? ⟨gb323, 1, none⟩ = some (.string (⟨#[]⟩ : ByteArray)) := (bc_ BK323.out 1).trans rfl; have hcz35_2 : w34.cell? ⟨gb323, 2, none⟩ = some (.string (⟨#[]⟩ : ByteArray)) := (bc_ BK323.out 2).trans rfl; have hcz35_3 : w34.cell? ⟨gb323, 3, none⟩ = some (.int .u8 0) := (bc_ BK323.out 3).trans rfl; have hcz35_4 : w34.cell? ⟨gb323, 4, none⟩ = some (.int .i64 0) := (bc_ BK323.out 4).trans rfl; have hcz35_5 : w34.cell? ⟨gb323, 5, none⟩ = some (.int .i64 0) := (bc_ BK323.out 5).trans rfl; have hcz35_6 : w34.cell? ⟨gb323, 6, none⟩ = some (.int .i64 0) := (bc_ BK323.out 6).trans rfl; have hcz35_7 : w34.cell? ⟨gb323, 7, none⟩ = some (.int .i64 0) := (bc_ BK323.out 7).trans rfl; have hcz35_8 : w34.cell? ⟨gb323, 8, none⟩ = some (.slice none 0 0) := (bc_ BK323.out 8).trans rfl; have hfz35_0 := bf_ BK323.out 0; have hfz35_1 := bf_ BK323.out 1; have hfz35_2 := bf_ BK323.out 2; have hfz35_3 := bf_ BK323.out 3; have hfz35_4 := bf_ BK323.out 4; have hfz35_5 := bf_ BK323.out 5; have hfz35_6 := bf_ BK323.out 6; have hfz35_7 := bf_ BK323.out 7; have hfz35_8 := bf_ BK323.out 8; obtain ⟨Ao36, co36, eo36⟩ := Kd.V_slice HO321.out; subst eo36) | ((with_reducible refine gate_store (t := 40) (p := 7) rfl ?_); (try (rw [drewN_self w34]; generalize hq_ : World.drewN w34 _ = w34; have n0_ := A0_ (Kd.S_at hq_ HO_3.out); have n1_ := A0_ (Kd.R_at hq_ HL308_0.out); have n2_ := A0_ (Kd.R_at hq_ HL309_0.out); have n3_ := A0_ (Kd.V_at hq_ HO321.out); have n4_ := A0_ (blk_at hq_ BK323.out); have n5_ := A0_ (Kd.C_at hq_ HR308_0.out); have n6_ := A0_ (Kd.C_at hq_ HR309_0.out); have n7_ := A0_ (below_at hq_ HB.out); clear hq_ HO_3 HL308_0 HL309_0 HO321 BK323 HR308_0 HR309_0 HB; have HO_3 := n0_; have HL308_0 := n1_; have HL309_0 := n2_; have HO321 := n3_; have BK323 := n4_; have HR308_0 := n5_; have HR309_0 := n6_; have HB := n7_; clear n0_ n1_ n2_ n3_ n4_ n5_ n6_ n7_)); refine store_event (t := 40) (p := 7) (v := ?vo_w37) (w1 := (((((((((w34.setCell ⟨gb323, 0, none⟩ (.string t311)).setCell ⟨gb323, 1, none⟩ (.string t312)).setCell ⟨gb323, 2, none⟩ (.string t313)).setCell ⟨gb323, 3, none⟩ (.int .u8 t314)).setCell ⟨gb323, 4, none⟩ (.int .i64 t315)).setCell ⟨gb323, 5, none⟩ (.int .i64 t316)).setCell ⟨gb323, 6, none⟩ (.int .i64 t317)).setCell ⟨gb323, 7, none⟩ (.int .i64 t318)).setCell ⟨gb323, 8, none⟩ (.slice Ao36 t319.length co36))) ?hg ?ho ?hn ?hr ?_; (case ho => rfl); (case hg => rfl); (case hn => rfl); (case hr => first | (go_simp; done) | (go_simp; rfl)); intro w37 hw; have n0_ : Aside0 (Kd.S (Kd.slice 9 Kd.string) 26 w37 w.heap.size (fun _ => True) (.slice (some ad308) t300.length co9) t300) := ⟨(by rw [hw]; exact (by (with_reducible repeat (first | apply Sa_ | apply SN_ | apply S1_)); exact Kd.S_mono (Kd.S_far (p := ⟨gb323, 8, none⟩) (Kd.S_far (p := ⟨gb323, 7, none⟩) (Kd.S_far (p := ⟨gb323, 6, none⟩) (Kd.S_far (p := ⟨gb323, 5, none⟩) (Kd.S_far (p := ⟨gb323, 4, none⟩) (Kd.S_far (p := ⟨gb323, 3, none⟩) (Kd.S_far (p := ⟨gb323, 2, none⟩) (Kd.S_far (p := ⟨gb323, 1, none⟩) (Kd.S_far (p := ⟨gb323, 0, none⟩) (Kd.S_types HO_3.out BK323.out (by decide)) (fun _ hk => hk.2) (.string t311)) (fun _ hk => hk.2) (.string t312)) (fun _ hk => hk.2) (.string t313)) (fun _ hk => hk.2) (.int .u8 t314)) (fun _ hk => hk.2) (.int .i64 t315)) (fun _ hk => hk.2) (.int .i64 t316)) (fun _ hk => hk.2) (.int .i64 t317)) (fun _ hk => hk.2) (.int .i64 t318)) (fun _ hk => hk.2) (.slice Ao36 t319.length co36)) (fun _ hk => trivial)))⟩; have n1_ : Aside0 (Kd.R Kd.string 9 w37 w.heap.size (fun k_ => some k_ ≠ (.slice (some ad308) t300.length co9 : Value).ownBlock) (.slice (some ad310) (rd_L8 t300 x5_1).length c308_0) (rd_L8 t300 x5_1)) := ⟨(by rw [hw]; exact (by (with_reducible repeat (first | apply Ra_ | apply RN_ | apply R1_)); exact Kd.R_mono (Kd.R_far (p := ⟨gb323, 8, none⟩) (Kd.R_far (p := ⟨gb323, 7, none⟩) (Kd.R_far (p := ⟨gb323, 6, none⟩) (Kd.R_far (p := ⟨gb323, 5, none⟩) (Kd.R_far (p := ⟨gb323, 4, none⟩) (Kd.R_far (p := ⟨gb323, 3, none⟩) (Kd.R_far (p := ⟨gb323, 2, none⟩) (Kd.R_far (p := ⟨gb323, 1, none⟩) (Kd.R_far (p := ⟨gb323, 0, none⟩) (Kd.R_types HL308_0.out BK323.out (by decide)) (fun _ hk => hk.2) (.string t311)) (fun _ hk => hk.2) (.string t312)) (fun _ hk => hk.2) (.string t313)) (fun _ hk => hk.2) (.int .u8 t314)) (fun _ hk => hk.2) (.int .i64 t315)) (fun _ hk => hk.2) (.int .i64 t316)) (fun _ hk => hk.2) (.int .i64 t317)) (fun _ hk => hk.2) (.int .i64 t318)) (fun _ hk => hk.2) (.slice Ao36 t319.length co36)) (fun _ hk => hk.1.2)))⟩; have n2_ : Aside0 (Kd.R Kd.string 9 w37 w.heap.size (fun k_ => some k_ ≠ (.slice (some ad308) t300.length co9 : Value).ownBlock) (.slice (some ad310) (rd_L8 t300 x5_1).length c308_0) (rd_L8 t300 x5_1)) := ⟨(by rw [hw]; exact (by (with_reducible repeat (first | apply Ra_ | apply RN_ | apply R1_)); exact Kd.R_mono (Kd.R_far (p := ⟨gb323, 8, none⟩) (Kd.R_far (p := ⟨gb323, 7, none⟩) (Kd.R_far (p := ⟨gb323, 6, none⟩) (Kd.R_far (p := ⟨gb323, 5, none⟩) (Kd.R_far (p := ⟨gb323, 4, none⟩) (Kd.R_far (p := ⟨gb323, 3, none⟩) (Kd.R_far (p := ⟨gb323, 2, none⟩) (Kd.R_far (p := ⟨gb323, 1, none⟩) (Kd.R_far (p := ⟨gb323, 0, none⟩) (Kd.R_types HL309_0.out BK323.out (by decide)) (fun _ hk => hk.2) (.string t311)) (fun _ hk => hk.2) (.string t312)) (fun _ hk => hk.2) (.string t313)) (fun _ hk => hk.2) (.int .u8 t314)) (fun _ hk => hk.2) (.int .i64 t315)) (fun _ hk => hk.2) (.int .i64 t316)) (fun _ hk => hk.2) (.int .i64 t317)) (fun _ hk => hk.2) (.int .i64 t318)) (fun _ hk => hk.2) (.slice Ao36 t319.length co36)) (fun _ hk => hk.1.2)))⟩; have n3_ : Aside0 (Kd.V (Kd.int .u8) 5 w37 w.heap.size (fun k_ => some k_ ≠ (.slice (some ad308) t300.length co9 : Value).ownBlock ∧ k_ ≠ gb323) (.slice Ao36 t319.length co36) t319) := ⟨(by rw [hw]; exact (by (with_reducible repeat (first | apply Va_ | apply VN_ | apply V1_)); exact Kd.V_mono (Kd.V_far (p := ⟨gb323, 8, none⟩) (Kd.V_far (p := ⟨gb323, 7, none⟩) (Kd.V_far (p := ⟨gb323, 6, none⟩) (Kd.V_far (p := ⟨gb323, 5, none⟩) (Kd.V_far (p := ⟨gb323, 4, none⟩) (Kd.V_far (p := ⟨gb323, 3, none⟩) (Kd.V_far (p := ⟨gb323, 2, none⟩) (Kd.V_far (p := ⟨gb323, 1, none⟩) (Kd.V_far (p := ⟨gb323, 0, none⟩) (Kd.V_mono HO321.out (fun k_ hk => (⟨hk, hk.2⟩ : _ ∧ k_ ≠ gb323))) (fun _ hk => hk.2) (.string t311)) (fun _ hk => hk.2) (.string t312)) (fun _ hk => hk.2) (.string t313)) (fun _ hk => hk.2) (.int .u8 t314)) (fun _ hk => hk.2) (.int .i64 t315)) (fun _ hk => hk.2) (.int .i64 t316)) (fun _ hk => hk.2) (.int .i64 t317)) (fun _ hk => hk.2) (.int .i64 t318)) (fun _ hk => hk.2) (.slice Ao36 t319.length co36)) (fun _ hk => ⟨hk.1.1, hk.1.2⟩)))⟩; have n4_ : Aside0 (w37.heap[gb323]? = some (.cells #[.string t311, .string t312, .string t313, .int .u8 t314, .int .i64 t315, .int .i64 t316, .int .i64 t317, .int .i64 t318, .slice Ao36 t319.length co36] 40 (0, 0))) := ⟨(by rw [hw]; exact (by (with_reducible repeat (first | refine blk_drewN ?_ _ | refine blk_drew ?_ | refine blk_alloc ?_ _)); refine blk_put (cs := #[.string t311, .string t312, .string t313, .int .u8 t314, .int .i64 t315, .int .i64 t316, .int .i64 t317, .int .i64 t318, .slice none 0 0]) ?_ 8 _ rfl; (with_reducible repeat (first | refine blk_drewN ?_ _ | refine blk_drew ?_ | refine blk_alloc ?_ _)); refine blk_put (cs := #[.string t311, .string t312, .string t313, .int .u8 t314, .int .i64 t315, .int .i64 t316, .int .i64 t317, .int .i64 0, .slice none 0 0]) ?_ 7 _ rfl; (with_reducible repeat (first | refine blk_drewN ?_ _ | refine blk_drew ?_ | refine blk_alloc ?_ _)); refine blk_put (cs := #[.string t311, .string t312, .string t313, .int .u8 t314, .int .i64 t315, .int .i64 t316, .int .i64 0, .int .i64 0, .slice none 0 0]) ?_ 6 _ rfl; (with_reducible repeat (first | refine blk_drewN ?_ _ | refine blk_drew ?_ | refine blk_alloc ?_ _)); refine blk_put (cs := #[.string t311, .string t312, .string t313, .int .u8 t314, .int .i64 t315, .int .i64 0, .int .i64 0, .int .i64 0, .slice none 0 0]) ?_ 5 _ rfl; (with_reducible repeat (first | refine blk_drewN ?_ _ | refine blk_drew ?_ | refine blk_alloc ?_ _)); refine blk_put (cs := #[.string t311, .string t312, .string t313, .int .u8 t314, .int .i64 0, .int .i64 0, .int .i64 0, .int .i64 0, .slice none 0 0]) ?_ 4 _ rfl; (with_reducible repeat (first | refine blk_drewN ?_ _ | refine blk_drew ?_ | refine blk_alloc ?_ _)); refine blk_put (cs := #[.string t311, .string t312, .string t313, .int .u8 0, .int .i64 0, .int .i64 0, .int .i64 0, .int .i64 0, .slice none 0 0]) ?_ 3 _ rfl; (with_reducible repeat (first | refine blk_drewN ?_ _ | refine blk_drew ?_ | refine blk_alloc ?_ _)); refine blk_put (cs := #[.string t311, .string t312, .string (⟨#[]⟩ : ByteArray), .int .u8 0, .int .i64 0, .int .i64 0, .int .i64 0, .int .i64 0, .slice none 0 0]) ?_ 2 _ rfl; (with_reducible repeat (first | refine blk_drewN ?_ _ | refine blk_drew ?_ | refine blk_alloc ?_ _)); refine blk_put (cs := #[.string t311, .string (⟨#[]⟩ : ByteArray), .string (⟨#[]⟩ : ByteArray), .int .u8 0, .int .i64 0, .int .i64 0, .int .i64 0, .int .i64 0, .slice none 0 0]) ?_ 1 _ rfl; (with_reducible repeat (first | refine blk_drewN ?_ _ | refine blk_drew ?_ | refine blk_alloc ?_ _)); refine blk_put (cs := #[.string (⟨#[]⟩ : ByteArray), .string (⟨#[]⟩ : ByteArray), .string (⟨#[]⟩ : ByteArray), .int .u8 0, .int .i64 0, .int .i64 0, .int .i64 0, .int .i64 0, .slice none 0 0]) ?_ 0 _ rfl; (with_reducible repeat (first | refine blk_drewN ?_ _ | refine blk_drew ?_ | refine blk_alloc ?_ _)); exact BK323.out))⟩; have n5_ : Aside0 (Below w.heap.size w w37) := ⟨(by rw [hw]; exact (wb1_ HB.out GE323.out))⟩; clear hw; clear HO_3; clear HL308_0; clear HL309_0; clear HO321; clear BK323; clear HB; have HO_3 := n0_; have HL308_0 := n1_; have HL309_0 := n2_; have HO321 := n3_; have BK323 := n4_; have HB := n5_; clear n0_ n1_ n2_ n3_ n4_ n5_; have hcz38_0 : w37.cell? ⟨gb323, 0, none⟩ = some (.string t311) := (bc_ BK323.out 0).trans rfl; have hcz38_1 : w37.cell? ⟨gb323, 1, none⟩ = some (.string t312) := (bc_ BK323.out 1).trans rfl; have hcz38_2 : w37.cell? ⟨gb323, 2, none⟩ = some (.string t313) := (bc_ BK323.out 2).trans rfl; have hcz38_3 : w37.cell? ⟨gb323, 3, none⟩ = some (.int .u8 t314) := (bc_ BK323.out 3).trans rfl; have hcz38_4 : w37.cell? ⟨gb323, 4, none⟩ = some (.int .i64 t315) := (bc_ BK323.out 4).trans rfl; have hcz38_5 : w37.cell? ⟨gb323, 5, none⟩ = some (.int .i64 t316) := (bc_ BK323.out 5).trans rfl; have hcz38_6 : w37.cell? ⟨gb323, 6, none⟩ = some (.int .i64 t317) := (bc_ BK323.out 6).trans rfl; have hcz38_7 : w37.cell? ⟨gb323, 7, none⟩ = some (.int .i64 t318) := (bc_ BK323.out 7).trans rfl; have hcz38_8 : w37.cell? ⟨gb323, 8, none⟩ = some (.slice Ao36 t319.length co36) := (bc_ BK323.out 8).trans rfl; have hfz38_0 := bf_ BK323.out 0; have hfz38_1 := bf_ BK323.out 1; have hfz38_2 := bf_ BK323.out 2; have hfz38_3 := bf_ BK323.out 3; have hfz38_4 := bf_ BK323.out 4; have hfz38_5 := bf_ BK323.out 5; have hfz38_6 := bf_ BK323.out 6; have hfz38_7 := bf_ BK323.out 7; have hfz38_8 := bf_ BK323.out 8; have p324 : 0 ≤ (x5_1 : Int) := wd_; have q324 : x5_1 < (t300.length : Int) := wd_; obtain ⟨ad324, A324_0, c324_0, e324, hx324_0, hl324_0, hi324_0⟩ := at_L8 (Kd.S_reads' HO_3.out).2.2 x5_1 p324 q324; obtain rfl : ad308 = ad324 := (by injection e324); obtain ⟨ce324, hce324, hMe324, hcc324⟩ := Kd.S_get HO_3.out [] x5_1 p324 (by first | exact q324 | exact wd_ | (have e_ := (Kd.S_reads' HO_3.out).1; omega)); obtain ⟨ve324_0, rfl, ge324_0⟩ := hMe324; have hv324_0 := hcc324 0 _ rfl; rw [Nat.add_zero, show ((Kd.slice 9 Kd.string)).sz = 1 from rfl, Nat.mul_one] at hv324_0; replace hv324_0 := Option.some.inj (hv324_0.symm.trans hx324_0); rw [hv324_0] at ge324_0; have HL324_0 := A0_ (show Kd.R Kd.string 9 _ _ _ _ (rd_L8 t300 x5_1) from ge324_0); clear hv324_0 ge324_0; clear hcc324 hce324; have HR324_0 := A0_ hi324_0; have HC324_0 := A0_ hl324_0; clear hi324_0 hl324_0; replace p324 := eq_true p324; replace q324 := eq_true q324; have p325 : 0 ≤ (0 : Int) := (by omega); have q325 : 0 < ((rd_L8 t300 x5_1).length : Int) := wd_; obtain ⟨ad325, e325, hx325_0⟩ := Kd.at_string (by repeat (first | (with_reducible exact HR324_0.out) | (with_reducible refine Ca_ ?_ _) | (with_reducible refine CN_ ?_ _) | (with_reducible refine C1_ ?_) | exact HR324_0.out)) 0 p325 q325; cases e325; have qi325 : (0 < (rd_L8 t300 x5_1).length) = True := eq_true (by omega); (try rw [show ((0 : Int)).toNat = 0 from rfl] at hx325_0); (try rw [Addr.add_zero'] at hx325_0); replace p325 := eq_true p325; replace q325 := eq_true q325; have p326 : 0 ≤ (x5_1 : Int) := wd_; have q326 : x5_1 < (t300.length : Int) := wd_; obtain ⟨ad326, A326_0, c326_0, e326, hx326_0, hl326_0, hi326_0⟩ := at_L8 (Kd.S_reads' HO_3.out).2.2 x5_1 p326 q326; obtain rfl : ad308 = ad326 := (by injection e326); obtain ⟨ce326, hce326, hMe326, hcc326⟩ := Kd.S_get HO_3.out [] x5_1 p326 (by first | exact q326 | exact wd_ | (have e_ := (Kd.S_reads' HO_3.out).1; omega)); obtain ⟨ve326_0, rfl, ge326_0⟩ := hMe326; have hv326_0 := hcc326 0 _ rfl; rw [Nat.add_zero, show ((Kd.slice 9 Kd.string)).sz = 1 from rfl, Nat.mul_one] at hv326_0; replace hv326_0 := Option.some.inj (hv326_0.symm.trans hx326_0); rw [hv326_0] at ge326_0; have HL326_0 := A0_ (show Kd.R Kd.string 9 _ _ _ _ (rd_L8 t300 x5_1) from ge326_0); clear hv326_0 ge326_0; clear hcc326 hce326; have HR326_0 := A0_ hi326_0; have HC326_0 := A0_ hl326_0; clear hi326_0 hl326_0; replace p326 := eq_true p326; replace q326 := eq_true q326; have ea_ := Option.some.inj (hx324_0.symm.trans hx326_0); injection ea_ with ea_ en_ ec_; subst ea_; subst ec_; clear en_; have p327 : 0 ≤ ((ji29) : Int) := wd_; have q327 : (ji29) < ((rd_L8 t300 x5_1).length : Int) := wd_; obtain ⟨ad327, e327, hx327_0⟩ := Kd.at_string (by repeat (first | (with_reducible exact HR326_0.out) | (with_reducible refine Ca_ ?_ _) | (with_reducible refine CN_ ?_ _) | (with_reducible refine C1_ ?_) | exact HR326_0.out)) (ji29) p327 q327; cases e327; replace p327 := eq_true p327; replace q327 := eq_true q327; have p328 : 0 ≤ (x5_1 : Int) := wd_; have q328 : x5_1 < (t300.length : Int) := wd_; obtain ⟨ad328, A328_0, c328_0, e328, hx328_0, hl328_0, hi328_0⟩ := at_L8 (Kd.S_reads' HO_3.out).2.2 x5_1 p328 q328; obtain rfl : ad308 = ad328 := (by injection e328); obtain ⟨ce328, hce328, hMe328, hcc328⟩ := Kd.S_get HO_3.out [] x5_1 p328 (by first | exact q328 | exact wd_ | (have e_ := (Kd.S_reads' HO_3.out).1; omega)); obtain ⟨ve328_0, rfl, ge328_0⟩ := hMe328; have hv328_0 := hcc328 0 _ rfl; rw [Nat.add_zero, show ((Kd.slice 9 Kd.string)).sz = 1 from rfl, Nat.mul_one] at hv328_0; replace hv328_0 := Option.some.inj (hv328_0.symm.trans hx328_0); rw [hv328_0] at ge328_0; have HL328_0 := A0_ (show Kd.R Kd.string 9 _ _ _ _ (rd_L8 t300 x5_1) from ge328_0); clear hv328_0 ge328_0; clear hcc328 hce328; have HR328_0 := A0_ hi328_0; have HC328_0 := A0_ hl328_0; clear hi328_0 hl328_0; replace p328 := eq_true p328; replace q328 := eq_true q328; have ea_ := Option.some.inj (hx324_0.symm.trans hx328_0); injection ea_ with ea_ en_ ec_; subst ea_; subst ec_; clear en_; have p329 : 0 ≤ (x6_3 : Int) := wd_; have q329 : x6_3 < ((rd_L8 t300 x5_1).length : Int) := wd_; obtain ⟨ad329, e329, hx329_0⟩ := Kd.at_string (by repeat (first | (with_reducible exact HR328_0.out) | (with_reducible refine Ca_ ?_ _) | (with_reducible refine CN_ ?_ _) | (with_reducible refine C1_ ?_) | exact HR328_0.out)) x6_3 p329 q329; cases e329; replace p329 := eq_true p329; replace q329 := eq_true q329)); try go_wp2_with (first | (go_at_call 23; (with_reducible refine (bindleref08_Find.calls k3 (fun k_ => k_ < w.heap.size) _ _ l0 (rdOf ByteArray.empty (rd_L8 t300 x5_1) x6_3) t311 t312 t313 t314 t315 t316 t317 t318 t319 true _ ?side1 A23.out).mono ?_); (case side1 => exact Kd.V_mk HC0.out (Kd.F_below (Kd.C_F k40_heap HR0.out) (wb_ HB.out))); rintro e w33 ⟨v320, rfl, ho0, hb⟩; have n0_ := A0_ (Sb_ (wS_ HO_3.out) hb); have n1_ := A0_ (Rb_ (wR_ HL308_0.out) hb); have n2_ := A0_ (Rb_ (wR_ HL309_0.out) hb); have n3_ := A0_ (Kd.V_lower (Kd.V_mono (ok' := fun k_ => some k_ ≠ (.slice (some ad308) t300.length co9 : Value).ownBlock) ho0 (fun k_ hk_ => Or.elim hk_ (fun hs_ => fun e_ => Nat.not_le.2 hs_ (Kd.S_base HO_3.out k_ e_.symm)) (fun hn_ => (Kd.fresh' (Kd.S_lt (wS_ HO_3.out)) k_ hn_)))) (below_size (wb_ HB.out))); have n4_ := A0_ (Kd.C_below (by repeat (first | (with_reducible exact HR308_0.out) | (with_reducible refine Ca_ ?_ _) | (with_reducible refine CN_ ?_ _) | (with_reducible refine C1_ ?_) | exact HR308_0.out)) hb); have n5_ := A0_ (Kd.C_below (by repeat (first | (with_reducible exact HR309_0.out) | (with_reducible refine Ca_ ?_ _) | (with_reducible refine CN_ ?_ _) | (with_reducible refine C1_ ?_) | exact HR309_0.out)) hb); have n6_ := A0_ (below_step (wb_ HB.out) hb); clear HO_3; clear HL308_0; clear HL309_0; clear HR308_0; clear HR309_0; clear HB; have HO_3 := n0_; have HL308_0 := n1_; have HL309_0 := n2_; have HO321 := n3_; have HR308_0 := n4_; have HR309_0 := n5_; have HB := n6_; clear n0_ n1_ n2_ n3_ n4_ n5_ n6_; (try clear hb); (try clear hb2); (try clear hk); (try clear hi); (try clear ho0)) | ((with_reducible refine gate_dst (N := 7) rfl ?_); refine box_event ?hg (N := 7) ?hd (cs := #[.string (⟨#[]⟩ : ByteArray), .string (⟨#[]⟩ : ByteArray), .string (⟨#[]⟩ : ByteArray), .int .u8 0, .int .i64 0, .int .i64 0, .int .i64 0, .int .i64 0, .slice none 0 0]) (t := 40) ?hr ?_; (case hd => rfl); (case hg => rfl); (case hr => first | (go_simp; done) | (go_simp; rfl)); intro gb323 hg w34 hbox hb; have n0_ := A0_ (Sb_ (wS_ HO_3.out) hb); have n1_ := A0_ (Rb_ (wR_ HL308_0.out) hb); have n2_ := A0_ (Rb_ (wR_ HL309_0.out) hb); have n3_ := A0_ (Vb_ (Kd.V_elderB (wV_ HO321.out) gb323 (Nat.le_of_eq hg.symm)) hb); have n4_ := A0_ (Kd.C_below (by repeat (first | (with_reducible exact HR308_0.out) | (with_reducible refine Ca_ ?_ _) | (with_reducible refine CN_ ?_ _) | (with_reducible refine C1_ ?_) | exact HR308_0.out)) hb); have n5_ := A0_ (Kd.C_below (by repeat (first | (with_reducible exact HR309_0.out) | (with_reducible refine Ca_ ?_ _) | (with_reducible refine CN_ ?_ _) | (with_reducible refine C1_ ?_) | exact HR309_0.out)) hb); have n6_ := A0_ (below_step (wb_ HB.out) hb); have n7_ := A0_ (hbox); have n8_ := A0_ ((by rw [hg]; exact (below_size (wb_ HB.out)) : w.heap.size ≤ gb323)); have n9_ := A0_ ((by rw [hg]; exact (below_size (wb_ HB.out)) : w.heap.size ≤ gb323)); clear HO_3; clear HL308_0; clear HL309_0; clear HO321; clear HR308_0; clear HR309_0; clear HB; have HO_3 := n0_; have HL308_0 := n1_; have HL309_0 := n2_; have HO321 := n3_; have HR308_0 := n4_; have HR309_0 := n5_; have HB := n6_; have BK323 := n7_; have GW323 := n8_; have GE323 := n9_; clear n0_ n1_ n2_ n3_ n4_ n5_ n6_ n7_ n8_ n9_; clear hb hbox hg; have hcz35_0 : w34.cell? ⟨gb323, 0, none⟩ = some (.string (⟨#[]⟩ : ByteArray)) := (bc_ BK323.out 0).trans rfl; have hcz35_1 : w34.cell? ⟨gb323, 1, none⟩ = some (.string (⟨#[]⟩ : ByteArray)) := (bc_ BK323.out 1).trans rfl; have hcz35_2 : w34.cell? ⟨gb323, 2, none⟩ = some (.string (⟨#[]⟩ : ByteArray)) := (bc_ BK323.out 2).trans rfl; have hcz35_3 : w34.cell? ⟨gb323, 3, none⟩ = some (.int .u8 0) := (bc_ BK323.out 3).trans rfl; have hcz35_4 : w34.cell? ⟨gb323, 4, none⟩ = some (.int .i64 0) := (bc_ BK323.out 4).trans rfl; have hcz35_5 : w34.cell? ⟨gb323, 5, none⟩ = some (.int .i64 0) := (bc_ BK323.out 5).trans rfl; have hcz35_6 : w34.cell? ⟨gb323, 6, none⟩ = some (.int .i64 0) := (bc_ BK323.out 6).trans rfl; have hcz35_7 : w34.cell? ⟨gb323, 7, none⟩ = some (.int .i64 0) := (bc_ BK323.out 7).trans rfl; have hcz35_8 : w34.cell? ⟨gb323, 8, none⟩ = some (.slice none 0 0) := (bc_ BK323.out 8).trans rfl; have hfz35_0 := bf_ BK323.out 0; have hfz35_1 := bf_ BK323.out 1; have hfz35_2 := bf_ BK323.out 2; have hfz35_3 := bf_ BK323.out 3; have hfz35_4 := bf_ BK323.out 4; have hfz35_5 := bf_ BK323.out 5; have hfz35_6 := bf_ BK323.out 6; have hfz35_7 := bf_ BK323.out 7; have hfz35_8 := bf_ BK323.out 8; obtain ⟨Ao36, co36, eo36⟩ := Kd.V_slice HO321.out; subst eo36) | ((with_reducible refine gate_store (t := 40) (p := 7) rfl ?_); (try (rw [drewN_self w34]; generalize hq_ : World.drewN w34 _ = w34; have n0_ := A0_ (Kd.S_at hq_ HO_3.out); have n1_ := A0_ (Kd.R_at hq_ HL308_0.out); have n2_ := A0_ (Kd.R_at hq_ HL309_0.out); have n3_ := A0_ (Kd.V_at hq_ HO321.out); have n4_ := A0_ (blk_at hq_ BK323.out); have n5_ := A0_ (Kd.C_at hq_ HR308_0.out); have n6_ := A0_ (Kd.C_at hq_ HR309_0.out); have n7_ := A0_ (below_at hq_ HB.out); clear hq_ HO_3 HL308_0 HL309_0 HO321 BK323 HR308_0 HR309_0 HB; have HO_3 := n0_; have HL308_0 := n1_; have HL309_0 := n2_; have HO321 := n3_; have BK323 := n4_; have HR308_0 := n5_; have HR309_0 := n6_; have HB := n7_; clear n0_ n1_ n2_ n3_ n4_ n5_ n6_ n7_)); refine store_event (t := 40) (p := 7) (v := ?vo_w37) (w1 := (((((((((w34.setCell ⟨gb323, 0, none⟩ (.string t311)).setCell ⟨gb323, 1, none⟩ (.string t312)).setCell ⟨gb323, 2, none⟩ (.string t313)).setCell ⟨gb323, 3, none⟩ (.int .u8 t314)).setCell ⟨gb323, 4, none⟩ (.int .i64 t315)).setCell ⟨gb323, 5, none⟩ (.int .i64 t316)).setCell ⟨gb323, 6, none⟩ (.int .i64 t317)).setCell ⟨gb323, 7, none⟩ (.int .i64 t318)).setCell ⟨gb323, 8, none⟩ (.slice Ao36 t319.length co36))) ?hg ?ho ?hn ?hr ?_; (case ho => rfl); (case hg => rfl); (case hn => rfl); (case hr => first | (go_simp; done) | (go_simp; rfl)); intro w37 hw; have n0_ : Aside0 (Kd.S (Kd.slice 9 Kd.string) 26 w37 w.heap.size (fun _ => True) (.slice (some ad308) t300.length co9) t300) := ⟨(by rw [hw]; exact (by (with_reducible repeat (first | apply Sa_ | apply SN_ | apply S1_)); exact Kd.S_mono (Kd.S_far (p := ⟨gb323, 8, none⟩) (Kd.S_far (p := ⟨gb323, 7, none⟩) (Kd.S_far (p := ⟨gb323, 6, none⟩) (Kd.S_far (p := ⟨gb323, 5, none⟩) (Kd.S_far (p := ⟨gb323, 4, none⟩) (Kd.S_far (p := ⟨gb323, 3, none⟩) (Kd.S_far (p := ⟨gb323, 2, none⟩) (Kd.S_far (p := ⟨gb323, 1, none⟩) (Kd.S_far (p := ⟨gb323, 0, none⟩) (Kd.S_types HO_3.out BK323.out (by decide)) (fun _ hk => hk.2) (.string t311)) (fun _ hk => hk.2) (.string t312)) (fun _ hk => hk.2) (.string t313)) (fun _ hk => hk.2) (.int .u8 t314)) (fun _ hk => hk.2) (.int .i64 t315)) (fun _ hk => hk.2) (.int .i64 t316)) (fun _ hk => hk.2) (.int .i64 t317)) (fun _ hk => hk.2) (.int .i64 t318)) (fun _ hk => hk.2) (.slice Ao36 t319.length co36)) (fun _ hk => trivial)))⟩; have n1_ : Aside0 (Kd.R Kd.string 9 w37 w.heap.size (fun k_ => some k_ ≠ (.slice (some ad308) t300.length co9 : Value).ownBlock) (.slice (some ad310) (rd_L8 t300 x5_1).length c308_0) (rd_L8 t300 x5_1)) := ⟨(by rw [hw]; exact (by (with_reducible repeat (first | apply Ra_ | apply RN_ | apply R1_)); exact Kd.R_mono (Kd.R_far (p := ⟨gb323, 8, none⟩) (Kd.R_far (p := ⟨gb323, 7, none⟩) (Kd.R_far (p := ⟨gb323, 6, none⟩) (Kd.R_far (p := ⟨gb323, 5, none⟩) (Kd.R_far (p := ⟨gb323, 4, none⟩) (Kd.R_far (p := ⟨gb323, 3, none⟩) (Kd.R_far (p := ⟨gb323, 2, none⟩) (Kd.R_far (p := ⟨gb323, 1, none⟩) (Kd.R_far (p := ⟨gb323, 0, none⟩) (Kd.R_types HL308_0.out BK323.out (by decide)) (fun _ hk => hk.2) (.string t311)) (fun _ hk => hk.2) (.string t312)) (fun _ hk => hk.2) (.string t313)) (fun _ hk => hk.2) (.int .u8 t314)) (fun _ hk => hk.2) (.int .i64 t315)) (fun _ hk => hk.2) (.int .i64 t316)) (fun _ hk => hk.2) (.int .i64 t317)) (fun _ hk => hk.2) (.int .i64 t318)) (fun _ hk => hk.2) (.slice Ao36 t319.length co36)) (fun _ hk => hk.1.2)))⟩; have n2_ : Aside0 (Kd.R Kd.string 9 w37 w.heap.size (fun k_ => some k_ ≠ (.slice (some ad308) t300.length co9 : Value).ownBlock) (.slice (some ad310) (rd_L8 t300 x5_1).length c308_0) (rd_L8 t300 x5_1)) := ⟨(by rw [hw]; exact (by (with_reducible repeat (first | apply Ra_ | apply RN_ | apply R1_)); exact Kd.R_mono (Kd.R_far (p := ⟨gb323, 8, none⟩) (Kd.R_far (p := ⟨gb323, 7, none⟩) (Kd.R_far (p := ⟨gb323, 6, none⟩) (Kd.R_far (p := ⟨gb323, 5, none⟩) (Kd.R_far (p := ⟨gb323, 4, none⟩) (Kd.R_far (p := ⟨gb323, 3, none⟩) (Kd.R_far (p := ⟨gb323, 2, none⟩) (Kd.R_far (p := ⟨gb323, 1, none⟩) (Kd.R_far (p := ⟨gb323, 0, none⟩) (Kd.R_types HL309_0.out BK323.out (by decide)) (fun _ hk => hk.2) (.string t311)) (fun _ hk => hk.2) (.string t312)) (fun _ hk => hk.2) (.string t313)) (fun _ hk => hk.2) (.int .u8 t314)) (fun _ hk => hk.2) (.int .i64 t315)) (fun _ hk => hk.2) (.int .i64 t316)) (fun _ hk => hk.2) (.int .i64 t317)) (fun _ hk => hk.2) (.int .i64 t318)) (fun _ hk => hk.2) (.slice Ao36 t319.length co36)) (fun _ hk => hk.1.2)))⟩; have n3_ : Aside0 (Kd.V (Kd.int .u8) 5 w37 w.heap.size (fun k_ => some k_ ≠ (.slice (some ad308) t300.length co9 : Value).ownBlock ∧ k_ ≠ gb323) (.slice Ao36 t319.length co36) t319) := ⟨(by rw [hw]; exact (by (with_reducible repeat (first | apply Va_ | apply VN_ | apply V1_)); exact Kd.V_mono (Kd.V_far (p := ⟨gb323, 8, none⟩) (Kd.V_far (p := ⟨gb323, 7, none⟩) (Kd.V_far (p := ⟨gb323, 6, none⟩) (Kd.V_far (p := ⟨gb323, 5, none⟩) (Kd.V_far (p := ⟨gb323, 4, none⟩) (Kd.V_far (p := ⟨gb323, 3, none⟩) (Kd.V_far (p := ⟨gb323, 2, none⟩) (Kd.V_far (p := ⟨gb323, 1, none⟩) (Kd.V_far (p := ⟨gb323, 0, none⟩) (Kd.V_mono HO321.out (fun k_ hk => (⟨hk, hk.2⟩ : _ ∧ k_ ≠ gb323))) (fun _ hk => hk.2) (.string t311)) (fun _ hk => hk.2) (.string t312)) (fun _ hk => hk.2) (.string t313)) (fun _ hk => hk.2) (.int .u8 t314)) (fun _ hk => hk.2) (.int .i64 t315)) (fun _ hk => hk.2) (.int .i64 t316)) (fun _ hk => hk.2) (.int .i64 t317)) (fun _ hk => hk.2) (.int .i64 t318)) (fun _ hk => hk.2) (.slice Ao36 t319.length co36)) (fun _ hk => ⟨hk.1.1, hk.1.2⟩)))⟩; have n4_ : Aside0 (w37.heap[gb323]? = some (.cells #[.string t311, .string t312, .string t313, .int .u8 t314, .int .i64 t315, .int .i64 t316, .int .i64 t317, .int .i64 t318, .slice Ao36 t319.length co36] 40 (0, 0))) := ⟨(by rw [hw]; exact (by (with_reducible repeat (first | refine blk_drewN ?_ _ | refine blk_drew ?_ | refine blk_alloc ?_ _)); refine blk_put (cs := #[.string t311, .string t312, .string t313, .int .u8 t314, .int .i64 t315, .int .i64 t316, .int .i64 t317, .int .i64 t318, .slice none 0 0]) ?_ 8 _ rfl; (with_reducible repeat (first | refine blk_drewN ?_ _ | refine blk_drew ?_ | refine blk_alloc ?_ _)); refine blk_put (cs := #[.string t311, .string t312, .string t313, .int .u8 t314, .int .i64 t315, .int .i64 t316, .int .i64 t317, .int .i64 0, .slice none 0 0]) ?_ 7 _ rfl; (with_reducible repeat (first | refine blk_drewN ?_ _ | refine blk_drew ?_ | refine blk_alloc ?_ _)); refine blk_put (cs := #[.string t311, .string t312, .string t313, .int .u8 t314, .int .i64 t315, .int .i64 t316, .int .i64 0, .int .i64 0, .slice none 0 0]) ?_ 6 _ rfl; (with_reducible repeat (first | refine blk_drewN ?_ _ | refine blk_drew ?_ | refine blk_alloc ?_ _)); refine blk_put (cs := #[.string t311, .string t312, .string t313, .int .u8 t314, .int .i64 t315, .int .i64 0, .int .i64 0, .int .i64 0, .slice none 0 0]) ?_ 5 _ rfl; (with_reducible repeat (first | refine blk_drewN ?_ _ | refine blk_drew ?_ | refine blk_alloc ?_ _)); refine blk_put (cs := #[.string t311, .string t312, .string t313, .int .u8 t314, .int .i64 0, .int .i64 0, .int .i64 0, .int .i64 0, .slice none 0 0]) ?_ 4 _ rfl; (with_reducible repeat (first | refine blk_drewN ?_ _ | refine blk_drew ?_ | refine blk_alloc ?_ _)); refine blk_put (cs := #[.string t311, .string t312, .string t313, .int .u8 0, .int .i64 0, .int .i64 0, .int .i64 0, .int .i64 0, .slice none 0 0]) ?_ 3 _ rfl; (with_reducible repeat (first | refine blk_drewN ?_ _ | refine blk_drew ?_ | refine blk_alloc ?_ _)); refine blk_put (cs := #[.string t311, .string t312, .string (⟨#[]⟩ : ByteArray), .int .u8 0, .int .i64 0, .int .i64 0, .int .i64 0, .int .i64 0, .slice none 0 0]) ?_ 2 _ rfl; (with_reducible repeat (first | refine blk_drewN ?_ _ | refine blk_drew ?_ | refine blk_alloc ?_ _)); refine blk_put (cs := #[.string t311, .string (⟨#[]⟩ : ByteArray), .string (⟨#[]⟩ : ByteArray), .int .u8 0, .int .i64 0, .int .i64 0, .int .i64 0, .int .i64 0, .slice none 0 0]) ?_ 1 _ rfl; (with_reducible repeat (first | refine blk_drewN ?_ _ | refine blk_drew ?_ | refine blk_alloc ?_ _)); refine blk_put (cs := #[.string (⟨#[]⟩ : ByteArray), .string (⟨#[]⟩ : ByteArray), .string (⟨#[]⟩ : ByteArray), .int .u8 0, .int .i64 0, .int .i64 0, .int .i64 0, .int .i64 0, .slice none 0 0]) ?_ 0 _ rfl; (with_reducible repeat (first | refine blk_drewN ?_ _ | refine blk_drew ?_ | refine blk_alloc ?_ _)); exact BK323.out))⟩; have n5_ : Aside0 (Below w.heap.size w w37) := ⟨(by rw [hw]; exact (wb1_ HB.out GE323.out))⟩; clear hw; clear HO_3; clear HL308_0; clear HL309_0; clear HO321; clear BK323; clear HB; have HO_3 := n0_; have HL308_0 := n1_; have HL309_0 := n2_; have HO321 := n3_; have BK323 := n4_; have HB := n5_; clear n0_ n1_ n2_ n3_ n4_ n5_; have hcz38_0 : w37.cell? ⟨gb323, 0, none⟩ = some (.string t311) := (bc_ BK323.out 0).trans rfl; have hcz38_1 : w37.cell? ⟨gb323, 1, none⟩ = some (.string t312) := (bc_ BK323.out 1).trans rfl; have hcz38_2 : w37.cell? ⟨gb323, 2, none⟩ = some (.string t313) := (bc_ BK323.out 2).trans rfl; have hcz38_3 : w37.cell? ⟨gb323, 3, none⟩ = some (.int .u8 t314) := (bc_ BK323.out 3).trans rfl; have hcz38_4 : w37.cell? ⟨gb323, 4, none⟩ = some (.int .i64 t315) := (bc_ BK323.out 4).trans rfl; have hcz38_5 : w37.cell? ⟨gb323, 5, none⟩ = some (.int .i64 t316) := (bc_ BK323.out 5).trans rfl; have hcz38_6 : w37.cell? ⟨gb323, 6, none⟩ = some (.int .i64 t317) := (bc_ BK323.out 6).trans rfl; have hcz38_7 : w37.cell? ⟨gb323, 7, none⟩ = some (.int .i64 t318) := (bc_ BK323.out 7).trans rfl; have hcz38_8 : w37.cell? ⟨gb323, 8, none⟩ = some (.slice Ao36 t319.length co36) := (bc_ BK323.out 8).trans rfl; have hfz38_0 := bf_ BK323.out 0; have hfz38_1 := bf_ BK323.out 1; have hfz38_2 := bf_ BK323.out 2; have hfz38_3 := bf_ BK323.out 3; have hfz38_4 := bf_ BK323.out 4; have hfz38_5 := bf_ BK323.out 5; have hfz38_6 := bf_ BK323.out 6; have hfz38_7 := bf_ BK323.out 7; have hfz38_8 := bf_ BK323.out 8; have p324 : 0 ≤ (x5_1 : Int) := wd_; have q324 : x5_1 < (t300.length : Int) := wd_; obtain ⟨ad324, A324_0, c324_0, e324, hx324_0, hl324_0, hi324_0⟩ := at_L8 (Kd.S_reads' HO_3.out).2.2 x5_1 p324 q324; obtain rfl : ad308 = ad324 := (by injection e324); obtain ⟨ce324, hce324, hMe324, hcc324⟩ := Kd.S_get HO_3.out [] x5_1 p324 (by first | exact q324 | exact wd_ | (have e_ := (Kd.S_reads' HO_3.out).1; omega)); obtain ⟨ve324_0, rfl, ge324_0⟩ := hMe324; have hv324_0 := hcc324 0 _ rfl; rw [Nat.add_zero, show ((Kd.slice 9 Kd.string)).sz = 1 from rfl, Nat.mul_one] at hv324_0; replace hv324_0 := Option.some.inj (hv324_0.symm.trans hx324_0); rw [hv324_0] at ge324_0; have HL324_0 := A0_ (show Kd.R Kd.string 9 _ _ _ _ (rd_L8 t300 x5_1) from ge324_0); clear hv324_0 ge324_0; clear hcc324 hce324; have HR324_0 := A0_ hi324_0; have HC324_0 := A0_ hl324_0; clear hi324_0 hl324_0; replace p324 := eq_true p324; replace q324 := eq_true q324; have p325 : 0 ≤ (0 : Int) := (by omega); have q325 : 0 < ((rd_L8 t300 x5_1).length : Int) := wd_; obtain ⟨ad325, e325, hx325_0⟩ := Kd.at_string (by repeat (first | (with_reducible exact HR324_0.out) | (with_reducible refine Ca_ ?_ _) | (with_reducible refine CN_ ?_ _) | (with_reducible refine C1_ ?_) | exact HR324_0.out)) 0 p325 q325; cases e325; have qi325 : (0 < (rd_L8 t300 x5_1).length) = True := eq_true (by omega); (try rw [show ((0 : Int)).toNat = 0 from rfl] at hx325_0); (try rw [Addr.add_zero'] at hx325_0); replace p325 := eq_true p325; replace q325 := eq_true q325; have p326 : 0 ≤ (x5_1 : Int) := wd_; have q326 : x5_1 < (t300.length : Int) := wd_; obtain ⟨ad326, A326_0, c326_0, e326, hx326_0, hl326_0, hi326_0⟩ := at_L8 (Kd.S_reads' HO_3.out).2.2 x5_1 p326 q326; obtain rfl : ad308 = ad326 := (by injection e326); obtain ⟨ce326, hce326, hMe326, hcc326⟩ := Kd.S_get HO_3.out [] x5_1 p326 (by first | exact q326 | exact wd_ | (have e_ := (Kd.S_reads' HO_3.out).1; omega)); obtain ⟨ve326_0, rfl, ge326_0⟩ := hMe326; have hv326_0 := hcc326 0 _ rfl; rw [Nat.add_zero, show ((Kd.slice 9 Kd.string)).sz = 1 from rfl, Nat.mul_one] at hv326_0; replace hv326_0 := Option.some.inj (hv326_0.symm.trans hx326_0); rw [hv326_0] at ge326_0; have HL326_0 := A0_ (show Kd.R Kd.string 9 _ _ _ _ (rd_L8 t300 x5_1) from ge326_0); clear hv326_0 ge326_0; clear hcc326 hce326; have HR326_0 := A0_ hi326_0; have HC326_0 := A0_ hl326_0; clear hi326_0 hl326_0; replace p326 := eq_true p326; replace q326 := eq_true q326; have ea_ := Option.some.inj (hx324_0.symm.trans hx326_0); injection ea_ with ea_ en_ ec_; subst ea_; subst ec_; clear en_; have p327 : 0 ≤ ((ji29) : Int) := wd_; have q327 : (ji29) < ((rd_L8 t300 x5_1).length : Int) := wd_; obtain ⟨ad327, e327, hx327_0⟩ := Kd.at_string (by repeat (first | (with_reducible exact HR326_0.out) | (with_reducible refine Ca_ ?_ _) | (with_reducible refine CN_ ?_ _) | (with_reducible refine C1_ ?_) | exact HR326_0.out)) (ji29) p327 q327; cases e327; replace p327 := eq_true p327; replace q327 := eq_true q327; have p328 : 0 ≤ (x5_1 : Int) := wd_; have q328 : x5_1 < (t300.length : Int) := wd_; obtain ⟨ad328, A328_0, c328_0, e328, hx328_0, hl328_0, hi328_0⟩ := at_L8 (Kd.S_reads' HO_3.out).2.2 x5_1 p328 q328; obtain rfl : ad308 = ad328 := (by injection e328); obtain ⟨ce328, hce328, hMe328, hcc328⟩ := Kd.S_get HO_3.out [] x5_1 p328 (by first | exact q328 | exact wd_ | (have e_ := (Kd.S_reads' HO_3.out).1; omega)); obtain ⟨ve328_0, rfl, ge328_0⟩ := hMe328; have hv328_0 := hcc328 0 _ rfl; rw [Nat.add_zero, show ((Kd.slice 9 Kd.string)).sz = 1 from rfl, Nat.mul_one] at hv328_0; replace hv328_0 := Option.some.inj (hv328_0.symm.trans hx328_0); rw [hv328_0] at ge328_0; have HL328_0 := A0_ (show Kd.R Kd.string 9 _ _ _ _ (rd_L8 t300 x5_1) from ge328_0); clear hv328_0 ge328_0; clear hcc328 hce328; have HR328_0 := A0_ hi328_0; have HC328_0 := A0_ hl328_0; clear hi328_0 hl328_0; replace p328 := eq_true p328; replace q328 := eq_true q328; have ea_ := Option.some.inj (hx324_0.symm.trans hx328_0); injection ea_ with ea_ en_ ec_; subst ea_; subst ec_; clear en_; have p329 : 0 ≤ (x6_3 : Int) := wd_; have q329 : x6_3 < ((rd_L8 t300 x5_1).length : Int) := wd_; obtain ⟨ad329, e329, hx329_0⟩ := Kd.at_string (by repeat (first | (with_reducible exact HR328_0.out) | (with_reducible refine Ca_ ?_ _) | (with_reducible refine CN_ ?_ _) | (with_reducible refine C1_ ?_) | exact HR328_0.out)) x6_3 p329 q329; cases e329; replace p329 := eq_true p329; replace q329 := eq_true q329)))
       go_roundg k3
       case measure => have := HK1.out; have := HJ7.out; have := HK3.out; omega
       case rel => exact ⟨(wrap64 (x4_3 + 1)), (wrap64 (x6_3 + 1)), wr_, wr_, H', ⟨by have := HK1.out; have := HJ7.out; have := HK3.out; omega⟩, ⟨wS_ HO_3.out⟩, ⟨wb1_ HB.out GE323.out⟩⟩
end Go.Proofs.YtfljbidecljlcaaDoor.Print

namespace Go.Proofs.YtfljbidecljlcaaDoor
open Go.RowKit Go.Proofs.YtfljbidecljlcaaDoor.Print Go.Proofs.YtfljbidecljlcaaDoorW.PrintWords
set_option linter.unusedVariables false
theorem answers11c : bindlelaw11_answers.f = some true := by kernel_rfl
theorem rdL_nat (c : List (List ByteArray)) (j : Nat) (h : j < c.length) : rd_L8 c (j : Int) = c[j] := by
 unfold rd_L8
 rw [List.getD_eq_getElem?_getD, Int.toNat_natCast, List.getElem?_eq_getElem h]
 rfl
theorem w_pred {n : Nat} (h : 0 < n) (h2 : n ≤ 4611686018427387904) : wrap64 ((n : Int) - 1) = ((n - 1 : Nat) : Int) := by unfold wrap64; omega
def filesN (l : List Node) : Nat := (l.filter (fun x => decide (x.f3 = 48))).length
theorem filesN_le (l : List Node) : filesN l ≤ l.length := List.length_filter_le _ _
theorem cls_l2 (l : List Node) (hlen : l.length ≤ 1000000000000) : ∀ (d i : Nat), i + d = l.length → Ev (fun k => bindlelaw11_LinksClasses.l2 k l ((filesN (l.drop i) : Nat) : Int) (i : Int)) true := by
 intro d
 induction d with
 | zero =>
  intro i hi
  refine Ev.step (f := fun _ => some true) (fun k => ?_) (Ev.now _)
  rw [bindlelaw11_LinksClasses.l2, if_neg (by omega), answers11c, Option.bind_some, if_pos rfl, List.drop_of_length_le (by omega)]
  rfl
 | succ d ih =>
  intro i hi
  have hil : i < l.length := by omega
  have hle : filesN (l.drop i) ≤ l.length := by have := filesN_le (l.drop i); rw [List.length_drop] at this; omega
  have hdr := List.drop_eq_getElem_cons hil
  by_cases h48 : l[i].f3 = 48
  ·have hc : filesN (l.drop i) = filesN (l.drop (i + 1)) + 1 := by
    rw [hdr]; unfold filesN; rw [List.filter_cons, decide_eq_true h48]; rfl
   refine Ev.step (fun k => ?_) (ih (i + 1) (by omega))
   rw [bindlelaw11_LinksClasses.l2, if_pos (by omega), if_pos (by omega), rdN_nat l i hil, if_pos h48, w_pred (by omega) (by omega), w_succ (by omega), hc, Nat.add_sub_cancel]
  ·have hc : filesN (l.drop i) = filesN (l.drop (i + 1)) := by
    rw [hdr]; unfold filesN; rw [List.filter_cons, decide_eq_false h48]; rfl
   refine Ev.step (fun k => ?_) (ih (i + 1) (by omega))
   rw [bindlelaw11_LinksClasses.l2, if_pos (by omega), if_pos (by omega), rdN_nat l i hil, if_neg h48, w_succ (by omega), hc]
theorem cls_l1 (l : List Node) (c : List (List ByteArray)) (hlen : l.length ≤ 1000000000000) (i : Nat) (hi : i < c.length) (hil : i ≤ 1000000000000) (n : Nat) (hn : n + c[i].length ≤ 1000000000000)
  (hf : ∀ (j : Nat) (hj : j < c[i].length), ∃ x, findF l c[i][j] = some x ∧ x.f3 = 48 ∧ x.f2 = c[i][0]'(by omega)) (hr : c[i].Pairwise (fun a b => lt a b = true))
  (hnext : Ev (fun k => bindlelaw11_LinksClasses.l0 k l c ((n + c[i].length : Nat) : Int) ((i + 1 : Nat) : Int)) true) :
  ∀ (d j : Nat), j + d = c[i].length → Ev (fun k => bindlelaw11_LinksClasses.l1 k l c ((n + j : Nat) : Int) (i : Int) (j : Int)) true := by
 intro d
 induction d with
 | zero =>
  intro j hj
  obtain rfl : j = c[i].length := by omega
  refine Ev.step (fun k => ?_) hnext
  rw [bindlelaw11_LinksClasses.l1, if_pos (by omega), if_pos (by omega), rdL_nat c i hi, if_neg (by omega), w_succ (by omega)]
 | succ d ih =>
  intro j hj
  have hjl : j < c[i].length := by omega
  obtain ⟨x, h1, h2, h3⟩ := hf j hjl
  have hfi := rfind_eq l c[i][j] hlen
  rw [h1] at hfi
  have hnx := ih (j + 1) (by omega)
  have hj' : Ev (fun k => (bindleref08_Find.f k l c[i][j]).bind fun bt311 => (if bt311.2.2.2.2.2.2.2.2.2 = true then (if bt311.2.2.2.1 = 48 then (if bt311.2.2.1.toList = (c[i][0]'(by omega)).toList then (bindlelaw11_LinksClasses.l1 k l c ((n + (j + 1) : Nat) : Int) (i : Int) ((j + 1 : Nat) : Int)) else (some false)) else (some false)) else (some false))) true := by
   refine Ev.bind hfi ?_
   dsimp only [tupN]
   exact Ev.congr (fun k => by rw [if_pos rfl, if_pos h2, if_pos (by rw [h3])]) hnx
  refine Ev.step (fun k => ?_) hj'
  rw [bindlelaw11_LinksClasses.l1, if_pos (by omega), if_pos (by omega), rdL_nat c i hi, if_pos (by omega), if_pos (by omega), rdS_nat c[i] j hjl]
  congr 1
  funext bt
  by_cases b1 : bt.2.2.2.2.2.2.2.2.2 = true
  ·rw [if_pos b1, if_pos b1]
   by_cases b2 : bt.2.2.2.1 = 48
   ·rw [if_pos b2, if_pos b2, if_pos (by omega), show rdOf ByteArray.empty c[i] 0 = c[i][0]'(by omega) from rdS_nat c[i] 0 (by omega)]
    by_cases b3 : bt.2.2.1.toList = (c[i][0]'(by omega)).toList
    ·rw [if_pos b3, if_pos b3]
     by_cases hj0 : (j : Int) > 0
     ·have hlt : lt (c[i][j - 1]'(by omega)) c[i][j] = true := by
       rw [List.pairwise_iff_getElem] at hr
       exact hr (j - 1) j (by omega) hjl (by omega)
      rw [if_pos hj0, w_pred (by omega) (by omega), if_pos (by omega), if_pos (by omega), rdS_nat c[i] (j - 1) (by omega)]
      unfold lt at hlt
      rw [if_pos hlt, w_succ (by omega), w_succ (by omega)]
      rfl
     ·rw [if_neg hj0, w_succ (by omega), w_succ (by omega)]
      rfl
    ·rw [if_neg b3, if_neg b3]
   ·rw [if_neg b2, if_neg b2]
  ·rw [if_neg b1, if_neg b1]
theorem take_sum (c : List (List ByteArray)) (i : Nat) (hi : i < c.length) : ((c.take (i + 1)).map List.length).sum = ((c.take i).map List.length).sum + c[i].length := by
 rw [List.take_add_one, List.getElem?_eq_getElem hi, List.map_append, List.sum_append]
 simp
theorem take_le (c : List (List ByteArray)) (i : Nat) : ((c.take i).map List.length).sum ≤ (c.map List.length).sum := by
 have h := List.take_append_drop i c
 have h2 : (c.map List.length).sum = ((c.take i).map List.length).sum + ((c.drop i).map List.length).sum := by
  rw [← List.sum_append, ← List.map_append, h]
 omega
theorem len_le_sum (c : List (List ByteArray)) (h : ∀ a ∈ c, 0 < a.length) : c.length ≤ (c.map List.length).sum := by
 induction c with
 | nil => exact Nat.le_refl _
 | cons a c ih =>
  have h1 := h a List.mem_cons_self
  have h2 := ih (fun b hb => h b (List.mem_cons_of_mem _ hb))
  simp only [List.length_cons, List.map_cons, List.sum_cons]
  omega
theorem cls_l0 (l : List Node) (c : List (List ByteArray)) (hlen : l.length ≤ 1000000000000) (hsum : (c.map List.length).sum = filesN l) (hpos : ∀ (i : Nat) (hi : i < c.length), 0 < c[i].length)
  (hf : ∀ (i : Nat) (hi : i < c.length) (j : Nat) (hj : j < c[i].length), ∃ x, findF l c[i][j] = some x ∧ x.f3 = 48 ∧ x.f2 = c[i][0]'(by omega)) (hr : ∀ (i : Nat) (hi : i < c.length), c[i].Pairwise (fun a b => lt a b = true))
  (hh : ∀ (i : Nat) (hi : i + 1 < c.length), lt (c[i][0]'(hpos i (by omega))) (c[i + 1][0]'(hpos (i + 1) hi)) = true) :
  ∀ (d i : Nat), i + d = c.length → Ev (fun k => bindlelaw11_LinksClasses.l0 k l c ((((c.take i).map List.length).sum : Nat) : Int) (i : Int)) true := by
 have hcl : c.length ≤ l.length := by
  have h1 := len_le_sum c (fun a ha => by obtain ⟨i, hi, rfl⟩ := List.getElem_of_mem ha; exact hpos i hi)
  have h2 := filesN_le l
  omega
 intro d
 induction d with
 | zero =>
  intro i hi
  have h2 := cls_l2 l hlen l.length 0 (by omega)
  refine Ev.step (fun k => ?_) h2
  rw [bindlelaw11_LinksClasses.l0, if_neg (by omega), List.take_of_length_le (by omega), hsum]
  rfl
 | succ d ih =>
  intro i hi
  have hil : i < c.length := by omega
  have hp := hpos i hil
  have hle := take_le c (i + 1)
  have hfl := filesN_le l
  rw [take_sum c i hil] at hle
  have hnx := ih (i + 1) (by omega)
  rw [take_sum c i hil] at hnx
  have h1 := cls_l1 l c hlen i hil (by omega) (((c.take i).map List.length).sum) (by omega) (fun j hj => hf i hil j hj) (hr i hil) hnx c[i].length 0 (by omega)
  have hj1 : Ev (fun k => bindlelaw11_LinksClasses.j1 k l c ((((c.take i).map List.length).sum : Nat) : Int) (i : Int) false) true := Ev.step (fun k => by rw [bindlelaw11_LinksClasses.j1, if_neg (by decide)]; rfl) h1
  refine Ev.step (fun k => ?_) hj1
  rw [bindlelaw11_LinksClasses.l0, if_pos (by omega), if_pos (by omega), rdL_nat c i hil, if_neg (by omega)]
  by_cases hi0 : (i : Int) > 0
  ·have hlt := hh (i - 1) (by omega)
   have he : i - 1 + 1 = i := by omega
   simp only [he] at hlt
   have hp1 := hpos (i - 1) (by omega)
   rw [if_pos hi0, w_pred (by omega) (by omega), if_pos (by omega), if_pos (by omega), rdL_nat c (i - 1) (by omega), if_pos (by omega), if_pos (by omega), show rdOf ByteArray.empty c[i - 1] 0 = c[i - 1][0] from rdS_nat c[i - 1] 0 hp1, show rdOf ByteArray.empty c[i] 0 = c[i][0] from rdS_nat c[i] 0 hp]
   unfold lt at hlt
   rw [hlt]
   rfl
  ·rw [if_neg hi0]
theorem LinksClasses_true (l : List Node) (hz : ∀ x ∈ l, NodeZ x) (hlen : l.length ≤ 140737488351232) : Ev (fun k => bindlelaw11_LinksClasses.f k l) true := by
 obtain ⟨b, h1, h2⟩ := light11 l hz hlen
 unfold bindlelaw11_LinksClasses.f
 refine Ev.bind h1 ?_
 cases b with
 | false => exact Ev.congr (fun k => by rw [if_neg (by decide), answers11c]; rfl) (Ev.now _)
 | true =>
  obtain ⟨h60, hg⟩ := h2 rfl
  have hI := classes_inv hg
  have hr := (good_parts hg).1
  have hcf : links_Classes.f l = some (classesF l) := by unfold links_Classes.f; rw [if_pos (nodesZ_small hz (by omega))]
  have hhead : ∀ (i : Nat) (hi : i < (classesF l).length), ∃ (r : ByteArray) (c : List ByteArray), (classesF l)[i] = r :: c := fun i hi => by
   obtain ⟨r, c, h, _⟩ := hI.has i hi
   exact ⟨r, c, h⟩
  have hpos : ∀ (i : Nat) (hi : i < (classesF l).length), 0 < (classesF l)[i].length := fun i hi => by
   obtain ⟨r, c, h⟩ := hhead i hi
   rw [h]
   exact Nat.succ_pos _
  refine Ev.congr (fun k => by rw [if_pos rfl, hcf, Option.bind_some]) ?_
  have h0 := cls_l0 l (classesF l) (by omega) hI.count hpos ?_ (fun i hi => hI.rise _ (List.getElem_mem hi)) ?_ (classesF l).length 0 (by omega)
  ·exact h0
  ·intro i hi j hj
   obtain ⟨x, hx, e1, e2, e3⟩ := hI.files _ (List.getElem_mem hi) _ (List.getElem_mem hj)
   refine ⟨x, by rw [← e1]; exact findF_here hr hx, e2, ?_⟩
   have hh : (classesF l)[i].head? = some x.f2 := e3
   rw [List.head?_eq_getElem?, List.getElem?_eq_getElem (hpos i hi)] at hh
   exact (Option.some.inj hh).symm
  ·intro i hi
   have hh := hI.heads
   rw [List.pairwise_iff_getElem] at hh
   have hd : ∀ (k : Nat) (hk : k < (classesF l).length), ((classesF l)[k]'hk).head? = some ((classesF l)[k][0]'(hpos k hk)) := fun k hk => by rw [List.head?_eq_getElem?, List.getElem?_eq_getElem (hpos k hk)]
   exact hh i (i + 1) (by show i < (classesF l).length; omega) hi (by omega) _ (hd i (by omega)) _ (hd (i + 1) hi)
end Go.Proofs.YtfljbidecljlcaaDoor

namespace Go.Proofs.YtfljbidecljlcaaDoor
open Go.RowKit Go.Lib Go.Proofs.YtfljbidecljlcaaDoorW.PrintWords
theorem laidOut : laidOutB Tryd.prog = true := by kernel_rfl
end Go.Proofs.YtfljbidecljlcaaDoor

namespace Go.Proofs.YtfljbidecljlcaaDoor
open Go.ChangeShapes Go.WideShapes Go.RowKit Go.Proofs.YtfljbidecljlcaaDoorW.PrintWords
structure Opens {α : Type} (P : Program) (d : Kd α) (t : TypeId) (B : α → Prop) : Prop where
 sz : P.cellsOf t = d.sz
 get : ∀ {H : Type} {enc : TypeId × Value → H} {W : World} {fuel : Nat} {cs : List Value} {x : DataW H × List MemPlace},
  DataW.trod enc P W 0 (fun _ => true) true fuel t cs = some x → (∀ n ∈ x.1.weights P t, n ≤ reachBytes) → ∃ a, d.K W a cs ∧ B a
theorem Opens.int {P : Program} {t : TypeId} {k : IntKind} (ht : P.underlying t = some (.int k)) (hc : P.cellsOf t = 1) : Opens P (Kd.int k) t (fun n => (Lit.int k n).wf = true) :=
 ⟨hc, fun h _ => by
  obtain ⟨n, rfl, rfl, hw⟩ := DataW.trod_int ht h
  exact ⟨n, rfl, hw⟩⟩
theorem Opens.bool {P : Program} {t : TypeId} (ht : P.underlying t = some .bool) (hc : P.cellsOf t = 1) : Opens P Kd.bool t (fun _ => True) :=
 ⟨hc, fun h _ => by
  obtain ⟨n, rfl, rfl⟩ := DataW.trod_bool ht h
  exact ⟨n, rfl, trivial⟩⟩
theorem Opens.string {P : Program} {t : TypeId} (ht : P.underlying t = some .string) (hc : P.cellsOf t = 1) : Opens P Kd.string t (fun s => s.size ≤ 140737488351232) :=
 ⟨hc, fun h hw => by
  obtain ⟨s, rfl, rfl, _⟩ := DataW.trod_string ht h
  refine ⟨s, rfl, ?_⟩
  have := hw s.data.toList.length (by simp [DataW.weights])
  have e : s.data.toList.length = s.size := by simp
  rw [e] at this
  exact this⟩
theorem each_list {α : Type} {Q : Nat → α → Prop} : ∀ n : Nat, (∀ i, i < n → ∃ x, Q i x) → ∃ xs : List α, xs.length = n ∧ ∀ i x, xs[i]? = some x → Q i x := by
 intro n
 induction n with
 | zero => exact fun _ => ⟨[], rfl, fun i x h => by simp at h⟩
 | succ n ih =>
  intro h
  obtain ⟨xs, hl, hx⟩ := ih (fun i hi => h i (by omega))
  obtain ⟨y, hy⟩ := h n (by omega)
  refine ⟨xs ++ [y], by simp [hl], fun i x hi => ?_⟩
  rcases Nat.lt_or_ge i n with h1 | h1
  ·rw [List.getElem?_append_left (by omega)] at hi
   exact hx i x hi
  ·rw [List.getElem?_append_right (by omega)] at hi
   have h0 : i - xs.length = 0 := by
    have := (List.getElem?_eq_some_iff.1 hi).1
    simp at this
    omega
   rw [h0] at hi
   simp at hi
   subst hi
   obtain rfl : i = n := by omega
   exact hy
theorem weights_all {H : Type} {P : Program} {e : TypeId} : ∀ {l : List (DataW H)} {y : DataW H}, y ∈ l → ∀ n ∈ y.weights P e, n ∈ DataW.weightsAll P e l
 | z :: r, y, hy, n, hn => by
  simp only [DataW.weightsAll, List.mem_append]
  rcases List.mem_cons.1 hy with rfl | hy
  ·exact .inl hn
  ·exact .inr (weights_all hy n hn)
theorem add_add (a : Addr) (x y : Nat) : (a.add x).add y = a.add (x + y) := by
 unfold Addr.add
 split
 ·rename_i h
  subst h
  simp
 ·rename_i h
  split
  ·rename_i h2
   subst h2
   simp [h]
  ·rw [if_neg (by omega)]
   simp [Nat.add_assoc]
theorem Opens.slice {α : Type} {P : Program} {d : Kd α} {B : α → Prop} {t e : TypeId} (ht : P.underlying t = some (.slice e)) (hc : P.cellsOf t = 1) (h : Opens P d e B) :
  Opens P (Kd.slice e d) t (fun xs => xs.length * P.bytesOf e ≤ 140737488351232 ∧ ∀ x ∈ xs, B x) :=
 ⟨hc, fun {H enc W fuel cs x} hf hw => by
  rcases DataW.trod_slice ht hf with ⟨rfl, rfl⟩ | ⟨a, len, cap, elems, rest, n, _, rfl, rfl, hb, hl, hm, hlen, hel, hsp, hns⟩
  ·exact ⟨[], ⟨none, 0, rfl, Nat.le_refl _, Kd.C_nil d W⟩, by simp, fun x hx => by cases hx⟩
  ·simp only [DataW.weights, ht] at hw
   have each : ∀ i, i < len → ∃ z : α, B z ∧ ∃ c, c.length = d.sz ∧ d.K W z c ∧ ∀ j u, c[j]? = some u → W.cell? (a.add (i * d.sz + j)) = some u := by
    intro i hi
    have h1 := hel i hi
    have hi' : i < elems.length := by omega
    rw [List.getElem?_eq_getElem hi', Option.bind_eq_some_iff] at h1
    obtain ⟨c, hcs, hy⟩ := h1
    obtain ⟨-, h2, h3⟩ := World.cells?_some hcs
    obtain ⟨z, hz, hB⟩ := h.get hy (fun n hn => hw n (by
     simp only [List.mem_cons, List.mem_append]
     exact .inr (.inl (weights_all (List.mem_map.2 ⟨_, List.getElem_mem hi', rfl⟩) n hn))))
    refine ⟨z, hB, c, by rw [h2, h.sz], hz, fun j u hj => ?_⟩
    have hj' : j < P.cellsOf e := by
     have := (List.getElem?_eq_some_iff.1 hj).1
     omega
    have h4 := h3 j hj'
    rw [add_add, h.sz] at h4
    rw [h4, hj]
   obtain ⟨xs, hxl, hxs⟩ := each_list len each
   subst hxl
   have hz := hw _ (List.mem_cons_self ..)
   simp only [List.length_map] at hz
   have h5 : xs.length * P.bytesOf e ≤ (elems.length + rest.length) * P.bytesOf e := Nat.mul_le_mul_right _ (by omega)
   have h6 : reachBytes = 140737488351232 := rfl
   refine ⟨xs, ⟨some a, cap, rfl, hl, rfl, ?_, fun _ => ⟨a, rfl, fun j p hj => (hxs j p hj).2⟩⟩, by omega, fun x hx => ?_⟩
   ·have : maxLen = 9223372036854775807 := rfl
    omega
   ·obtain ⟨i, hi⟩ := List.getElem?_of_mem hx
    exact (hxs i x hi).1⟩
structure OpensF {α : Type} (P : Program) (d : Kd α) (fs : List Field) (o : Nat) (B : α → Prop) : Prop where
 get : ∀ {H : Type} {enc : TypeId × Value → H} {W : World} {n : Nat} {cs : List Value} {xs : List (DataW H × List MemPlace)}, xs.length = fs.length →
  (∀ (i : Nat) (f : Field), fs[i]? = some f → DataW.trod enc P W 0 (fun _ => true) true n f.type ((cs.drop f.offset).take (P.cellsOf f.type)) = xs[i]?) →
  (∀ m ∈ DataW.weightsEach P (fs.map (·.type)) (xs.map (·.1)), m ≤ reachBytes) → ∃ a, d.K W a ((cs.drop o).take d.sz) ∧ B a
theorem OpensF.one {α : Type} {P : Program} {d : Kd α} {B : α → Prop} {f : Field} {o : Nat} (ho : f.offset = o) (h : Opens P d f.type B) : OpensF P d [f] o B := by
 refine ⟨fun {H enc W n cs xs} hl hx hw => ?_⟩
 match xs, hl with
 | [x], _ =>
  have h0 := hx 0 f rfl
  rw [h.sz, ho] at h0
  simp only [List.getElem?_cons_zero] at h0
  exact h.get h0 (fun m hm => hw m (by simp only [List.map_cons, List.map_nil, DataW.weightsEach, List.mem_append]; exact .inl hm))
theorem OpensF.cons {α β : Type} {P : Program} {d : Kd α} {d' : Kd β} {B : α → Prop} {B' : β → Prop} {f : Field} {fs : List Field} {o : Nat} (ho : f.offset = o) (h : Opens P d f.type B) (h' : OpensF P d' fs (o + d.sz) B') :
  OpensF P (Kd.pair d d') (f :: fs) o (fun x => B x.1 ∧ B' x.2) := by
 refine ⟨fun {H enc W n cs xs} hl hx hw => ?_⟩
 match xs, hl with
 | x :: xs, hl =>
  have h0 := hx 0 f rfl
  rw [h.sz, ho] at h0
  simp only [List.getElem?_cons_zero] at h0
  obtain ⟨a, ha, hB⟩ := h.get h0 (fun m hm => hw m (by simp only [List.map_cons, DataW.weightsEach, List.mem_append]; exact .inl hm))
  obtain ⟨b, hb, hB'⟩ := h'.get (enc := enc) (W := W) (n := n) (cs := cs) (xs := xs) (by simpa using hl) (fun i g hg => by have := hx (i + 1) g (by simpa using hg); simpa using this)
   (fun m hm => hw m (by simp only [List.map_cons, DataW.weightsEach, List.mem_append]; exact .inr hm))
  refine ⟨(a, b), ⟨_, _, ?_, ha, hb⟩, hB, hB'⟩
  show (cs.drop o).take (d.sz + d'.sz) = _
  rw [List.take_add, List.drop_drop]
theorem Opens.struct {α β : Type} {P : Program} {d : Kd α} {B : α → Prop} {t : TypeId} {fs : Array Field} (ht : P.underlying t = some (.struct fs)) (hc : P.cellsOf t = d.sz) (h : OpensF P d fs.toList 0 B) (f : β → α) (g : α → β) (hg : ∀ a, f (g a) = a) :
  Opens P (Kd.iso d f) t (fun x => B (f x)) :=
 ⟨hc, fun {H enc W fuel cs x} hf hw => by
  obtain ⟨xs, n, _, rfl, hl, hlen, hx⟩ := DataW.trod_struct ht hf
  simp only [DataW.weights, ht] at hw
  obtain ⟨a, ha, hB⟩ := h.get (enc := enc) (W := W) (n := n) (cs := cs) (xs := xs) (by simpa using hlen) (fun i g hg => hx i g (by simpa using hg)) hw
  refine ⟨g a, ?_, by rw [hg]; exact hB⟩
  show d.K W (f (g a)) cs
  rw [hg]
  rw [List.drop_zero, List.take_of_length_le (by omega)] at ha
  exact ha⟩
theorem Opens.imp {α : Type} {P : Program} {d : Kd α} {t : TypeId} {B B' : α → Prop} (h : Opens P d t B) (hB : ∀ a, B a → B' a) : Opens P d t B' :=
 ⟨h.sz, fun hf hw => by obtain ⟨a, ha, hb⟩ := h.get hf hw; exact ⟨a, ha, hB a hb⟩⟩
theorem Opens.param {α : Type} {P : Program} {d : Kd α} {t : TypeId} {B : α → Prop} (h : Opens P d t B) {H : Type} {enc : TypeId × Value → H} {W : World} {v : Value} {x : DataW H} {p : List MemPlace} {ts : List TypeId} {ds : List (DataW H)} {j : Nat}
  (hsz : (DataW.weightsEach P ts ds).all (· ≤ reachBytes) = true) (hj : ts[j]? = some t) (hd : ds[j]? = some x) (ht : DataW.Trod enc P W 0 (fun _ => true) true t v x p) : ∃ a, d.K W a v.cells.toList ∧ B a := by
 obtain ⟨fuel, hf⟩ := ht
 exact h.get hf (fun n hn => by simpa using List.all_eq_true.1 hsz _ (DataW.weights_mem_each hj hd n hn))
theorem Opens.row {α : Type} {P : Program} {d : Kd α} {t e : TypeId} {B : List α → Prop} (h : Opens P (Kd.slice e d) t B) {H : Type} {enc : TypeId × Value → H} {W : World} {A : Option Addr} {n c : Nat} {x : DataW H} {p : List MemPlace} {ts : List TypeId} {ds : List (DataW H)} {j : Nat}
  (hsz : (DataW.weightsEach P ts ds).all (· ≤ reachBytes) = true) (hj : ts[j]? = some t) (hd : ds[j]? = some x) (ht : DataW.Trod enc P W 0 (fun _ => true) true t (.slice A n c) x p) :
  ∃ xs : List α, xs.length = n ∧ d.C W A n xs ∧ n ≤ c ∧ B xs := by
 obtain ⟨xs, ⟨A', c', he, hl, hC⟩, hB⟩ := h.param hsz hj hd ht
 simp [Value.cells] at he
 obtain ⟨rfl, rfl, rfl⟩ := he
 exact ⟨xs, rfl, hC, hl, hB⟩
end Go.Proofs.YtfljbidecljlcaaDoor

namespace Go.Proofs.YtfljbidecljlcaaDoor
open Go.RowKit Go.Proofs.YtfljbidecljlcaaDoor.Print Go.Proofs.YtfljbidecljlcaaDoorW.PrintWords
theorem o_str : Opens Tryd.prog Kd.string 9 (fun s => s.size ≤ 140737488351232) := Opens.string Tryd.underlying9 (by kernel_rfl)
theorem o_u8 : Opens Tryd.prog (Kd.int .u8) 5 (fun n => (Lit.int .u8 n).wf = true) := Opens.int Tryd.underlying5 (by kernel_rfl)
theorem o_int : Opens Tryd.prog (Kd.int .i64) 3 (fun n => (Lit.int .i64 n).wf = true) := Opens.int Tryd.underlying3 (by kernel_rfl)
theorem o_bytes : Opens Tryd.prog (Kd.slice 5 (Kd.int .u8)) 23 (fun xs => xs.length ≤ 140737488351232) :=
 (Opens.slice Tryd.underlying23 (by kernel_rfl) o_u8).imp (fun xs h => by
  have hb : Tryd.prog.bytesOf 5 = 1 := by kernel_rfl
  have h1 := h.1
  rw [hb] at h1
  omega)
theorem o_meta : Opens Tryd.prog k38 38 (fun _ => True) := by
 have h := Opens.struct Tryd.underlying38 (by kernel_rfl) (OpensF.cons rfl o_int (OpensF.cons rfl o_int (OpensF.cons rfl o_int (OpensF.one rfl o_int)))) (fun x : S38 => (x.f0, x.f1, x.f2, x.f3)) (fun p => ⟨p.1, p.2.1, p.2.2.1, p.2.2.2⟩) (fun _ => rfl)
 exact Opens.imp h (fun _ _ => trivial)
theorem o_node : Opens Tryd.prog k40 40 NodeZ := by
 have h := Opens.struct Tryd.underlying40 (by kernel_rfl) (OpensF.cons rfl o_str (OpensF.cons rfl o_str (OpensF.cons rfl o_str (OpensF.cons rfl o_u8 (OpensF.cons rfl o_meta (OpensF.one rfl o_bytes)))))) (fun x : S40 => (x.f0, x.f1, x.f2, x.f3, x.f4, x.f5)) (fun p => ⟨p.1, p.2.1, p.2.2.1, p.2.2.2.1, p.2.2.2.2.1, p.2.2.2.2.2⟩) (fun _ => rfl)
 exact Opens.imp h (fun _ hx => ⟨hx.1, hx.2.1, hx.2.2.1, hx.2.2.2.2.2⟩)
theorem o_nodes : Opens Tryd.prog (Kd.slice 40 k40) 22 (fun xs => (∀ x ∈ xs, NodeZ x) ∧ xs.length ≤ 140737488351232) :=
 (Opens.slice Tryd.underlying22 (by kernel_rfl) o_node).imp (fun xs h => ⟨h.2, by
  have hb : Tryd.prog.bytesOf 40 = 112 := by kernel_rfl
  have h1 := h.1
  rw [hb] at h1
  omega⟩)
end Go.Proofs.YtfljbidecljlcaaDoor
