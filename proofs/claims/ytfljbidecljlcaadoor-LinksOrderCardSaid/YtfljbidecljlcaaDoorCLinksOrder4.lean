/-
  Part of the proof that LinksOrder answers true: texts put together (wip/bundle.py).
-/
import Derived.Test.YtfljbidecljlcaaDoorCLinksOrder3
import Derived.SizedLaws
import Derived.ChangeSlices
import Derived.OpenShut
namespace Go.Proofs.YtfljbidecljlcaaDoor.Print
open Go.RowKit Go.Proofs.YtfljbidecljlcaaDoorW.PrintWords Go.Proofs.YtfljbidecljlcaaDoorW.PrintLast Go.Proofs.YtfljbidecljlcaaDoorW.PrintMore
attribute [local go_sem] max2_int min2_int max_two min_two max_three min_three max_four min_four   -- for this text's walks alone
set_option linter.unusedVariables false
set_option linter.unusedSimpArgs false
mutual
def bindlelaw11_LinksOrder.j0 : Nat → List (S40) → List ByteArray → Bool → Option (Bool)
 | 0, _, _, _ => none
 | k + 1, x0, x1, x19 => if x19 = true then ((bindlelaw11_answers.f).bind fun t263 => (some t263)) else (bindlelaw11_LinksOrder.l0 k x0 x1 ((x1.length : Int) == (x0.length : Int)) 0)
def bindlelaw11_LinksOrder.l0 : Nat → List (S40) → List ByteArray → Bool → Int → Option (Bool)
 | 0, _, _, _, _ => none
 | k + 1, x0, x1, x5, x6 => if x6 < (x1.length : Int) then (if 0 ≤ x6 then ((bindleref08_Find.f k x0 (rdOf ByteArray.empty x1 x6)).bind fun bt276 => (if x5 = true then (bindlelaw11_LinksOrder.j2 k x0 x1 bt276.2.2.2.2.2.2.2.2.2 x6) else (bindlelaw11_LinksOrder.j2 k x0 x1 false x6))) else (none)) else ((some (([] : List ByteArray) : List ByteArray)).bind fun y264 => (if y264.length + x1.length < 8796093022208 then ((links_Members.f x0 (y264 ++ x1)).bind fun bt270 => ((bindlelaw11_answers.f).bind fun t274 => (if t274 = true then (if ((bt270.2 == 0) == x5) = true then (if x5 = true then (some true) else (if bt270.2 = 1 then (some ((bt270.1.length : Int) == 0)) else (some false))) else (some false)) else (some false)))) else (none)))
def bindlelaw11_LinksOrder.j2 : Nat → List (S40) → List ByteArray → Bool → Int → Option (Bool)
 | 0, _, _, _, _ => none
 | k + 1, x0, x1, x5, x6 => bindlelaw11_LinksOrder.l1 k x0 x1 x5 x6 0
def bindlelaw11_LinksOrder.l1 : Nat → List (S40) → List ByteArray → Bool → Int → Int → Option (Bool)
 | 0, _, _, _, _, _ => none
 | k + 1, x0, x1, x5, x6, x9 => if x9 < x6 then (if x5 = true then (if 0 ≤ x9 then (if x9 < (x1.length : Int) then (if 0 ≤ x6 then (if x6 < (x1.length : Int) then (bindlelaw11_LinksOrder.l1 k x0 x1 ((rdOf ByteArray.empty x1 x9).toList != (rdOf ByteArray.empty x1 x6).toList) x6 (wrap64 (x9 + 1))) else (none)) else (none)) else (none)) else (none)) else (bindlelaw11_LinksOrder.l1 k x0 x1 false x6 (wrap64 (x9 + 1)))) else (bindlelaw11_LinksOrder.l0 k x0 x1 x5 (wrap64 (x6 + 1)))
end
def bindlelaw11_LinksOrder.f (k : Nat) (l0 : List (S40)) (l1 : List ByteArray) : Option (Bool) := (bindlelaw11_light.f k l0).bind fun t262 => (if t262 = true then (bindlelaw11_LinksOrder.j0 k l0 l1 (decide ((l1.length : Int) > 100))) else (bindlelaw11_LinksOrder.j0 k l0 l1 true))
set_option maxHeartbeats 8000000 in
set_option maxRecDepth 100000 in
theorem bindlelaw11_LinksOrder.calls (k : Nat) (A0 : Option Addr) (c0 : Nat) (l0 : List (S40)) (A1 : Option Addr) (c1 : Nat) (l1 : List ByteArray) (r : Bool) (w : World) (hT : Aside0 (Tabs w)) (hr0 : Kd.C k40 w A0 l0.length l0) (hc0 : l0.length ≤ c0) (hr1 : Kd.C Kd.string w A1 l1.length l1) (hc1 : l1.length ≤ c1) (h : bindlelaw11_LinksOrder.f k l0 l1 = some r) :
  Calls Tryd.prog 4 #[.slice A0 l0.length c0, .slice A1 l1.length c1] w fun e w' => e = .returned (.bool r) ∧ Below w.heap.size w w' := by
 have hu40 := Tryd.underlying40
 have HR0 := A0_ hr0
 have HC0 := A0_ hc0
 clear hr0 hc0
 have HR1 := A0_ hr1
 have HC1 := A0_ hc1
 clear hr1 hc1
 have HB := A0_ (Below.refl w.heap.size w)
 have H : ((bindlelaw11_light.f k l0).bind fun t262 => (if t262 = true then (bindlelaw11_LinksOrder.j0 k l0 l1 (decide ((l1.length : Int) > 100))) else (bindlelaw11_LinksOrder.j0 k l0 l1 true))) = some r := h
 clear h
 have HC3 := A0_ H
 clear H
 go_enter Tryd.func4, Tryd.ntmps4
 go_upto_region 1 with (fail)
 repeat (go_quiet (fail); go_upto_region 1 with (fail))
 go_cut [19] (fun v19 wc => ∃ (kq : Nat) (x19_2 : Bool), v19 = .bool x19_2 ∧ Aside0 (bindlelaw11_LinksOrder.j0 kq l0 l1 x19_2 = some r) ∧ Aside0 (kq ≤ k) ∧ Aside0 (Below w.heap.size w wc))
 case first =>
  have H := HC3.out
  clear HC3
  replace H := Option.bind_eq_some_iff.mp H
  obtain ⟨t262, A40, H⟩ := H
  replace H : (if t262 = true then (bindlelaw11_LinksOrder.j0 k l0 l1 (decide ((l1.length : Int) > 100))) else (bindlelaw11_LinksOrder.j0 k l0 l1 true)) = some r := H
  have A4 := A0_ A40
  clear A40
  by_cases c5 : t262 = true
  ·subst c5
   have H1 : (bindlelaw11_LinksOrder.j0 k l0 l1 (decide ((l1.length : Int) > 100))) = some r := by rw [if_pos rfl] at H; exact H
   clear H
   have H := H1
   clear H1
   have H' := A0_ H
   clear H
   go_wp2_with (first | (go_at_call 14; (with_reducible refine (bindlelaw11_light.calls k _ _ l0 true _ ?side1 ?side2 A4.out).mono ?_); (case side1 => exact wc_ (Kd.C_below HR0.out HB.out)); (case side2 => exact HC0.out); rintro e w6 ⟨rfl, hb⟩; have n0_ := A0_ (below_step (wb_ HB.out) hb); clear HB; have HB := n0_; clear n0_; (try clear hb); (try clear hb2); (try clear hk); (try clear hi)))
   repeat (go_quiet (first | (go_at_call 14; (with_reducible refine (bindlelaw11_light.calls k _ _ l0 true _ ?side1 ?side2 A4.out).mono ?_); (case side1 => exact wc_ (Kd.C_below HR0.out HB.out)); (case side2 => exact HC0.out); rintro e w6 ⟨rfl, hb⟩; have n0_ := A0_ (below_step (wb_ HB.out) hb); clear HB; have HB := n0_; clear n0_; (try clear hb); (try clear hb2); (try clear hk); (try clear hi))); try go_wp2_with (first | (go_at_call 14; (with_reducible refine (bindlelaw11_light.calls k _ _ l0 true _ ?side1 ?side2 A4.out).mono ?_); (case side1 => exact wc_ (Kd.C_below HR0.out HB.out)); (case side2 => exact HC0.out); rintro e w6 ⟨rfl, hb⟩; have n0_ := A0_ (below_step (wb_ HB.out) hb); clear HB; have HB := n0_; clear n0_; (try clear hb); (try clear hb2); (try clear hk); (try clear hi))))
   go_meet
   case rel => exact ⟨_, (decide ((l1.length : Int) > 100)), wr_, H', ⟨by first | omega | exact Nat.le_refl _⟩, ⟨wb_ HB.out⟩⟩
  replace c5 := Bool.eq_false_iff.mpr c5
  subst c5
  have H1 : (bindlelaw11_LinksOrder.j0 k l0 l1 true) = some r := by rw [if_neg (show ¬ (false = true) by decide)] at H; exact H
  clear H
  have H := H1
  clear H1
  have H' := A0_ H
  clear H
  go_wp2_with (first | (go_at_call 14; (with_reducible refine (bindlelaw11_light.calls k _ _ l0 false _ ?side1 ?side2 A4.out).mono ?_); (case side1 => exact wc_ (Kd.C_below HR0.out HB.out)); (case side2 => exact HC0.out); rintro e w7 ⟨rfl, hb⟩; have n0_ := A0_ (below_step (wb_ HB.out) hb); clear HB; have HB := n0_; clear n0_; (try clear hb); (try clear hb2); (try clear hk); (try clear hi)))
  repeat (go_quiet (first | (go_at_call 14; (with_reducible refine (bindlelaw11_light.calls k _ _ l0 false _ ?side1 ?side2 A4.out).mono ?_); (case side1 => exact wc_ (Kd.C_below HR0.out HB.out)); (case side2 => exact HC0.out); rintro e w7 ⟨rfl, hb⟩; have n0_ := A0_ (below_step (wb_ HB.out) hb); clear HB; have HB := n0_; clear n0_; (try clear hb); (try clear hb2); (try clear hk); (try clear hi))); try go_wp2_with (first | (go_at_call 14; (with_reducible refine (bindlelaw11_light.calls k _ _ l0 false _ ?side1 ?side2 A4.out).mono ?_); (case side1 => exact wc_ (Kd.C_below HR0.out HB.out)); (case side2 => exact HC0.out); rintro e w7 ⟨rfl, hb⟩; have n0_ := A0_ (below_step (wb_ HB.out) hb); clear HB; have HB := n0_; clear n0_; (try clear hb); (try clear hb2); (try clear hk); (try clear hi))))
  go_meet
  case rel => exact ⟨_, (true), wr_, H', ⟨by first | omega | exact Nat.le_refl _⟩, ⟨wb_ HB.out⟩⟩
 case rest =>
  clear HC3
  try clear c1
  try clear p2
  try clear c4
  try clear c5
  obtain ⟨kq, x19_2, rfl, HA, HJ2, HB⟩ := hcut
  cases kq with
  | zero => exact absurd HA.out (by simp [bindlelaw11_LinksOrder.j0])
  | succ kj2 =>
   have H := HA.out
   clear HA
   simp only [bindlelaw11_LinksOrder.j0] at H
   by_cases c8 : x19_2 = true
   ·subst c8
    have H1 : ((bindlelaw11_answers.f).bind fun t263 => (some t263)) = some r := by rw [if_pos rfl] at H; exact H
    clear H
    have H := H1
    clear H1
    replace H := Option.bind_eq_some_iff.mp H
    obtain ⟨t263, A90, H⟩ := H
    replace H : (some t263) = some r := H
    have A9 := A0_ A90
    clear A90
    obtain rfl := Option.some.inj H
    go_wp2_with (first | (go_at_call 15; (with_reducible refine (bindlelaw11_answers.calls  t263 _ ?side1 A9.out).mono ?_); (case side1 => exact A0_ (Tabs.below hT.out (wb_ HB.out))); rintro e w10 ⟨rfl, hb⟩; have n0_ := A0_ (below_step (wb_ HB.out) hb); clear HB; have HB := n0_; clear n0_; (try clear hb); (try clear hb2); (try clear hk); (try clear hi)))
    repeat (go_quiet (first | (go_at_call 15; (with_reducible refine (bindlelaw11_answers.calls  t263 _ ?side1 A9.out).mono ?_); (case side1 => exact A0_ (Tabs.below hT.out (wb_ HB.out))); rintro e w10 ⟨rfl, hb⟩; have n0_ := A0_ (below_step (wb_ HB.out) hb); clear HB; have HB := n0_; clear n0_; (try clear hb); (try clear hb2); (try clear hk); (try clear hi))); try go_wp2_with (first | (go_at_call 15; (with_reducible refine (bindlelaw11_answers.calls  t263 _ ?side1 A9.out).mono ?_); (case side1 => exact A0_ (Tabs.below hT.out (wb_ HB.out))); rintro e w10 ⟨rfl, hb⟩; have n0_ := A0_ (below_step (wb_ HB.out) hb); clear HB; have HB := n0_; clear n0_; (try clear hb); (try clear hb2); (try clear hk); (try clear hi))))
    go_ret
    exact ⟨we_, wb_ HB.out⟩
   replace c8 := Bool.eq_false_iff.mpr c8
   subst c8
   have H1 : (bindlelaw11_LinksOrder.l0 kj2 l0 l1 ((l1.length : Int) == (l0.length : Int)) 0) = some r := by rw [if_neg (show ¬ (false = true) by decide)] at H; exact H
   clear H
   have H := H1
   clear H1
   have H' := A0_ H
   clear H
   go_wp2
   repeat (go_quiet (fail); try go_wp2)
   go_loopg [5, 6] kj2 (fun kq v5 v6 w' => ∃ (x5_2 : Bool) (x6_2 : Int), v5 = .bool x5_2 ∧ v6 = .int .i64 x6_2 ∧ Aside0 (bindlelaw11_LinksOrder.l0 kq l0 l1 x5_2 x6_2 = some r) ∧ Aside0 (kq ≤ kj2) ∧ Aside0 (Below w.heap.size w w'))
   case atStart => exact ⟨(((l1.length : Int) == (l0.length : Int))), (0), wr_, wr_, H', ⟨Nat.le_refl _⟩, ⟨wb_ HB.out⟩⟩
   case round =>
    clear H'
    try clear c1
    try clear p2
    try clear c4
    try clear c5
    try clear c8
    try clear p2
    obtain ⟨x5_2, x6_2, rfl, rfl, HA, HK2, HB⟩ := hrel
    cases gk with
    | zero => exact absurd HA.out (by simp [bindlelaw11_LinksOrder.l0])
    | succ k2 =>
     have H := HA.out
     clear HA
     simp only [bindlelaw11_LinksOrder.l0] at H
     by_cases c11 : x6_2 < (l1.length : Int)
     ·rw [if_pos c11] at H
      have c11b0 : decide (x6_2 < (l1.length : Int)) = true := decide_eq_true c11
      clear c11
      by_cases c12 : 0 ≤ x6_2
      rotate_left
      ·rw [if_neg c12] at H
       exact absurd H (by simp)
      rw [if_pos c12] at H
      have c12b0 : decide (0 ≤ x6_2) = true := decide_eq_true c12
      clear c12
      replace H := Option.bind_eq_some_iff.mp H
      obtain ⟨⟨t276, t277, t278, t279, t280, t281, t282, t283, t284, t287⟩, A130, H⟩ := H
      replace H : (if x5_2 = true then (bindlelaw11_LinksOrder.j2 k2 l0 l1 t287 x6_2) else (bindlelaw11_LinksOrder.j2 k2 l0 l1 false x6_2)) = some r := H
      have A13 := A0_ A130
      clear A130
      have HC14 := A0_ H
      clear H
      have p275 : 0 ≤ (x6_2 : Int) := wd_
      have q275 : x6_2 < (l1.length : Int) := wd_
      obtain ⟨ad275, e275, hx275_0⟩ := Kd.at_string HR1.out x6_2 p275 q275
      cases e275
      replace hx275_0 := (HB.out.cell (World.block_lt_of_cell? w _ hx275_0)).trans hx275_0
      replace p275 := eq_true p275
      replace q275 := eq_true q275
      go_upto_region 8 with (first | (go_at_call 23; (with_reducible refine (bindleref08_Find.calls k2 (fun k_ => k_ < w.heap.size) _ _ l0 (rdOf ByteArray.empty l1 x6_2) t276 t277 t278 t279 t280 t281 t282 t283 t284 t287 _ ?side1 A13.out).mono ?_); (case side1 => exact Kd.V_mk HC0.out (Kd.F_below (Kd.C_F k40_heap HR0.out) (wb_ HB.out))); rintro e w15 ⟨v285, rfl, ho0, hb⟩; have n0_ := A0_ (Kd.V_lower (Kd.V_mono (ok' := fun k_ => True) ho0 (fun k_ hk_ => trivial)) (below_size (wb_ HB.out))); have n1_ := A0_ (below_step (wb_ HB.out) hb); clear HB; have HO286 := n0_; have HB := n1_; clear n0_ n1_; (try clear hb); (try clear hb2); (try clear hk); (try clear hi); (try clear ho0)) | ((with_reducible refine gate_dst (N := 7) rfl ?_); (try (refine gate_guard (by rfl) ?_; dsimp only)); refine box_event ?hg (N := 7) ?hd (cs := #[.string (⟨#[]⟩ : ByteArray), .string (⟨#[]⟩ : ByteArray), .string (⟨#[]⟩ : ByteArray), .int .u8 0, .int .i64 0, .int .i64 0, .int .i64 0, .int .i64 0, .slice none 0 0]) (t := 40) ?hr ?_; (case hd => rfl); (case hg => rfl); (case hr => first | (go_simp; done) | (go_simp; rfl)); intro gb288 hg w16 hbox hb; have n0_ := A0_ (Vb_ (Kd.V_elderB (wV_ HO286.out) gb288 (Nat.le_of_eq hg.symm)) hb); have n1_ := A0_ (below_step (wb_ HB.out) hb); have n2_ := A0_ (hbox); have n3_ := A0_ ((by rw [hg]; exact (below_size (wb_ HB.out)) : w.heap.size ≤ gb288)); have n4_ := A0_ ((by rw [hg]; exact (below_size (wb_ HB.out)) : w.heap.size ≤ gb288)); clear HO286; clear HB; have HO286 := n0_; have HB := n1_; have BK288 := n2_; have GW288 := n3_; have GE288 := n4_; clear n0_ n1_ n2_ n3_ n4_; clear hb hbox hg; have hcz17_0 : w16.cell? ⟨gb288, 0, none⟩ = some (.string (⟨#[]⟩ : ByteArray)) := (bc_ BK288.out 0).trans rfl; have hcz17_1 : w16.cell? ⟨gb288, 1, none⟩ = some (.string (⟨#[]⟩ : ByteArray)) := (bc_ BK288.out 1).trans rfl; have hcz17_2 : w16.cell? ⟨gb288, 2, none⟩ = some (.string (⟨#[]⟩ : ByteArray)) := (bc_ BK288.out 2).trans rfl; have hcz17_3 : w16.cell? ⟨gb288, 3, none⟩ = some (.int .u8 0) := (bc_ BK288.out 3).trans rfl; have hcz17_4 : w16.cell? ⟨gb288, 4, none⟩ = some (.int .i64 0) := (bc_ BK288.out 4).trans rfl; have hcz17_5 : w16.cell? ⟨gb288, 5, none⟩ = some (.int .i64 0) := (bc_ BK288.out 5).trans rfl; have hcz17_6 : w16.cell? ⟨gb288, 6, none⟩ = some (.int .i64 0) := (bc_ BK288.out 6).trans rfl; have hcz17_7 : w16.cell? ⟨gb288, 7, none⟩ = some (.int .i64 0) := (bc_ BK288.out 7).trans rfl; have hcz17_8 : w16.cell? ⟨gb288, 8, none⟩ = some (.slice none 0 0) := (bc_ BK288.out 8).trans rfl; have hfz17_0 := bf_ BK288.out 0; have hfz17_1 := bf_ BK288.out 1; have hfz17_2 := bf_ BK288.out 2; have hfz17_3 := bf_ BK288.out 3; have hfz17_4 := bf_ BK288.out 4; have hfz17_5 := bf_ BK288.out 5; have hfz17_6 := bf_ BK288.out 6; have hfz17_7 := bf_ BK288.out 7; have hfz17_8 := bf_ BK288.out 8; obtain ⟨Ao18, co18, eo18⟩ := Kd.V_slice HO286.out; subst eo18))
      repeat (go_quiet (first | (go_at_call 23; (with_reducible refine (bindleref08_Find.calls k2 (fun k_ => k_ < w.heap.size) _ _ l0 (rdOf ByteArray.empty l1 x6_2) t276 t277 t278 t279 t280 t281 t282 t283 t284 t287 _ ?side1 A13.out).mono ?_); (case side1 => exact Kd.V_mk HC0.out (Kd.F_below (Kd.C_F k40_heap HR0.out) (wb_ HB.out))); rintro e w15 ⟨v285, rfl, ho0, hb⟩; have n0_ := A0_ (Kd.V_lower (Kd.V_mono (ok' := fun k_ => True) ho0 (fun k_ hk_ => trivial)) (below_size (wb_ HB.out))); have n1_ := A0_ (below_step (wb_ HB.out) hb); clear HB; have HO286 := n0_; have HB := n1_; clear n0_ n1_; (try clear hb); (try clear hb2); (try clear hk); (try clear hi); (try clear ho0)) | ((with_reducible refine gate_dst (N := 7) rfl ?_); (try (refine gate_guard (by rfl) ?_; dsimp only)); refine box_event ?hg (N := 7) ?hd (cs := #[.string (⟨#[]⟩ : ByteArray), .string (⟨#[]⟩ : ByteArray), .string (⟨#[]⟩ : ByteArray), .int .u8 0, .int .i64 0, .int .i64 0, .int .i64 0, .int .i64 0, .slice none 0 0]) (t := 40) ?hr ?_; (case hd => rfl); (case hg => rfl); (case hr => first | (go_simp; done) | (go_simp; rfl)); intro gb288 hg w16 hbox hb; have n0_ := A0_ (Vb_ (Kd.V_elderB (wV_ HO286.out) gb288 (Nat.le_of_eq hg.symm)) hb); have n1_ := A0_ (below_step (wb_ HB.out) hb); have n2_ := A0_ (hbox); have n3_ := A0_ ((by rw [hg]; exact (below_size (wb_ HB.out)) : w.heap.size ≤ gb288)); have n4_ := A0_ ((by rw [hg]; exact (below_size (wb_ HB.out)) : w.heap.size ≤ gb288)); clear HO286; clear HB; have HO286 := n0_; have HB := n1_; have BK288 := n2_; have GW288 := n3_; have GE288 := n4_; clear n0_ n1_ n2_ n3_ n4_; clear hb hbox hg; have hcz17_0 : w16.cell? ⟨gb288, 0, none⟩ = some (.string (⟨#[]⟩ : ByteArray)) := (bc_ BK288.out 0).trans rfl; have hcz17_1 : w16.cell? ⟨gb288, 1, none⟩ = some (.string (⟨#[]⟩ : ByteArray)) := (bc_ BK288.out 1).trans rfl; have hcz17_2 : w16.cell? ⟨gb288, 2, none⟩ = some (.string (⟨#[]⟩ : ByteArray)) := (bc_ BK288.out 2).trans rfl; have hcz17_3 : w16.cell? ⟨gb288, 3, none⟩ = some (.int .u8 0) := (bc_ BK288.out 3).trans rfl; have hcz17_4 : w16.cell? ⟨gb288, 4, none⟩ = some (.int .i64 0) := (bc_ BK288.out 4).trans rfl; have hcz17_5 : w16.cell? ⟨gb288, 5, none⟩ = some (.int .i64 0) := (bc_ BK288.out 5).trans rfl; have hcz17_6 : w16.cell? ⟨gb288, 6, none⟩ = some (.int .i64 0) := (bc_ BK288.out 6).trans rfl; have hcz17_7 : w16.cell? ⟨gb288, 7, none⟩ = some (.int .i64 0) := (bc_ BK288.out 7).trans rfl; have hcz17_8 : w16.cell? ⟨gb288, 8, none⟩ = some (.slice none 0 0) := (bc_ BK288.out 8).trans rfl; have hfz17_0 := bf_ BK288.out 0; have hfz17_1 := bf_ BK288.out 1; have hfz17_2 := bf_ BK288.out 2; have hfz17_3 := bf_ BK288.out 3; have hfz17_4 := bf_ BK288.out 4; have hfz17_5 := bf_ BK288.out 5; have hfz17_6 := bf_ BK288.out 6; have hfz17_7 := bf_ BK288.out 7; have hfz17_8 := bf_ BK288.out 8; obtain ⟨Ao18, co18, eo18⟩ := Kd.V_slice HO286.out; subst eo18)); go_upto_region 8 with (first | (go_at_call 23; (with_reducible refine (bindleref08_Find.calls k2 (fun k_ => k_ < w.heap.size) _ _ l0 (rdOf ByteArray.empty l1 x6_2) t276 t277 t278 t279 t280 t281 t282 t283 t284 t287 _ ?side1 A13.out).mono ?_); (case side1 => exact Kd.V_mk HC0.out (Kd.F_below (Kd.C_F k40_heap HR0.out) (wb_ HB.out))); rintro e w15 ⟨v285, rfl, ho0, hb⟩; have n0_ := A0_ (Kd.V_lower (Kd.V_mono (ok' := fun k_ => True) ho0 (fun k_ hk_ => trivial)) (below_size (wb_ HB.out))); have n1_ := A0_ (below_step (wb_ HB.out) hb); clear HB; have HO286 := n0_; have HB := n1_; clear n0_ n1_; (try clear hb); (try clear hb2); (try clear hk); (try clear hi); (try clear ho0)) | ((with_reducible refine gate_dst (N := 7) rfl ?_); (try (refine gate_guard (by rfl) ?_; dsimp only)); refine box_event ?hg (N := 7) ?hd (cs := #[.string (⟨#[]⟩ : ByteArray), .string (⟨#[]⟩ : ByteArray), .string (⟨#[]⟩ : ByteArray), .int .u8 0, .int .i64 0, .int .i64 0, .int .i64 0, .int .i64 0, .slice none 0 0]) (t := 40) ?hr ?_; (case hd => rfl); (case hg => rfl); (case hr => first | (go_simp; done) | (go_simp; rfl)); intro gb288 hg w16 hbox hb; have n0_ := A0_ (Vb_ (Kd.V_elderB (wV_ HO286.out) gb288 (Nat.le_of_eq hg.symm)) hb); have n1_ := A0_ (below_step (wb_ HB.out) hb); have n2_ := A0_ (hbox); have n3_ := A0_ ((by rw [hg]; exact (below_size (wb_ HB.out)) : w.heap.size ≤ gb288)); have n4_ := A0_ ((by rw [hg]; exact (below_size (wb_ HB.out)) : w.heap.size ≤ gb288)); clear HO286; clear HB; have HO286 := n0_; have HB := n1_; have BK288 := n2_; have GW288 := n3_; have GE288 := n4_; clear n0_ n1_ n2_ n3_ n4_; clear hb hbox hg; have hcz17_0 : w16.cell? ⟨gb288, 0, none⟩ = some (.string (⟨#[]⟩ : ByteArray)) := (bc_ BK288.out 0).trans rfl; have hcz17_1 : w16.cell? ⟨gb288, 1, none⟩ = some (.string (⟨#[]⟩ : ByteArray)) := (bc_ BK288.out 1).trans rfl; have hcz17_2 : w16.cell? ⟨gb288, 2, none⟩ = some (.string (⟨#[]⟩ : ByteArray)) := (bc_ BK288.out 2).trans rfl; have hcz17_3 : w16.cell? ⟨gb288, 3, none⟩ = some (.int .u8 0) := (bc_ BK288.out 3).trans rfl; have hcz17_4 : w16.cell? ⟨gb288, 4, none⟩ = some (.int .i64 0) := (bc_ BK288.out 4).trans rfl; have hcz17_5 : w16.cell? ⟨gb288, 5, none⟩ = some (.int .i64 0) := (bc_ BK288.out 5).trans rfl; have hcz17_6 : w16.cell? ⟨gb288, 6, none⟩ = some (.int .i64 0) := (bc_ BK288.out 6).trans rfl; have hcz17_7 : w16.cell? ⟨gb288, 7, none⟩ = some (.int .i64 0) := (bc_ BK288.out 7).trans rfl; have hcz17_8 : w16.cell? ⟨gb288, 8, none⟩ = some (.slice none 0 0) := (bc_ BK288.out 8).trans rfl; have hfz17_0 := bf_ BK288.out 0; have hfz17_1 := bf_ BK288.out 1; have hfz17_2 := bf_ BK288.out 2; have hfz17_3 := bf_ BK288.out 3; have hfz17_4 := bf_ BK288.out 4; have hfz17_5 := bf_ BK288.out 5; have hfz17_6 := bf_ BK288.out 6; have hfz17_7 := bf_ BK288.out 7; have hfz17_8 := bf_ BK288.out 8; obtain ⟨Ao18, co18, eo18⟩ := Kd.V_slice HO286.out; subst eo18)))
      (try simp only [Act.put, List.setIfInBounds_toArray, List.set_cons_zero, List.set_cons_succ])
      go_cut [5] (fun v5 wc => ∃ (kq : Nat) (x5_13 : Bool), v5 = .bool x5_13 ∧ Aside0 (bindlelaw11_LinksOrder.j2 kq l0 l1 x5_13 x6_2 = some r) ∧ Aside0 (kq ≤ k2) ∧ Aside0 (Kd.V (Kd.int .u8) 5 wc w.heap.size (fun k_ => k_ ≠ gb288) (.slice Ao18 t284.length co18) t284) ∧ Aside0 (wc.heap[gb288]? = some (.cells #[.string t276, .string t277, .string t278, .int .u8 t279, .int .i64 t280, .int .i64 t281, .int .i64 t282, .int .i64 t283, (.slice Ao18 t284.length co18)] 40 (0, 0))) ∧ Aside0 (Below w.heap.size w wc))
      case first =>
       have H := HC14.out
       clear HC14
       by_cases c19 : x5_2 = true
       ·subst c19
        have H1 : (bindlelaw11_LinksOrder.j2 k2 l0 l1 t287 x6_2) = some r := by rw [if_pos rfl] at H; exact H
        clear H
        have H := H1
        clear H1
        have H' := A0_ H
        clear H
        go_wp2
        repeat (go_quiet (fail); try go_wp2)
        go_meet
        case rel => exact ⟨_, (t287), wr_, H', ⟨by have := HJ2.out; have := HK2.out; first | omega | exact Nat.le_refl _⟩, ⟨by (with_reducible repeat (first | apply Va_ | apply VN_ | apply V1_)); exact Kd.V_mono (Kd.V_far (p := ⟨gb288, 8, none⟩) (Kd.V_far (p := ⟨gb288, 7, none⟩) (Kd.V_far (p := ⟨gb288, 6, none⟩) (Kd.V_far (p := ⟨gb288, 5, none⟩) (Kd.V_far (p := ⟨gb288, 4, none⟩) (Kd.V_far (p := ⟨gb288, 3, none⟩) (Kd.V_far (p := ⟨gb288, 2, none⟩) (Kd.V_far (p := ⟨gb288, 1, none⟩) (Kd.V_far (p := ⟨gb288, 0, none⟩) (Kd.V_mono HO286.out (fun k_ hk => (⟨hk, hk.2⟩ : _ ∧ k_ ≠ gb288))) (fun _ hk => hk.2) (.string t276)) (fun _ hk => hk.2) (.string t277)) (fun _ hk => hk.2) (.string t278)) (fun _ hk => hk.2) (.int .u8 t279)) (fun _ hk => hk.2) (.int .i64 t280)) (fun _ hk => hk.2) (.int .i64 t281)) (fun _ hk => hk.2) (.int .i64 t282)) (fun _ hk => hk.2) (.int .i64 t283)) (fun _ hk => hk.2) (.slice Ao18 t284.length co18)) (fun _ hk => hk.1.2)⟩, ⟨by (with_reducible repeat (first | refine blk_drewN ?_ _ | refine blk_drew ?_ | refine blk_alloc ?_ _)); refine blk_put (cs := #[.string t276, .string t277, .string t278, .int .u8 t279, .int .i64 t280, .int .i64 t281, .int .i64 t282, .int .i64 t283, .slice none 0 0]) ?_ 8 _ rfl; (with_reducible repeat (first | refine blk_drewN ?_ _ | refine blk_drew ?_ | refine blk_alloc ?_ _)); refine blk_put (cs := #[.string t276, .string t277, .string t278, .int .u8 t279, .int .i64 t280, .int .i64 t281, .int .i64 t282, .int .i64 0, .slice none 0 0]) ?_ 7 _ rfl; (with_reducible repeat (first | refine blk_drewN ?_ _ | refine blk_drew ?_ | refine blk_alloc ?_ _)); refine blk_put (cs := #[.string t276, .string t277, .string t278, .int .u8 t279, .int .i64 t280, .int .i64 t281, .int .i64 0, .int .i64 0, .slice none 0 0]) ?_ 6 _ rfl; (with_reducible repeat (first | refine blk_drewN ?_ _ | refine blk_drew ?_ | refine blk_alloc ?_ _)); refine blk_put (cs := #[.string t276, .string t277, .string t278, .int .u8 t279, .int .i64 t280, .int .i64 0, .int .i64 0, .int .i64 0, .slice none 0 0]) ?_ 5 _ rfl; (with_reducible repeat (first | refine blk_drewN ?_ _ | refine blk_drew ?_ | refine blk_alloc ?_ _)); refine blk_put (cs := #[.string t276, .string t277, .string t278, .int .u8 t279, .int .i64 0, .int .i64 0, .int .i64 0, .int .i64 0, .slice none 0 0]) ?_ 4 _ rfl; (with_reducible repeat (first | refine blk_drewN ?_ _ | refine blk_drew ?_ | refine blk_alloc ?_ _)); refine blk_put (cs := #[.string t276, .string t277, .string t278, .int .u8 0, .int .i64 0, .int .i64 0, .int .i64 0, .int .i64 0, .slice none 0 0]) ?_ 3 _ rfl; (with_reducible repeat (first | refine blk_drewN ?_ _ | refine blk_drew ?_ | refine blk_alloc ?_ _)); refine blk_put (cs := #[.string t276, .string t277, .string (⟨#[]⟩ : ByteArray), .int .u8 0, .int .i64 0, .int .i64 0, .int .i64 0, .int .i64 0, .slice none 0 0]) ?_ 2 _ rfl; (with_reducible repeat (first | refine blk_drewN ?_ _ | refine blk_drew ?_ | refine blk_alloc ?_ _)); refine blk_put (cs := #[.string t276, .string (⟨#[]⟩ : ByteArray), .string (⟨#[]⟩ : ByteArray), .int .u8 0, .int .i64 0, .int .i64 0, .int .i64 0, .int .i64 0, .slice none 0 0]) ?_ 1 _ rfl; (with_reducible repeat (first | refine blk_drewN ?_ _ | refine blk_drew ?_ | refine blk_alloc ?_ _)); refine blk_put (cs := #[.string (⟨#[]⟩ : ByteArray), .string (⟨#[]⟩ : ByteArray), .string (⟨#[]⟩ : ByteArray), .int .u8 0, .int .i64 0, .int .i64 0, .int .i64 0, .int .i64 0, .slice none 0 0]) ?_ 0 _ rfl; (with_reducible repeat (first | refine blk_drewN ?_ _ | refine blk_drew ?_ | refine blk_alloc ?_ _)); exact BK288.out⟩, ⟨wb1_ HB.out GE288.out⟩⟩
       replace c19 := Bool.eq_false_iff.mpr c19
       subst c19
       have H1 : (bindlelaw11_LinksOrder.j2 k2 l0 l1 false x6_2) = some r := by rw [if_neg (show ¬ (false = true) by decide)] at H; exact H
       clear H
       have H := H1
       clear H1
       have H' := A0_ H
       clear H
       go_wp2
       repeat (go_quiet (fail); try go_wp2)
       go_meet
       case rel => exact ⟨_, (false), wr_, H', ⟨by have := HJ2.out; have := HK2.out; first | omega | exact Nat.le_refl _⟩, ⟨by (with_reducible repeat (first | apply Va_ | apply VN_ | apply V1_)); exact Kd.V_mono (Kd.V_far (p := ⟨gb288, 8, none⟩) (Kd.V_far (p := ⟨gb288, 7, none⟩) (Kd.V_far (p := ⟨gb288, 6, none⟩) (Kd.V_far (p := ⟨gb288, 5, none⟩) (Kd.V_far (p := ⟨gb288, 4, none⟩) (Kd.V_far (p := ⟨gb288, 3, none⟩) (Kd.V_far (p := ⟨gb288, 2, none⟩) (Kd.V_far (p := ⟨gb288, 1, none⟩) (Kd.V_far (p := ⟨gb288, 0, none⟩) (Kd.V_mono HO286.out (fun k_ hk => (⟨hk, hk.2⟩ : _ ∧ k_ ≠ gb288))) (fun _ hk => hk.2) (.string t276)) (fun _ hk => hk.2) (.string t277)) (fun _ hk => hk.2) (.string t278)) (fun _ hk => hk.2) (.int .u8 t279)) (fun _ hk => hk.2) (.int .i64 t280)) (fun _ hk => hk.2) (.int .i64 t281)) (fun _ hk => hk.2) (.int .i64 t282)) (fun _ hk => hk.2) (.int .i64 t283)) (fun _ hk => hk.2) (.slice Ao18 t284.length co18)) (fun _ hk => hk.1.2)⟩, ⟨by (with_reducible repeat (first | refine blk_drewN ?_ _ | refine blk_drew ?_ | refine blk_alloc ?_ _)); refine blk_put (cs := #[.string t276, .string t277, .string t278, .int .u8 t279, .int .i64 t280, .int .i64 t281, .int .i64 t282, .int .i64 t283, .slice none 0 0]) ?_ 8 _ rfl; (with_reducible repeat (first | refine blk_drewN ?_ _ | refine blk_drew ?_ | refine blk_alloc ?_ _)); refine blk_put (cs := #[.string t276, .string t277, .string t278, .int .u8 t279, .int .i64 t280, .int .i64 t281, .int .i64 t282, .int .i64 0, .slice none 0 0]) ?_ 7 _ rfl; (with_reducible repeat (first | refine blk_drewN ?_ _ | refine blk_drew ?_ | refine blk_alloc ?_ _)); refine blk_put (cs := #[.string t276, .string t277, .string t278, .int .u8 t279, .int .i64 t280, .int .i64 t281, .int .i64 0, .int .i64 0, .slice none 0 0]) ?_ 6 _ rfl; (with_reducible repeat (first | refine blk_drewN ?_ _ | refine blk_drew ?_ | refine blk_alloc ?_ _)); refine blk_put (cs := #[.string t276, .string t277, .string t278, .int .u8 t279, .int .i64 t280, .int .i64 0, .int .i64 0, .int .i64 0, .slice none 0 0]) ?_ 5 _ rfl; (with_reducible repeat (first | refine blk_drewN ?_ _ | refine blk_drew ?_ | refine blk_alloc ?_ _)); refine blk_put (cs := #[.string t276, .string t277, .string t278, .int .u8 t279, .int .i64 0, .int .i64 0, .int .i64 0, .int .i64 0, .slice none 0 0]) ?_ 4 _ rfl; (with_reducible repeat (first | refine blk_drewN ?_ _ | refine blk_drew ?_ | refine blk_alloc ?_ _)); refine blk_put (cs := #[.string t276, .string t277, .string t278, .int .u8 0, .int .i64 0, .int .i64 0, .int .i64 0, .int .i64 0, .slice none 0 0]) ?_ 3 _ rfl; (with_reducible repeat (first | refine blk_drewN ?_ _ | refine blk_drew ?_ | refine blk_alloc ?_ _)); refine blk_put (cs := #[.string t276, .string t277, .string (⟨#[]⟩ : ByteArray), .int .u8 0, .int .i64 0, .int .i64 0, .int .i64 0, .int .i64 0, .slice none 0 0]) ?_ 2 _ rfl; (with_reducible repeat (first | refine blk_drewN ?_ _ | refine blk_drew ?_ | refine blk_alloc ?_ _)); refine blk_put (cs := #[.string t276, .string (⟨#[]⟩ : ByteArray), .string (⟨#[]⟩ : ByteArray), .int .u8 0, .int .i64 0, .int .i64 0, .int .i64 0, .int .i64 0, .slice none 0 0]) ?_ 1 _ rfl; (with_reducible repeat (first | refine blk_drewN ?_ _ | refine blk_drew ?_ | refine blk_alloc ?_ _)); refine blk_put (cs := #[.string (⟨#[]⟩ : ByteArray), .string (⟨#[]⟩ : ByteArray), .string (⟨#[]⟩ : ByteArray), .int .u8 0, .int .i64 0, .int .i64 0, .int .i64 0, .int .i64 0, .slice none 0 0]) ?_ 0 _ rfl; (with_reducible repeat (first | refine blk_drewN ?_ _ | refine blk_drew ?_ | refine blk_alloc ?_ _)); exact BK288.out⟩, ⟨wb1_ HB.out GE288.out⟩⟩
      case rest =>
       clear HC14
       try clear c1
       try clear p2
       try clear q2
       try clear hx2
       try clear c4
       try clear c5
       try clear c8
       try clear c11
       try clear c11b0
       try clear c12
       try clear c12b0
       try clear c19
       try clear hcz17_0
       try clear hcz17_1
       try clear hcz17_2
       try clear hcz17_3
       try clear hcz17_4
       try clear hcz17_5
       try clear hcz17_6
       try clear hcz17_7
       try clear hcz17_8
       try clear hfz17_0
       try clear hfz17_1
       try clear hfz17_2
       try clear hfz17_3
       try clear hfz17_4
       try clear hfz17_5
       try clear hfz17_6
       try clear hfz17_7
       try clear hfz17_8
       try clear hx275_0
       try clear p2
       try clear p275
       try clear q275
       obtain ⟨kq, x5_13, rfl, HA, HJ13, HO_289008, BK288, HB⟩ := hcut
       cases kq with
       | zero => exact absurd HA.out (by simp [bindlelaw11_LinksOrder.j2])
       | succ kj13 =>
        have H := HA.out
        clear HA
        simp only [bindlelaw11_LinksOrder.j2] at H
        have H' := A0_ H
        clear H
        go_wp2
        repeat (go_quiet (fail); try go_wp2)
        go_loopg [5, 9] kj13 (fun kq v5 v9 w' => ∃ (x5_4 : Bool) (x9_4 : Int), v5 = .bool x5_4 ∧ v9 = .int .i64 x9_4 ∧ Aside0 (bindlelaw11_LinksOrder.l1 kq l0 l1 x5_4 x6_2 x9_4 = some r) ∧ Aside0 (kq ≤ kj13) ∧ Aside0 (Kd.V (Kd.int .u8) 5 w' w.heap.size (fun k_ => k_ ≠ gb288) (.slice Ao18 t284.length co18) t284) ∧ Aside0 (w'.heap[gb288]? = some (.cells #[.string t276, .string t277, .string t278, .int .u8 t279, .int .i64 t280, .int .i64 t281, .int .i64 t282, .int .i64 t283, (.slice Ao18 t284.length co18)] 40 (0, 0))) ∧ Aside0 (Below w.heap.size w w'))
        case atStart => exact ⟨(x5_13), (0), wr_, wr_, H', ⟨Nat.le_refl _⟩, ⟨wV_ HO_289008.out⟩, ⟨wB_ BK288.out⟩, ⟨wb1_ HB.out GE288.out⟩⟩
        case round =>
         clear H'
         try clear c1
         try clear p2
         try clear q2
         try clear hx2
         try clear c4
         try clear c5
         try clear c8
         try clear c11
         try clear c11b0
         try clear c12
         try clear c12b0
         try clear c19
         try clear hcz17_0
         try clear hcz17_1
         try clear hcz17_2
         try clear hcz17_3
         try clear hcz17_4
         try clear hcz17_5
         try clear hcz17_6
         try clear hcz17_7
         try clear hcz17_8
         try clear hfz17_0
         try clear hfz17_1
         try clear hfz17_2
         try clear hfz17_3
         try clear hfz17_4
         try clear hfz17_5
         try clear hfz17_6
         try clear hfz17_7
         try clear hfz17_8
         try clear hx275_0
         try clear p2
         try clear p275
         try clear q2
         try clear q275
         obtain ⟨x5_4, x9_4, rfl, rfl, HA, HK4, HO_289008, BK288, HB⟩ := hrel
         cases gk with
         | zero => exact absurd HA.out (by simp [bindlelaw11_LinksOrder.l1])
         | succ k4 =>
          have H := HA.out
          clear HA
          simp only [bindlelaw11_LinksOrder.l1] at H
          by_cases c20 : x9_4 < x6_2
          rotate_left
          ·rw [if_neg c20] at H
           have c20b0 : decide (x9_4 < x6_2) = false := decide_eq_false c20
           clear c20
           have H' := A0_ H
           clear H
           go_wp2
           repeat (go_quiet (fail); try go_wp2)
           go_roundg k4
           case measure => have := HJ2.out; have := HK2.out; have := HJ13.out; have := HK4.out; omega
           case rel => exact ⟨(x5_4), (wrap64 (x6_2 + 1)), wr_, wr_, H', ⟨by have := HJ2.out; have := HK2.out; have := HJ13.out; have := HK4.out; omega⟩, ⟨wb1_ HB.out GE288.out⟩⟩
          rw [if_pos c20] at H
          have c20b0 : decide (x9_4 < x6_2) = true := decide_eq_true c20
          clear c20
          by_cases c21 : x5_4 = true
          rotate_left
          ·replace c21 := Bool.eq_false_iff.mpr c21
           subst c21
           have H1 : (bindlelaw11_LinksOrder.l1 k4 l0 l1 false x6_2 (wrap64 (x9_4 + 1))) = some r := by rw [if_neg (show ¬ (false = true) by decide)] at H; exact H
           clear H
           have H := H1
           clear H1
           have H' := A0_ H
           clear H
           go_wp2
           repeat (go_quiet (fail); try go_wp2)
           go_roundg k4
           case measure => have := HJ2.out; have := HK2.out; have := HJ13.out; have := HK4.out; omega
           case rel => exact ⟨(false), (wrap64 (x9_4 + 1)), wr_, wr_, H', ⟨by have := HJ2.out; have := HK2.out; have := HJ13.out; have := HK4.out; omega⟩, ⟨wV_ HO_289008.out⟩, ⟨wB_ BK288.out⟩, ⟨wb1_ HB.out GE288.out⟩⟩
          subst c21
          have H1 : (if 0 ≤ x9_4 then (if x9_4 < (l1.length : Int) then (if 0 ≤ x6_2 then (if x6_2 < (l1.length : Int) then (bindlelaw11_LinksOrder.l1 k4 l0 l1 ((rdOf ByteArray.empty l1 x9_4).toList != (rdOf ByteArray.empty l1 x6_2).toList) x6_2 (wrap64 (x9_4 + 1))) else (none)) else (none)) else (none)) else (none)) = some r := by rw [if_pos rfl] at H; exact H
          clear H
          have H := H1
          clear H1
          by_cases c22 : 0 ≤ x9_4
          rotate_left
          ·rw [if_neg c22] at H
           exact absurd H (by simp)
          rw [if_pos c22] at H
          have c22b0 : decide (0 ≤ x9_4) = true := decide_eq_true c22
          clear c22
          by_cases c23 : x9_4 < (l1.length : Int)
          rotate_left
          ·rw [if_neg c23] at H
           exact absurd H (by simp)
          rw [if_pos c23] at H
          have c23b0 : decide (x9_4 < (l1.length : Int)) = true := decide_eq_true c23
          clear c23
          by_cases c24 : 0 ≤ x6_2
          rotate_left
          ·rw [if_neg c24] at H
           exact absurd H (by simp)
          rw [if_pos c24] at H
          have c24b0 : decide (0 ≤ x6_2) = true := decide_eq_true c24
          clear c24
          by_cases c25 : x6_2 < (l1.length : Int)
          rotate_left
          ·rw [if_neg c25] at H
           exact absurd H (by simp)
          rw [if_pos c25] at H
          have c25b0 : decide (x6_2 < (l1.length : Int)) = true := decide_eq_true c25
          clear c25
          have H' := A0_ H
          clear H
          have p289 : 0 ≤ (x9_4 : Int) := wd_
          have q289 : x9_4 < (l1.length : Int) := wd_
          obtain ⟨ad289, e289, hx289_0⟩ := Kd.at_string HR1.out x9_4 p289 q289
          obtain rfl : ad275 = ad289 := (by injection e289)
          replace hx289_0 := (HB.out.cell (World.block_lt_of_cell? w _ hx289_0)).trans hx289_0
          replace p289 := eq_true p289
          replace q289 := eq_true q289
          have p290 : 0 ≤ (x6_2 : Int) := wd_
          have q290 : x6_2 < (l1.length : Int) := wd_
          obtain ⟨ad290, e290, hx290_0⟩ := Kd.at_string HR1.out x6_2 p290 q290
          obtain rfl : ad275 = ad290 := (by injection e290)
          replace hx290_0 := (HB.out.cell (World.block_lt_of_cell? w _ hx290_0)).trans hx290_0
          replace p290 := eq_true p290
          replace q290 := eq_true q290
          go_wp2
          repeat (go_quiet (fail); try go_wp2)
          go_roundg k4
          case measure => have := HJ2.out; have := HK2.out; have := HJ13.out; have := HK4.out; omega
          case rel => exact ⟨(((rdOf ByteArray.empty l1 x9_4).toList != (rdOf ByteArray.empty l1 x6_2).toList)), (wrap64 (x9_4 + 1)), wr_, wr_, H', ⟨by have := HJ2.out; have := HK2.out; have := HJ13.out; have := HK4.out; omega⟩, ⟨wV_ HO_289008.out⟩, ⟨wB_ BK288.out⟩, ⟨wb1_ HB.out GE288.out⟩⟩
     rw [if_neg c11] at H
     have c11b0 : decide (x6_2 < (l1.length : Int)) = false := decide_eq_false c11
     clear c11
     obtain ⟨y264, hy264⟩ : ∃ y_ : List ByteArray, y_ = (([] : List ByteArray)) := ⟨_, rfl⟩
     replace H : (if y264.length + l1.length < 8796093022208 then ((links_Members.f l0 (y264 ++ l1)).bind fun bt270 => ((bindlelaw11_answers.f).bind fun t274 => (if t274 = true then (if ((bt270.2 == 0) == x5_2) = true then (if x5_2 = true then (some true) else (if bt270.2 = 1 then (some ((bt270.1.length : Int) == 0)) else (some false))) else (some false)) else (some false)))) else (none)) = some r := by first | (rw [hy264]; with_reducible exact H) | (have H2_ := (Option.bind_some _ _).symm.trans H; rw [hy264]; with_reducible exact H2_) | (have H2_ := (Option.bind_some _ _).symm.trans H; with_reducible exact H2_) | with_reducible exact H | (rw [hy264]; exact H) | exact H
     have Ny264 := A0_ hy264
     clear hy264
     by_cases c26 : y264.length + l1.length < 8796093022208
     rotate_left
     ·rw [if_neg c26] at H
      exact absurd H (by simp)
     rw [if_pos c26] at H
     have LMc26 := A0_ c26
     clear c26
     obtain ⟨y267, hy267⟩ : ∃ y_ : List ByteArray, y_ = (y264 ++ l1) := ⟨_, rfl⟩
     replace H : ((links_Members.f l0 y267).bind fun bt270 => ((bindlelaw11_answers.f).bind fun t274 => (if t274 = true then (if ((bt270.2 == 0) == x5_2) = true then (if x5_2 = true then (some true) else (if bt270.2 = 1 then (some ((bt270.1.length : Int) == 0)) else (some false))) else (some false)) else (some false)))) = some r := by first | (rw [hy267]; with_reducible exact H) | (have H2_ := (Option.bind_some _ _).symm.trans H; rw [hy267]; with_reducible exact H2_) | (have H2_ := (Option.bind_some _ _).symm.trans H; with_reducible exact H2_) | with_reducible exact H | (rw [hy267]; exact H) | exact H
     have Ny267 := A0_ hy267
     clear hy267
     replace H := Option.bind_eq_some_iff.mp H
     obtain ⟨⟨t270, t273⟩, A270, H⟩ := H
     replace H : ((bindlelaw11_answers.f).bind fun t274 => (if t274 = true then (if ((t273 == 0) == x5_2) = true then (if x5_2 = true then (some true) else (if t273 = 1 then (some ((t270.length : Int) == 0)) else (some false))) else (some false)) else (some false))) = some r := H
     have A27 := A0_ A270
     clear A270
     replace H := Option.bind_eq_some_iff.mp H
     obtain ⟨t274, A280, H⟩ := H
     replace H : (if t274 = true then (if ((t273 == 0) == x5_2) = true then (if x5_2 = true then (some true) else (if t273 = 1 then (some ((t270.length : Int) == 0)) else (some false))) else (some false)) else (some false)) = some r := H
     have A28 := A0_ A280
     clear A280
     by_cases c29 : t274 = true
     rotate_left
     ·replace c29 := Bool.eq_false_iff.mpr c29
      subst c29
      have H1 : (some false) = some r := by rw [if_neg (show ¬ (false = true) by decide)] at H; exact H
      clear H
      have H := H1
      clear H1
      obtain rfl := Option.some.inj H
      go_wp2_with (first | ((with_reducible refine gate_dst (N := 64) rfl ?_); (try (refine gate_guard (by rfl) ?_; dsimp only)); refine Kd.R_lit Kd.string _ 9 ?hg (N := 64) ?hd (xs := ([] : List ByteArray)) (inner := []) (ok := fun _ => True) (okp := fun _ => True) ?hr ?hp (fun _ hk => hk) trivial (Below.refl _ _) (Nat.le_refl _) (by simp) ?_; (case hd => rfl); (case hg => rfl); (case hr => first | (go_simp; done) | (go_simp; rfl)); (case hp => exact (Reps.none _ _)); intro v265 w58 ho59 hb hg_ hnew_; clear hg_ hnew_; (first | rw [← Ny264.out] at ho59 | (simp only [Int.reduceToNat] at ho59; rw [← Ny264.out] at ho59)); have n0_ := A0_ (Kd.R_lower ho59 (below_size (wb_ HB.out))); have n1_ := A0_ (below_step (wb_ HB.out) hb); clear HB; have HO266 := n0_; have HB := n1_; clear n0_ n1_; clear hb ho59) | ((with_reducible refine gate_builtin (b := .append) (xs := #[.tmp 64, .tmp 65]) rfl ?_); (try (refine gate_guard (by rfl) ?_; dsimp only)); at_builtin; refine Kd.R_append_rows Kd.string (w0 := w) w.heap.size rfl (.tmp 64) (.tmp 65) 26 9 (.string ⟨#[]⟩) 16 rfl Tryd.underlying26 info9 rfl (by decide) (by omega) v265 y264 l1 _ _ _ (fun _ => True) (fun _ => False) rfl rfl ?aO ?aR (fun _ _ h => h) (fun _ h => h.elim) ?aF ?aB ?aS ?aL ?_; (case aR => exact wc_ (Kd.C_below HR1.out HB.out)); (case aB => exact (wb_ HB.out)); (case aF => exact (fun _ _ => trivial)); (case aO => exact (wR_ HO266.out)); (case aS => exact (below_size (wb_ HB.out))); (case aL => have := LMc26.out; omega); intro v268 w60 ho hb hg hat; rw [← Ny267.out] at ho; have n0_ := A0_ (hb); have n1_ := A0_ (ho); clear HB; clear HO266; have HB := n0_; have HO269 := n1_; clear n0_ n1_; clear ho hb hg hat; obtain ⟨Ao61, co61, eo61⟩ := Kd.R_slice HO269.out; subst eo61) | (go_at_call 17; (with_reducible refine (links_Members.calls _ _ l0 _ _ y267 t270 t273 _ ?side1 ?side2 ?side3 ?side4 A27.out).mono ?_); (case side1 => exact wc_ (Kd.C_below HR0.out HB.out)); (case side2 => exact HC0.out); (case side3 => exact wc_ (Kd.R_reads' HO269.out).2.2); (case side4 => exact (Kd.R_reads' HO269.out).2.1); rintro e w62 ⟨v271, rfl, ho0, hb⟩; have n0_ := A0_ (Rb_ (wR_ HO269.out) hb); have n1_ := A0_ (Kd.V_lower (Kd.V_mono (ok' := fun k_ => some k_ ≠ (.slice Ao61 y267.length co61 : Value).ownBlock) ho0 (fun k_ hk_ => (Kd.fresh' (Kd.R_lt (wR_ HO269.out)) k_ hk_))) (below_size (wb_ HB.out))); have n2_ := A0_ (below_step (wb_ HB.out) hb); clear HO269; clear HB; have HO269 := n0_; have HO272 := n1_; have HB := n2_; clear n0_ n1_ n2_; (try clear hb); (try clear hb2); (try clear hk); (try clear hi); (try clear ho0)) | (go_at_call 15; (with_reducible refine (bindlelaw11_answers.calls  false _ ?side1 A28.out).mono ?_); (case side1 => exact A0_ (Tabs.below hT.out (wb_ HB.out))); rintro e w63 ⟨rfl, hb⟩; have n0_ := A0_ (Rb_ (wR_ HO269.out) hb); have n1_ := A0_ (Vb_ (wV_ HO272.out) hb); have n2_ := A0_ (below_step (wb_ HB.out) hb); clear HO269; clear HO272; clear HB; have HO269 := n0_; have HO272 := n1_; have HB := n2_; clear n0_ n1_ n2_; (try clear hb); (try clear hb2); (try clear hk); (try clear hi)))
      repeat (go_quiet (first | ((with_reducible refine gate_dst (N := 64) rfl ?_); (try (refine gate_guard (by rfl) ?_; dsimp only)); refine Kd.R_lit Kd.string _ 9 ?hg (N := 64) ?hd (xs := ([] : List ByteArray)) (inner := []) (ok := fun _ => True) (okp := fun _ => True) ?hr ?hp (fun _ hk => hk) trivial (Below.refl _ _) (Nat.le_refl _) (by simp) ?_; (case hd => rfl); (case hg => rfl); (case hr => first | (go_simp; done) | (go_simp; rfl)); (case hp => exact (Reps.none _ _)); intro v265 w58 ho59 hb hg_ hnew_; clear hg_ hnew_; (first | rw [← Ny264.out] at ho59 | (simp only [Int.reduceToNat] at ho59; rw [← Ny264.out] at ho59)); have n0_ := A0_ (Kd.R_lower ho59 (below_size (wb_ HB.out))); have n1_ := A0_ (below_step (wb_ HB.out) hb); clear HB; have HO266 := n0_; have HB := n1_; clear n0_ n1_; clear hb ho59) | ((with_reducible refine gate_builtin (b := .append) (xs := #[.tmp 64, .tmp 65]) rfl ?_); (try (refine gate_guard (by rfl) ?_; dsimp only)); at_builtin; refine Kd.R_append_rows Kd.string (w0 := w) w.heap.size rfl (.tmp 64) (.tmp 65) 26 9 (.string ⟨#[]⟩) 16 rfl Tryd.underlying26 info9 rfl (by decide) (by omega) v265 y264 l1 _ _ _ (fun _ => True) (fun _ => False) rfl rfl ?aO ?aR (fun _ _ h => h) (fun _ h => h.elim) ?aF ?aB ?aS ?aL ?_; (case aR => exact wc_ (Kd.C_below HR1.out HB.out)); (case aB => exact (wb_ HB.out)); (case aF => exact (fun _ _ => trivial)); (case aO => exact (wR_ HO266.out)); (case aS => exact (below_size (wb_ HB.out))); (case aL => have := LMc26.out; omega); intro v268 w60 ho hb hg hat; rw [← Ny267.out] at ho; have n0_ := A0_ (hb); have n1_ := A0_ (ho); clear HB; clear HO266; have HB := n0_; have HO269 := n1_; clear n0_ n1_; clear ho hb hg hat; obtain ⟨Ao61, co61, eo61⟩ := Kd.R_slice HO269.out; subst eo61) | (go_at_call 17; (with_reducible refine (links_Members.calls _ _ l0 _ _ y267 t270 t273 _ ?side1 ?side2 ?side3 ?side4 A27.out).mono ?_); (case side1 => exact wc_ (Kd.C_below HR0.out HB.out)); (case side2 => exact HC0.out); (case side3 => exact wc_ (Kd.R_reads' HO269.out).2.2); (case side4 => exact (Kd.R_reads' HO269.out).2.1); rintro e w62 ⟨v271, rfl, ho0, hb⟩; have n0_ := A0_ (Rb_ (wR_ HO269.out) hb); have n1_ := A0_ (Kd.V_lower (Kd.V_mono (ok' := fun k_ => some k_ ≠ (.slice Ao61 y267.length co61 : Value).ownBlock) ho0 (fun k_ hk_ => (Kd.fresh' (Kd.R_lt (wR_ HO269.out)) k_ hk_))) (below_size (wb_ HB.out))); have n2_ := A0_ (below_step (wb_ HB.out) hb); clear HO269; clear HB; have HO269 := n0_; have HO272 := n1_; have HB := n2_; clear n0_ n1_ n2_; (try clear hb); (try clear hb2); (try clear hk); (try clear hi); (try clear ho0)) | (go_at_call 15; (with_reducible refine (bindlelaw11_answers.calls  false _ ?side1 A28.out).mono ?_); (case side1 => exact A0_ (Tabs.below hT.out (wb_ HB.out))); rintro e w63 ⟨rfl, hb⟩; have n0_ := A0_ (Rb_ (wR_ HO269.out) hb); have n1_ := A0_ (Vb_ (wV_ HO272.out) hb); have n2_ := A0_ (below_step (wb_ HB.out) hb); clear HO269; clear HO272; clear HB; have HO269 := n0_; have HO272 := n1_; have HB := n2_; clear n0_ n1_ n2_; (try clear hb); (try clear hb2); (try clear hk); (try clear hi))); try go_wp2_with (first | ((with_reducible refine gate_dst (N := 64) rfl ?_); (try (refine gate_guard (by rfl) ?_; dsimp only)); refine Kd.R_lit Kd.string _ 9 ?hg (N := 64) ?hd (xs := ([] : List ByteArray)) (inner := []) (ok := fun _ => True) (okp := fun _ => True) ?hr ?hp (fun _ hk => hk) trivial (Below.refl _ _) (Nat.le_refl _) (by simp) ?_; (case hd => rfl); (case hg => rfl); (case hr => first | (go_simp; done) | (go_simp; rfl)); (case hp => exact (Reps.none _ _)); intro v265 w58 ho59 hb hg_ hnew_; clear hg_ hnew_; (first | rw [← Ny264.out] at ho59 | (simp only [Int.reduceToNat] at ho59; rw [← Ny264.out] at ho59)); have n0_ := A0_ (Kd.R_lower ho59 (below_size (wb_ HB.out))); have n1_ := A0_ (below_step (wb_ HB.out) hb); clear HB; have HO266 := n0_; have HB := n1_; clear n0_ n1_; clear hb ho59) | ((with_reducible refine gate_builtin (b := .append) (xs := #[.tmp 64, .tmp 65]) rfl ?_); (try (refine gate_guard (by rfl) ?_; dsimp only)); at_builtin; refine Kd.R_append_rows Kd.string (w0 := w) w.heap.size rfl (.tmp 64) (.tmp 65) 26 9 (.string ⟨#[]⟩) 16 rfl Tryd.underlying26 info9 rfl (by decide) (by omega) v265 y264 l1 _ _ _ (fun _ => True) (fun _ => False) rfl rfl ?aO ?aR (fun _ _ h => h) (fun _ h => h.elim) ?aF ?aB ?aS ?aL ?_; (case aR => exact wc_ (Kd.C_below HR1.out HB.out)); (case aB => exact (wb_ HB.out)); (case aF => exact (fun _ _ => trivial)); (case aO => exact (wR_ HO266.out)); (case aS => exact (below_size (wb_ HB.out))); (case aL => have := LMc26.out; omega); intro v268 w60 ho hb hg hat; rw [← Ny267.out] at ho; have n0_ := A0_ (hb); have n1_ := A0_ (ho); clear HB; clear HO266; have HB := n0_; have HO269 := n1_; clear n0_ n1_; clear ho hb hg hat; obtain ⟨Ao61, co61, eo61⟩ := Kd.R_slice HO269.out; subst eo61) | (go_at_call 17; (with_reducible refine (links_Members.calls _ _ l0 _ _ y267 t270 t273 _ ?side1 ?side2 ?side3 ?side4 A27.out).mono ?_); (case side1 => exact wc_ (Kd.C_below HR0.out HB.out)); (case side2 => exact HC0.out); (case side3 => exact wc_ (Kd.R_reads' HO269.out).2.2); (case side4 => exact (Kd.R_reads' HO269.out).2.1); rintro e w62 ⟨v271, rfl, ho0, hb⟩; have n0_ := A0_ (Rb_ (wR_ HO269.out) hb); have n1_ := A0_ (Kd.V_lower (Kd.V_mono (ok' := fun k_ => some k_ ≠ (.slice Ao61 y267.length co61 : Value).ownBlock) ho0 (fun k_ hk_ => (Kd.fresh' (Kd.R_lt (wR_ HO269.out)) k_ hk_))) (below_size (wb_ HB.out))); have n2_ := A0_ (below_step (wb_ HB.out) hb); clear HO269; clear HB; have HO269 := n0_; have HO272 := n1_; have HB := n2_; clear n0_ n1_ n2_; (try clear hb); (try clear hb2); (try clear hk); (try clear hi); (try clear ho0)) | (go_at_call 15; (with_reducible refine (bindlelaw11_answers.calls  false _ ?side1 A28.out).mono ?_); (case side1 => exact A0_ (Tabs.below hT.out (wb_ HB.out))); rintro e w63 ⟨rfl, hb⟩; have n0_ := A0_ (Rb_ (wR_ HO269.out) hb); have n1_ := A0_ (Vb_ (wV_ HO272.out) hb); have n2_ := A0_ (below_step (wb_ HB.out) hb); clear HO269; clear HO272; clear HB; have HO269 := n0_; have HO272 := n1_; have HB := n2_; clear n0_ n1_ n2_; (try clear hb); (try clear hb2); (try clear hk); (try clear hi))))
      go_ret
      exact ⟨we_, wb_ HB.out⟩
     subst c29
     have H1 : (if ((t273 == 0) == x5_2) = true then (if x5_2 = true then (some true) else (if t273 = 1 then (some ((t270.length : Int) == 0)) else (some false))) else (some false)) = some r := by rw [if_pos rfl] at H; exact H
     clear H
     have H := H1
     clear H1
     by_cases c30 : ((t273 == 0) == x5_2) = true
     rotate_left
     ·rw [if_neg c30] at H
      have c30b0 : ((t273 == 0) == x5_2) = false := by simpa using c30
      (try (have c30b1 : decide ((t273 == 0) = x5_2) = false := by simpa using c30))
      (try (have c30b2 : ((t273 == 0) == x5_2) = false := by simpa using c30))
      (try (have c30b3 : ¬ ((t273 == 0) = x5_2) := by simpa using c30))
      clear c30
      obtain rfl := Option.some.inj H
      go_wp2_with (first | ((with_reducible refine gate_dst (N := 64) rfl ?_); (try (refine gate_guard (by rfl) ?_; dsimp only)); refine Kd.R_lit Kd.string _ 9 ?hg (N := 64) ?hd (xs := ([] : List ByteArray)) (inner := []) (ok := fun _ => True) (okp := fun _ => True) ?hr ?hp (fun _ hk => hk) trivial (Below.refl _ _) (Nat.le_refl _) (by simp) ?_; (case hd => rfl); (case hg => rfl); (case hr => first | (go_simp; done) | (go_simp; rfl)); (case hp => exact (Reps.none _ _)); intro v265 w52 ho53 hb hg_ hnew_; clear hg_ hnew_; (first | rw [← Ny264.out] at ho53 | (simp only [Int.reduceToNat] at ho53; rw [← Ny264.out] at ho53)); have n0_ := A0_ (Kd.R_lower ho53 (below_size (wb_ HB.out))); have n1_ := A0_ (below_step (wb_ HB.out) hb); clear HB; have HO266 := n0_; have HB := n1_; clear n0_ n1_; clear hb ho53) | ((with_reducible refine gate_builtin (b := .append) (xs := #[.tmp 64, .tmp 65]) rfl ?_); (try (refine gate_guard (by rfl) ?_; dsimp only)); at_builtin; refine Kd.R_append_rows Kd.string (w0 := w) w.heap.size rfl (.tmp 64) (.tmp 65) 26 9 (.string ⟨#[]⟩) 16 rfl Tryd.underlying26 info9 rfl (by decide) (by omega) v265 y264 l1 _ _ _ (fun _ => True) (fun _ => False) rfl rfl ?aO ?aR (fun _ _ h => h) (fun _ h => h.elim) ?aF ?aB ?aS ?aL ?_; (case aR => exact wc_ (Kd.C_below HR1.out HB.out)); (case aB => exact (wb_ HB.out)); (case aF => exact (fun _ _ => trivial)); (case aO => exact (wR_ HO266.out)); (case aS => exact (below_size (wb_ HB.out))); (case aL => have := LMc26.out; omega); intro v268 w54 ho hb hg hat; rw [← Ny267.out] at ho; have n0_ := A0_ (hb); have n1_ := A0_ (ho); clear HB; clear HO266; have HB := n0_; have HO269 := n1_; clear n0_ n1_; clear ho hb hg hat; obtain ⟨Ao55, co55, eo55⟩ := Kd.R_slice HO269.out; subst eo55) | (go_at_call 17; (with_reducible refine (links_Members.calls _ _ l0 _ _ y267 t270 t273 _ ?side1 ?side2 ?side3 ?side4 A27.out).mono ?_); (case side1 => exact wc_ (Kd.C_below HR0.out HB.out)); (case side2 => exact HC0.out); (case side3 => exact wc_ (Kd.R_reads' HO269.out).2.2); (case side4 => exact (Kd.R_reads' HO269.out).2.1); rintro e w56 ⟨v271, rfl, ho0, hb⟩; have n0_ := A0_ (Rb_ (wR_ HO269.out) hb); have n1_ := A0_ (Kd.V_lower (Kd.V_mono (ok' := fun k_ => some k_ ≠ (.slice Ao55 y267.length co55 : Value).ownBlock) ho0 (fun k_ hk_ => (Kd.fresh' (Kd.R_lt (wR_ HO269.out)) k_ hk_))) (below_size (wb_ HB.out))); have n2_ := A0_ (below_step (wb_ HB.out) hb); clear HO269; clear HB; have HO269 := n0_; have HO272 := n1_; have HB := n2_; clear n0_ n1_ n2_; (try clear hb); (try clear hb2); (try clear hk); (try clear hi); (try clear ho0)) | (go_at_call 15; (with_reducible refine (bindlelaw11_answers.calls  true _ ?side1 A28.out).mono ?_); (case side1 => exact A0_ (Tabs.below hT.out (wb_ HB.out))); rintro e w57 ⟨rfl, hb⟩; have n0_ := A0_ (Rb_ (wR_ HO269.out) hb); have n1_ := A0_ (Vb_ (wV_ HO272.out) hb); have n2_ := A0_ (below_step (wb_ HB.out) hb); clear HO269; clear HO272; clear HB; have HO269 := n0_; have HO272 := n1_; have HB := n2_; clear n0_ n1_ n2_; (try clear hb); (try clear hb2); (try clear hk); (try clear hi)))
      repeat (go_quiet (first | ((with_reducible refine gate_dst (N := 64) rfl ?_); (try (refine gate_guard (by rfl) ?_; dsimp only)); refine Kd.R_lit Kd.string _ 9 ?hg (N := 64) ?hd (xs := ([] : List ByteArray)) (inner := []) (ok := fun _ => True) (okp := fun _ => True) ?hr ?hp (fun _ hk => hk) trivial (Below.refl _ _) (Nat.le_refl _) (by simp) ?_; (case hd => rfl); (case hg => rfl); (case hr => first | (go_simp; done) | (go_simp; rfl)); (case hp => exact (Reps.none _ _)); intro v265 w52 ho53 hb hg_ hnew_; clear hg_ hnew_; (first | rw [← Ny264.out] at ho53 | (simp only [Int.reduceToNat] at ho53; rw [← Ny264.out] at ho53)); have n0_ := A0_ (Kd.R_lower ho53 (below_size (wb_ HB.out))); have n1_ := A0_ (below_step (wb_ HB.out) hb); clear HB; have HO266 := n0_; have HB := n1_; clear n0_ n1_; clear hb ho53) | ((with_reducible refine gate_builtin (b := .append) (xs := #[.tmp 64, .tmp 65]) rfl ?_); (try (refine gate_guard (by rfl) ?_; dsimp only)); at_builtin; refine Kd.R_append_rows Kd.string (w0 := w) w.heap.size rfl (.tmp 64) (.tmp 65) 26 9 (.string ⟨#[]⟩) 16 rfl Tryd.underlying26 info9 rfl (by decide) (by omega) v265 y264 l1 _ _ _ (fun _ => True) (fun _ => False) rfl rfl ?aO ?aR (fun _ _ h => h) (fun _ h => h.elim) ?aF ?aB ?aS ?aL ?_; (case aR => exact wc_ (Kd.C_below HR1.out HB.out)); (case aB => exact (wb_ HB.out)); (case aF => exact (fun _ _ => trivial)); (case aO => exact (wR_ HO266.out)); (case aS => exact (below_size (wb_ HB.out))); (case aL => have := LMc26.out; omega); intro v268 w54 ho hb hg hat; rw [← Ny267.out] at ho; have n0_ := A0_ (hb); have n1_ := A0_ (ho); clear HB; clear HO266; have HB := n0_; have HO269 := n1_; clear n0_ n1_; clear ho hb hg hat; obtain ⟨Ao55, co55, eo55⟩ := Kd.R_slice HO269.out; subst eo55) | (go_at_call 17; (with_reducible refine (links_Members.calls _ _ l0 _ _ y267 t270 t273 _ ?side1 ?side2 ?side3 ?side4 A27.out).mono ?_); (case side1 => exact wc_ (Kd.C_below HR0.out HB.out)); (case side2 => exact HC0.out); (case side3 => exact wc_ (Kd.R_reads' HO269.out).2.2); (case side4 => exact (Kd.R_reads' HO269.out).2.1); rintro e w56 ⟨v271, rfl, ho0, hb⟩; have n0_ := A0_ (Rb_ (wR_ HO269.out) hb); have n1_ := A0_ (Kd.V_lower (Kd.V_mono (ok' := fun k_ => some k_ ≠ (.slice Ao55 y267.length co55 : Value).ownBlock) ho0 (fun k_ hk_ => (Kd.fresh' (Kd.R_lt (wR_ HO269.out)) k_ hk_))) (below_size (wb_ HB.out))); have n2_ := A0_ (below_step (wb_ HB.out) hb); clear HO269; clear HB; have HO269 := n0_; have HO272 := n1_; have HB := n2_; clear n0_ n1_ n2_; (try clear hb); (try clear hb2); (try clear hk); (try clear hi); (try clear ho0)) | (go_at_call 15; (with_reducible refine (bindlelaw11_answers.calls  true _ ?side1 A28.out).mono ?_); (case side1 => exact A0_ (Tabs.below hT.out (wb_ HB.out))); rintro e w57 ⟨rfl, hb⟩; have n0_ := A0_ (Rb_ (wR_ HO269.out) hb); have n1_ := A0_ (Vb_ (wV_ HO272.out) hb); have n2_ := A0_ (below_step (wb_ HB.out) hb); clear HO269; clear HO272; clear HB; have HO269 := n0_; have HO272 := n1_; have HB := n2_; clear n0_ n1_ n2_; (try clear hb); (try clear hb2); (try clear hk); (try clear hi))); try go_wp2_with (first | ((with_reducible refine gate_dst (N := 64) rfl ?_); (try (refine gate_guard (by rfl) ?_; dsimp only)); refine Kd.R_lit Kd.string _ 9 ?hg (N := 64) ?hd (xs := ([] : List ByteArray)) (inner := []) (ok := fun _ => True) (okp := fun _ => True) ?hr ?hp (fun _ hk => hk) trivial (Below.refl _ _) (Nat.le_refl _) (by simp) ?_; (case hd => rfl); (case hg => rfl); (case hr => first | (go_simp; done) | (go_simp; rfl)); (case hp => exact (Reps.none _ _)); intro v265 w52 ho53 hb hg_ hnew_; clear hg_ hnew_; (first | rw [← Ny264.out] at ho53 | (simp only [Int.reduceToNat] at ho53; rw [← Ny264.out] at ho53)); have n0_ := A0_ (Kd.R_lower ho53 (below_size (wb_ HB.out))); have n1_ := A0_ (below_step (wb_ HB.out) hb); clear HB; have HO266 := n0_; have HB := n1_; clear n0_ n1_; clear hb ho53) | ((with_reducible refine gate_builtin (b := .append) (xs := #[.tmp 64, .tmp 65]) rfl ?_); (try (refine gate_guard (by rfl) ?_; dsimp only)); at_builtin; refine Kd.R_append_rows Kd.string (w0 := w) w.heap.size rfl (.tmp 64) (.tmp 65) 26 9 (.string ⟨#[]⟩) 16 rfl Tryd.underlying26 info9 rfl (by decide) (by omega) v265 y264 l1 _ _ _ (fun _ => True) (fun _ => False) rfl rfl ?aO ?aR (fun _ _ h => h) (fun _ h => h.elim) ?aF ?aB ?aS ?aL ?_; (case aR => exact wc_ (Kd.C_below HR1.out HB.out)); (case aB => exact (wb_ HB.out)); (case aF => exact (fun _ _ => trivial)); (case aO => exact (wR_ HO266.out)); (case aS => exact (below_size (wb_ HB.out))); (case aL => have := LMc26.out; omega); intro v268 w54 ho hb hg hat; rw [← Ny267.out] at ho; have n0_ := A0_ (hb); have n1_ := A0_ (ho); clear HB; clear HO266; have HB := n0_; have HO269 := n1_; clear n0_ n1_; clear ho hb hg hat; obtain ⟨Ao55, co55, eo55⟩ := Kd.R_slice HO269.out; subst eo55) | (go_at_call 17; (with_reducible refine (links_Members.calls _ _ l0 _ _ y267 t270 t273 _ ?side1 ?side2 ?side3 ?side4 A27.out).mono ?_); (case side1 => exact wc_ (Kd.C_below HR0.out HB.out)); (case side2 => exact HC0.out); (case side3 => exact wc_ (Kd.R_reads' HO269.out).2.2); (case side4 => exact (Kd.R_reads' HO269.out).2.1); rintro e w56 ⟨v271, rfl, ho0, hb⟩; have n0_ := A0_ (Rb_ (wR_ HO269.out) hb); have n1_ := A0_ (Kd.V_lower (Kd.V_mono (ok' := fun k_ => some k_ ≠ (.slice Ao55 y267.length co55 : Value).ownBlock) ho0 (fun k_ hk_ => (Kd.fresh' (Kd.R_lt (wR_ HO269.out)) k_ hk_))) (below_size (wb_ HB.out))); have n2_ := A0_ (below_step (wb_ HB.out) hb); clear HO269; clear HB; have HO269 := n0_; have HO272 := n1_; have HB := n2_; clear n0_ n1_ n2_; (try clear hb); (try clear hb2); (try clear hk); (try clear hi); (try clear ho0)) | (go_at_call 15; (with_reducible refine (bindlelaw11_answers.calls  true _ ?side1 A28.out).mono ?_); (case side1 => exact A0_ (Tabs.below hT.out (wb_ HB.out))); rintro e w57 ⟨rfl, hb⟩; have n0_ := A0_ (Rb_ (wR_ HO269.out) hb); have n1_ := A0_ (Vb_ (wV_ HO272.out) hb); have n2_ := A0_ (below_step (wb_ HB.out) hb); clear HO269; clear HO272; clear HB; have HO269 := n0_; have HO272 := n1_; have HB := n2_; clear n0_ n1_ n2_; (try clear hb); (try clear hb2); (try clear hk); (try clear hi))))
      go_ret
      exact ⟨we_, wb_ HB.out⟩
     rw [if_pos c30] at H
     have c30b0 : ((t273 == 0) == x5_2) = true := c30
     (try (have c30b1 : decide ((t273 == 0) = x5_2) = true := by simpa using c30))
     (try (have c30b2 : ((t273 == 0) == x5_2) = true := by simpa using c30))
     clear c30
     by_cases c31 : x5_2 = true
     ·subst c31
      have H1 : (some true) = some r := by rw [if_pos rfl] at H; exact H
      clear H
      have H := H1
      clear H1
      obtain rfl := Option.some.inj H
      go_wp2_with (first | ((with_reducible refine gate_dst (N := 64) rfl ?_); (try (refine gate_guard (by rfl) ?_; dsimp only)); refine Kd.R_lit Kd.string _ 9 ?hg (N := 64) ?hd (xs := ([] : List ByteArray)) (inner := []) (ok := fun _ => True) (okp := fun _ => True) ?hr ?hp (fun _ hk => hk) trivial (Below.refl _ _) (Nat.le_refl _) (by simp) ?_; (case hd => rfl); (case hg => rfl); (case hr => first | (go_simp; done) | (go_simp; rfl)); (case hp => exact (Reps.none _ _)); intro v265 w32 ho33 hb hg_ hnew_; clear hg_ hnew_; (first | rw [← Ny264.out] at ho33 | (simp only [Int.reduceToNat] at ho33; rw [← Ny264.out] at ho33)); have n0_ := A0_ (Kd.R_lower ho33 (below_size (wb_ HB.out))); have n1_ := A0_ (below_step (wb_ HB.out) hb); clear HB; have HO266 := n0_; have HB := n1_; clear n0_ n1_; clear hb ho33) | ((with_reducible refine gate_builtin (b := .append) (xs := #[.tmp 64, .tmp 65]) rfl ?_); (try (refine gate_guard (by rfl) ?_; dsimp only)); at_builtin; refine Kd.R_append_rows Kd.string (w0 := w) w.heap.size rfl (.tmp 64) (.tmp 65) 26 9 (.string ⟨#[]⟩) 16 rfl Tryd.underlying26 info9 rfl (by decide) (by omega) v265 y264 l1 _ _ _ (fun _ => True) (fun _ => False) rfl rfl ?aO ?aR (fun _ _ h => h) (fun _ h => h.elim) ?aF ?aB ?aS ?aL ?_; (case aR => exact wc_ (Kd.C_below HR1.out HB.out)); (case aB => exact (wb_ HB.out)); (case aF => exact (fun _ _ => trivial)); (case aO => exact (wR_ HO266.out)); (case aS => exact (below_size (wb_ HB.out))); (case aL => have := LMc26.out; omega); intro v268 w34 ho hb hg hat; rw [← Ny267.out] at ho; have n0_ := A0_ (hb); have n1_ := A0_ (ho); clear HB; clear HO266; have HB := n0_; have HO269 := n1_; clear n0_ n1_; clear ho hb hg hat; obtain ⟨Ao35, co35, eo35⟩ := Kd.R_slice HO269.out; subst eo35) | (go_at_call 17; (with_reducible refine (links_Members.calls _ _ l0 _ _ y267 t270 t273 _ ?side1 ?side2 ?side3 ?side4 A27.out).mono ?_); (case side1 => exact wc_ (Kd.C_below HR0.out HB.out)); (case side2 => exact HC0.out); (case side3 => exact wc_ (Kd.R_reads' HO269.out).2.2); (case side4 => exact (Kd.R_reads' HO269.out).2.1); rintro e w36 ⟨v271, rfl, ho0, hb⟩; have n0_ := A0_ (Rb_ (wR_ HO269.out) hb); have n1_ := A0_ (Kd.V_lower (Kd.V_mono (ok' := fun k_ => some k_ ≠ (.slice Ao35 y267.length co35 : Value).ownBlock) ho0 (fun k_ hk_ => (Kd.fresh' (Kd.R_lt (wR_ HO269.out)) k_ hk_))) (below_size (wb_ HB.out))); have n2_ := A0_ (below_step (wb_ HB.out) hb); clear HO269; clear HB; have HO269 := n0_; have HO272 := n1_; have HB := n2_; clear n0_ n1_ n2_; (try clear hb); (try clear hb2); (try clear hk); (try clear hi); (try clear ho0)) | (go_at_call 15; (with_reducible refine (bindlelaw11_answers.calls  true _ ?side1 A28.out).mono ?_); (case side1 => exact A0_ (Tabs.below hT.out (wb_ HB.out))); rintro e w37 ⟨rfl, hb⟩; have n0_ := A0_ (Rb_ (wR_ HO269.out) hb); have n1_ := A0_ (Vb_ (wV_ HO272.out) hb); have n2_ := A0_ (below_step (wb_ HB.out) hb); clear HO269; clear HO272; clear HB; have HO269 := n0_; have HO272 := n1_; have HB := n2_; clear n0_ n1_ n2_; (try clear hb); (try clear hb2); (try clear hk); (try clear hi)))
      repeat (go_quiet (first | ((with_reducible refine gate_dst (N := 64) rfl ?_); (try (refine gate_guard (by rfl) ?_; dsimp only)); refine Kd.R_lit Kd.string _ 9 ?hg (N := 64) ?hd (xs := ([] : List ByteArray)) (inner := []) (ok := fun _ => True) (okp := fun _ => True) ?hr ?hp (fun _ hk => hk) trivial (Below.refl _ _) (Nat.le_refl _) (by simp) ?_; (case hd => rfl); (case hg => rfl); (case hr => first | (go_simp; done) | (go_simp; rfl)); (case hp => exact (Reps.none _ _)); intro v265 w32 ho33 hb hg_ hnew_; clear hg_ hnew_; (first | rw [← Ny264.out] at ho33 | (simp only [Int.reduceToNat] at ho33; rw [← Ny264.out] at ho33)); have n0_ := A0_ (Kd.R_lower ho33 (below_size (wb_ HB.out))); have n1_ := A0_ (below_step (wb_ HB.out) hb); clear HB; have HO266 := n0_; have HB := n1_; clear n0_ n1_; clear hb ho33) | ((with_reducible refine gate_builtin (b := .append) (xs := #[.tmp 64, .tmp 65]) rfl ?_); (try (refine gate_guard (by rfl) ?_; dsimp only)); at_builtin; refine Kd.R_append_rows Kd.string (w0 := w) w.heap.size rfl (.tmp 64) (.tmp 65) 26 9 (.string ⟨#[]⟩) 16 rfl Tryd.underlying26 info9 rfl (by decide) (by omega) v265 y264 l1 _ _ _ (fun _ => True) (fun _ => False) rfl rfl ?aO ?aR (fun _ _ h => h) (fun _ h => h.elim) ?aF ?aB ?aS ?aL ?_; (case aR => exact wc_ (Kd.C_below HR1.out HB.out)); (case aB => exact (wb_ HB.out)); (case aF => exact (fun _ _ => trivial)); (case aO => exact (wR_ HO266.out)); (case aS => exact (below_size (wb_ HB.out))); (case aL => have := LMc26.out; omega); intro v268 w34 ho hb hg hat; rw [← Ny267.out] at ho; have n0_ := A0_ (hb); have n1_ := A0_ (ho); clear HB; clear HO266; have HB := n0_; have HO269 := n1_; clear n0_ n1_; clear ho hb hg hat; obtain ⟨Ao35, co35, eo35⟩ := Kd.R_slice HO269.out; subst eo35) | (go_at_call 17; (with_reducible refine (links_Members.calls _ _ l0 _ _ y267 t270 t273 _ ?side1 ?side2 ?side3 ?side4 A27.out).mono ?_); (case side1 => exact wc_ (Kd.C_below HR0.out HB.out)); (case side2 => exact HC0.out); (case side3 => exact wc_ (Kd.R_reads' HO269.out).2.2); (case side4 => exact (Kd.R_reads' HO269.out).2.1); rintro e w36 ⟨v271, rfl, ho0, hb⟩; have n0_ := A0_ (Rb_ (wR_ HO269.out) hb); have n1_ := A0_ (Kd.V_lower (Kd.V_mono (ok' := fun k_ => some k_ ≠ (.slice Ao35 y267.length co35 : Value).ownBlock) ho0 (fun k_ hk_ => (Kd.fresh' (Kd.R_lt (wR_ HO269.out)) k_ hk_))) (below_size (wb_ HB.out))); have n2_ := A0_ (below_step (wb_ HB.out) hb); clear HO269; clear HB; have HO269 := n0_; have HO272 := n1_; have HB := n2_; clear n0_ n1_ n2_; (try clear hb); (try clear hb2); (try clear hk); (try clear hi); (try clear ho0)) | (go_at_call 15; (with_reducible refine (bindlelaw11_answers.calls  true _ ?side1 A28.out).mono ?_); (case side1 => exact A0_ (Tabs.below hT.out (wb_ HB.out))); rintro e w37 ⟨rfl, hb⟩; have n0_ := A0_ (Rb_ (wR_ HO269.out) hb); have n1_ := A0_ (Vb_ (wV_ HO272.out) hb); have n2_ := A0_ (below_step (wb_ HB.out) hb); clear HO269; clear HO272; clear HB; have HO269 := n0_; have HO272 := n1_; have HB := n2_; clear n0_ n1_ n2_; (try clear hb); (try clear hb2); (try clear hk); (try clear hi))); try go_wp2_with (first | ((with_reducible refine gate_dst (N := 64) rfl ?_); (try (refine gate_guard (by rfl) ?_; dsimp only)); refine Kd.R_lit Kd.string _ 9 ?hg (N := 64) ?hd (xs := ([] : List ByteArray)) (inner := []) (ok := fun _ => True) (okp := fun _ => True) ?hr ?hp (fun _ hk => hk) trivial (Below.refl _ _) (Nat.le_refl _) (by simp) ?_; (case hd => rfl); (case hg => rfl); (case hr => first | (go_simp; done) | (go_simp; rfl)); (case hp => exact (Reps.none _ _)); intro v265 w32 ho33 hb hg_ hnew_; clear hg_ hnew_; (first | rw [← Ny264.out] at ho33 | (simp only [Int.reduceToNat] at ho33; rw [← Ny264.out] at ho33)); have n0_ := A0_ (Kd.R_lower ho33 (below_size (wb_ HB.out))); have n1_ := A0_ (below_step (wb_ HB.out) hb); clear HB; have HO266 := n0_; have HB := n1_; clear n0_ n1_; clear hb ho33) | ((with_reducible refine gate_builtin (b := .append) (xs := #[.tmp 64, .tmp 65]) rfl ?_); (try (refine gate_guard (by rfl) ?_; dsimp only)); at_builtin; refine Kd.R_append_rows Kd.string (w0 := w) w.heap.size rfl (.tmp 64) (.tmp 65) 26 9 (.string ⟨#[]⟩) 16 rfl Tryd.underlying26 info9 rfl (by decide) (by omega) v265 y264 l1 _ _ _ (fun _ => True) (fun _ => False) rfl rfl ?aO ?aR (fun _ _ h => h) (fun _ h => h.elim) ?aF ?aB ?aS ?aL ?_; (case aR => exact wc_ (Kd.C_below HR1.out HB.out)); (case aB => exact (wb_ HB.out)); (case aF => exact (fun _ _ => trivial)); (case aO => exact (wR_ HO266.out)); (case aS => exact (below_size (wb_ HB.out))); (case aL => have := LMc26.out; omega); intro v268 w34 ho hb hg hat; rw [← Ny267.out] at ho; have n0_ := A0_ (hb); have n1_ := A0_ (ho); clear HB; clear HO266; have HB := n0_; have HO269 := n1_; clear n0_ n1_; clear ho hb hg hat; obtain ⟨Ao35, co35, eo35⟩ := Kd.R_slice HO269.out; subst eo35) | (go_at_call 17; (with_reducible refine (links_Members.calls _ _ l0 _ _ y267 t270 t273 _ ?side1 ?side2 ?side3 ?side4 A27.out).mono ?_); (case side1 => exact wc_ (Kd.C_below HR0.out HB.out)); (case side2 => exact HC0.out); (case side3 => exact wc_ (Kd.R_reads' HO269.out).2.2); (case side4 => exact (Kd.R_reads' HO269.out).2.1); rintro e w36 ⟨v271, rfl, ho0, hb⟩; have n0_ := A0_ (Rb_ (wR_ HO269.out) hb); have n1_ := A0_ (Kd.V_lower (Kd.V_mono (ok' := fun k_ => some k_ ≠ (.slice Ao35 y267.length co35 : Value).ownBlock) ho0 (fun k_ hk_ => (Kd.fresh' (Kd.R_lt (wR_ HO269.out)) k_ hk_))) (below_size (wb_ HB.out))); have n2_ := A0_ (below_step (wb_ HB.out) hb); clear HO269; clear HB; have HO269 := n0_; have HO272 := n1_; have HB := n2_; clear n0_ n1_ n2_; (try clear hb); (try clear hb2); (try clear hk); (try clear hi); (try clear ho0)) | (go_at_call 15; (with_reducible refine (bindlelaw11_answers.calls  true _ ?side1 A28.out).mono ?_); (case side1 => exact A0_ (Tabs.below hT.out (wb_ HB.out))); rintro e w37 ⟨rfl, hb⟩; have n0_ := A0_ (Rb_ (wR_ HO269.out) hb); have n1_ := A0_ (Vb_ (wV_ HO272.out) hb); have n2_ := A0_ (below_step (wb_ HB.out) hb); clear HO269; clear HO272; clear HB; have HO269 := n0_; have HO272 := n1_; have HB := n2_; clear n0_ n1_ n2_; (try clear hb); (try clear hb2); (try clear hk); (try clear hi))))
      go_ret
      exact ⟨we_, wb_ HB.out⟩
     replace c31 := Bool.eq_false_iff.mpr c31
     subst c31
     have H1 : (if t273 = 1 then (some ((t270.length : Int) == 0)) else (some false)) = some r := by rw [if_neg (show ¬ (false = true) by decide)] at H; exact H
     clear H
     have H := H1
     clear H1
     by_cases c38 : t273 = 1
     rotate_left
     ·rw [if_neg c38] at H
      have c38b0 : (t273 == 1) = false := beq_eq_false_iff_ne.mpr c38
      have c38b1 : (t273 != 1) = true := bne_iff_ne.mpr c38
      obtain rfl := Option.some.inj H
      go_wp2_with (first | ((with_reducible refine gate_dst (N := 64) rfl ?_); (try (refine gate_guard (by rfl) ?_; dsimp only)); refine Kd.R_lit Kd.string _ 9 ?hg (N := 64) ?hd (xs := ([] : List ByteArray)) (inner := []) (ok := fun _ => True) (okp := fun _ => True) ?hr ?hp (fun _ hk => hk) trivial (Below.refl _ _) (Nat.le_refl _) (by simp) ?_; (case hd => rfl); (case hg => rfl); (case hr => first | (go_simp; done) | (go_simp; rfl)); (case hp => exact (Reps.none _ _)); intro v265 w46 ho47 hb hg_ hnew_; clear hg_ hnew_; (first | rw [← Ny264.out] at ho47 | (simp only [Int.reduceToNat] at ho47; rw [← Ny264.out] at ho47)); have n0_ := A0_ (Kd.R_lower ho47 (below_size (wb_ HB.out))); have n1_ := A0_ (below_step (wb_ HB.out) hb); clear HB; have HO266 := n0_; have HB := n1_; clear n0_ n1_; clear hb ho47) | ((with_reducible refine gate_builtin (b := .append) (xs := #[.tmp 64, .tmp 65]) rfl ?_); (try (refine gate_guard (by rfl) ?_; dsimp only)); at_builtin; refine Kd.R_append_rows Kd.string (w0 := w) w.heap.size rfl (.tmp 64) (.tmp 65) 26 9 (.string ⟨#[]⟩) 16 rfl Tryd.underlying26 info9 rfl (by decide) (by omega) v265 y264 l1 _ _ _ (fun _ => True) (fun _ => False) rfl rfl ?aO ?aR (fun _ _ h => h) (fun _ h => h.elim) ?aF ?aB ?aS ?aL ?_; (case aR => exact wc_ (Kd.C_below HR1.out HB.out)); (case aB => exact (wb_ HB.out)); (case aF => exact (fun _ _ => trivial)); (case aO => exact (wR_ HO266.out)); (case aS => exact (below_size (wb_ HB.out))); (case aL => have := LMc26.out; omega); intro v268 w48 ho hb hg hat; rw [← Ny267.out] at ho; have n0_ := A0_ (hb); have n1_ := A0_ (ho); clear HB; clear HO266; have HB := n0_; have HO269 := n1_; clear n0_ n1_; clear ho hb hg hat; obtain ⟨Ao49, co49, eo49⟩ := Kd.R_slice HO269.out; subst eo49) | (go_at_call 17; (with_reducible refine (links_Members.calls _ _ l0 _ _ y267 t270 t273 _ ?side1 ?side2 ?side3 ?side4 A27.out).mono ?_); (case side1 => exact wc_ (Kd.C_below HR0.out HB.out)); (case side2 => exact HC0.out); (case side3 => exact wc_ (Kd.R_reads' HO269.out).2.2); (case side4 => exact (Kd.R_reads' HO269.out).2.1); rintro e w50 ⟨v271, rfl, ho0, hb⟩; have n0_ := A0_ (Rb_ (wR_ HO269.out) hb); have n1_ := A0_ (Kd.V_lower (Kd.V_mono (ok' := fun k_ => some k_ ≠ (.slice Ao49 y267.length co49 : Value).ownBlock) ho0 (fun k_ hk_ => (Kd.fresh' (Kd.R_lt (wR_ HO269.out)) k_ hk_))) (below_size (wb_ HB.out))); have n2_ := A0_ (below_step (wb_ HB.out) hb); clear HO269; clear HB; have HO269 := n0_; have HO272 := n1_; have HB := n2_; clear n0_ n1_ n2_; (try clear hb); (try clear hb2); (try clear hk); (try clear hi); (try clear ho0)) | (go_at_call 15; (with_reducible refine (bindlelaw11_answers.calls  true _ ?side1 A28.out).mono ?_); (case side1 => exact A0_ (Tabs.below hT.out (wb_ HB.out))); rintro e w51 ⟨rfl, hb⟩; have n0_ := A0_ (Rb_ (wR_ HO269.out) hb); have n1_ := A0_ (Vb_ (wV_ HO272.out) hb); have n2_ := A0_ (below_step (wb_ HB.out) hb); clear HO269; clear HO272; clear HB; have HO269 := n0_; have HO272 := n1_; have HB := n2_; clear n0_ n1_ n2_; (try clear hb); (try clear hb2); (try clear hk); (try clear hi)))
      repeat (go_quiet (first | ((with_reducible refine gate_dst (N := 64) rfl ?_); (try (refine gate_guard (by rfl) ?_; dsimp only)); refine Kd.R_lit Kd.string _ 9 ?hg (N := 64) ?hd (xs := ([] : List ByteArray)) (inner := []) (ok := fun _ => True) (okp := fun _ => True) ?hr ?hp (fun _ hk => hk) trivial (Below.refl _ _) (Nat.le_refl _) (by simp) ?_; (case hd => rfl); (case hg => rfl); (case hr => first | (go_simp; done) | (go_simp; rfl)); (case hp => exact (Reps.none _ _)); intro v265 w46 ho47 hb hg_ hnew_; clear hg_ hnew_; (first | rw [← Ny264.out] at ho47 | (simp only [Int.reduceToNat] at ho47; rw [← Ny264.out] at ho47)); have n0_ := A0_ (Kd.R_lower ho47 (below_size (wb_ HB.out))); have n1_ := A0_ (below_step (wb_ HB.out) hb); clear HB; have HO266 := n0_; have HB := n1_; clear n0_ n1_; clear hb ho47) | ((with_reducible refine gate_builtin (b := .append) (xs := #[.tmp 64, .tmp 65]) rfl ?_); (try (refine gate_guard (by rfl) ?_; dsimp only)); at_builtin; refine Kd.R_append_rows Kd.string (w0 := w) w.heap.size rfl (.tmp 64) (.tmp 65) 26 9 (.string ⟨#[]⟩) 16 rfl Tryd.underlying26 info9 rfl (by decide) (by omega) v265 y264 l1 _ _ _ (fun _ => True) (fun _ => False) rfl rfl ?aO ?aR (fun _ _ h => h) (fun _ h => h.elim) ?aF ?aB ?aS ?aL ?_; (case aR => exact wc_ (Kd.C_below HR1.out HB.out)); (case aB => exact (wb_ HB.out)); (case aF => exact (fun _ _ => trivial)); (case aO => exact (wR_ HO266.out)); (case aS => exact (below_size (wb_ HB.out))); (case aL => have := LMc26.out; omega); intro v268 w48 ho hb hg hat; rw [← Ny267.out] at ho; have n0_ := A0_ (hb); have n1_ := A0_ (ho); clear HB; clear HO266; have HB := n0_; have HO269 := n1_; clear n0_ n1_; clear ho hb hg hat; obtain ⟨Ao49, co49, eo49⟩ := Kd.R_slice HO269.out; subst eo49) | (go_at_call 17; (with_reducible refine (links_Members.calls _ _ l0 _ _ y267 t270 t273 _ ?side1 ?side2 ?side3 ?side4 A27.out).mono ?_); (case side1 => exact wc_ (Kd.C_below HR0.out HB.out)); (case side2 => exact HC0.out); (case side3 => exact wc_ (Kd.R_reads' HO269.out).2.2); (case side4 => exact (Kd.R_reads' HO269.out).2.1); rintro e w50 ⟨v271, rfl, ho0, hb⟩; have n0_ := A0_ (Rb_ (wR_ HO269.out) hb); have n1_ := A0_ (Kd.V_lower (Kd.V_mono (ok' := fun k_ => some k_ ≠ (.slice Ao49 y267.length co49 : Value).ownBlock) ho0 (fun k_ hk_ => (Kd.fresh' (Kd.R_lt (wR_ HO269.out)) k_ hk_))) (below_size (wb_ HB.out))); have n2_ := A0_ (below_step (wb_ HB.out) hb); clear HO269; clear HB; have HO269 := n0_; have HO272 := n1_; have HB := n2_; clear n0_ n1_ n2_; (try clear hb); (try clear hb2); (try clear hk); (try clear hi); (try clear ho0)) | (go_at_call 15; (with_reducible refine (bindlelaw11_answers.calls  true _ ?side1 A28.out).mono ?_); (case side1 => exact A0_ (Tabs.below hT.out (wb_ HB.out))); rintro e w51 ⟨rfl, hb⟩; have n0_ := A0_ (Rb_ (wR_ HO269.out) hb); have n1_ := A0_ (Vb_ (wV_ HO272.out) hb); have n2_ := A0_ (below_step (wb_ HB.out) hb); clear HO269; clear HO272; clear HB; have HO269 := n0_; have HO272 := n1_; have HB := n2_; clear n0_ n1_ n2_; (try clear hb); (try clear hb2); (try clear hk); (try clear hi))); try go_wp2_with (first | ((with_reducible refine gate_dst (N := 64) rfl ?_); (try (refine gate_guard (by rfl) ?_; dsimp only)); refine Kd.R_lit Kd.string _ 9 ?hg (N := 64) ?hd (xs := ([] : List ByteArray)) (inner := []) (ok := fun _ => True) (okp := fun _ => True) ?hr ?hp (fun _ hk => hk) trivial (Below.refl _ _) (Nat.le_refl _) (by simp) ?_; (case hd => rfl); (case hg => rfl); (case hr => first | (go_simp; done) | (go_simp; rfl)); (case hp => exact (Reps.none _ _)); intro v265 w46 ho47 hb hg_ hnew_; clear hg_ hnew_; (first | rw [← Ny264.out] at ho47 | (simp only [Int.reduceToNat] at ho47; rw [← Ny264.out] at ho47)); have n0_ := A0_ (Kd.R_lower ho47 (below_size (wb_ HB.out))); have n1_ := A0_ (below_step (wb_ HB.out) hb); clear HB; have HO266 := n0_; have HB := n1_; clear n0_ n1_; clear hb ho47) | ((with_reducible refine gate_builtin (b := .append) (xs := #[.tmp 64, .tmp 65]) rfl ?_); (try (refine gate_guard (by rfl) ?_; dsimp only)); at_builtin; refine Kd.R_append_rows Kd.string (w0 := w) w.heap.size rfl (.tmp 64) (.tmp 65) 26 9 (.string ⟨#[]⟩) 16 rfl Tryd.underlying26 info9 rfl (by decide) (by omega) v265 y264 l1 _ _ _ (fun _ => True) (fun _ => False) rfl rfl ?aO ?aR (fun _ _ h => h) (fun _ h => h.elim) ?aF ?aB ?aS ?aL ?_; (case aR => exact wc_ (Kd.C_below HR1.out HB.out)); (case aB => exact (wb_ HB.out)); (case aF => exact (fun _ _ => trivial)); (case aO => exact (wR_ HO266.out)); (case aS => exact (below_size (wb_ HB.out))); (case aL => have := LMc26.out; omega); intro v268 w48 ho hb hg hat; rw [← Ny267.out] at ho; have n0_ := A0_ (hb); have n1_ := A0_ (ho); clear HB; clear HO266; have HB := n0_; have HO269 := n1_; clear n0_ n1_; clear ho hb hg hat; obtain ⟨Ao49, co49, eo49⟩ := Kd.R_slice HO269.out; subst eo49) | (go_at_call 17; (with_reducible refine (links_Members.calls _ _ l0 _ _ y267 t270 t273 _ ?side1 ?side2 ?side3 ?side4 A27.out).mono ?_); (case side1 => exact wc_ (Kd.C_below HR0.out HB.out)); (case side2 => exact HC0.out); (case side3 => exact wc_ (Kd.R_reads' HO269.out).2.2); (case side4 => exact (Kd.R_reads' HO269.out).2.1); rintro e w50 ⟨v271, rfl, ho0, hb⟩; have n0_ := A0_ (Rb_ (wR_ HO269.out) hb); have n1_ := A0_ (Kd.V_lower (Kd.V_mono (ok' := fun k_ => some k_ ≠ (.slice Ao49 y267.length co49 : Value).ownBlock) ho0 (fun k_ hk_ => (Kd.fresh' (Kd.R_lt (wR_ HO269.out)) k_ hk_))) (below_size (wb_ HB.out))); have n2_ := A0_ (below_step (wb_ HB.out) hb); clear HO269; clear HB; have HO269 := n0_; have HO272 := n1_; have HB := n2_; clear n0_ n1_ n2_; (try clear hb); (try clear hb2); (try clear hk); (try clear hi); (try clear ho0)) | (go_at_call 15; (with_reducible refine (bindlelaw11_answers.calls  true _ ?side1 A28.out).mono ?_); (case side1 => exact A0_ (Tabs.below hT.out (wb_ HB.out))); rintro e w51 ⟨rfl, hb⟩; have n0_ := A0_ (Rb_ (wR_ HO269.out) hb); have n1_ := A0_ (Vb_ (wV_ HO272.out) hb); have n2_ := A0_ (below_step (wb_ HB.out) hb); clear HO269; clear HO272; clear HB; have HO269 := n0_; have HO272 := n1_; have HB := n2_; clear n0_ n1_ n2_; (try clear hb); (try clear hb2); (try clear hk); (try clear hi))))
      go_ret
      exact ⟨we_, wb_ HB.out⟩
     rw [if_pos c38] at H
     have c38b0 : (t273 == 1) = true := beq_iff_eq.mpr c38
     have c38b1 : (t273 != 1) = false := bne_eq_false_iff_eq.mpr c38
     clear c38
     obtain rfl := Option.some.inj H
     go_wp2_with (first | ((with_reducible refine gate_dst (N := 64) rfl ?_); (try (refine gate_guard (by rfl) ?_; dsimp only)); refine Kd.R_lit Kd.string _ 9 ?hg (N := 64) ?hd (xs := ([] : List ByteArray)) (inner := []) (ok := fun _ => True) (okp := fun _ => True) ?hr ?hp (fun _ hk => hk) trivial (Below.refl _ _) (Nat.le_refl _) (by simp) ?_; (case hd => rfl); (case hg => rfl); (case hr => first | (go_simp; done) | (go_simp; rfl)); (case hp => exact (Reps.none _ _)); intro v265 w39 ho40 hb hg_ hnew_; clear hg_ hnew_; (first | rw [← Ny264.out] at ho40 | (simp only [Int.reduceToNat] at ho40; rw [← Ny264.out] at ho40)); have n0_ := A0_ (Kd.R_lower ho40 (below_size (wb_ HB.out))); have n1_ := A0_ (below_step (wb_ HB.out) hb); clear HB; have HO266 := n0_; have HB := n1_; clear n0_ n1_; clear hb ho40) | ((with_reducible refine gate_builtin (b := .append) (xs := #[.tmp 64, .tmp 65]) rfl ?_); (try (refine gate_guard (by rfl) ?_; dsimp only)); at_builtin; refine Kd.R_append_rows Kd.string (w0 := w) w.heap.size rfl (.tmp 64) (.tmp 65) 26 9 (.string ⟨#[]⟩) 16 rfl Tryd.underlying26 info9 rfl (by decide) (by omega) v265 y264 l1 _ _ _ (fun _ => True) (fun _ => False) rfl rfl ?aO ?aR (fun _ _ h => h) (fun _ h => h.elim) ?aF ?aB ?aS ?aL ?_; (case aR => exact wc_ (Kd.C_below HR1.out HB.out)); (case aB => exact (wb_ HB.out)); (case aF => exact (fun _ _ => trivial)); (case aO => exact (wR_ HO266.out)); (case aS => exact (below_size (wb_ HB.out))); (case aL => have := LMc26.out; omega); intro v268 w41 ho hb hg hat; rw [← Ny267.out] at ho; have n0_ := A0_ (hb); have n1_ := A0_ (ho); clear HB; clear HO266; have HB := n0_; have HO269 := n1_; clear n0_ n1_; clear ho hb hg hat; obtain ⟨Ao42, co42, eo42⟩ := Kd.R_slice HO269.out; subst eo42) | (go_at_call 17; (with_reducible refine (links_Members.calls _ _ l0 _ _ y267 t270 t273 _ ?side1 ?side2 ?side3 ?side4 A27.out).mono ?_); (case side1 => exact wc_ (Kd.C_below HR0.out HB.out)); (case side2 => exact HC0.out); (case side3 => exact wc_ (Kd.R_reads' HO269.out).2.2); (case side4 => exact (Kd.R_reads' HO269.out).2.1); rintro e w43 ⟨v271, rfl, ho0, hb⟩; have n0_ := A0_ (Rb_ (wR_ HO269.out) hb); have n1_ := A0_ (Kd.V_lower (Kd.V_mono (ok' := fun k_ => some k_ ≠ (.slice Ao42 y267.length co42 : Value).ownBlock) ho0 (fun k_ hk_ => (Kd.fresh' (Kd.R_lt (wR_ HO269.out)) k_ hk_))) (below_size (wb_ HB.out))); have n2_ := A0_ (below_step (wb_ HB.out) hb); clear HO269; clear HB; have HO269 := n0_; have HO272 := n1_; have HB := n2_; clear n0_ n1_ n2_; (try clear hb); (try clear hb2); (try clear hk); (try clear hi); (try clear ho0)) | (go_at_call 15; (with_reducible refine (bindlelaw11_answers.calls  true _ ?side1 A28.out).mono ?_); (case side1 => exact A0_ (Tabs.below hT.out (wb_ HB.out))); rintro e w44 ⟨rfl, hb⟩; have n0_ := A0_ (Rb_ (wR_ HO269.out) hb); have n1_ := A0_ (Vb_ (wV_ HO272.out) hb); have n2_ := A0_ (below_step (wb_ HB.out) hb); clear HO269; clear HO272; clear HB; have HO269 := n0_; have HO272 := n1_; have HB := n2_; clear n0_ n1_ n2_; (try clear hb); (try clear hb2); (try clear hk); (try clear hi); obtain ⟨Ao45, co45, eo45⟩ := Kd.V_slice HO272.out; subst eo45))
     repeat (go_quiet (first | ((with_reducible refine gate_dst (N := 64) rfl ?_); (try (refine gate_guard (by rfl) ?_; dsimp only)); refine Kd.R_lit Kd.string _ 9 ?hg (N := 64) ?hd (xs := ([] : List ByteArray)) (inner := []) (ok := fun _ => True) (okp := fun _ => True) ?hr ?hp (fun _ hk => hk) trivial (Below.refl _ _) (Nat.le_refl _) (by simp) ?_; (case hd => rfl); (case hg => rfl); (case hr => first | (go_simp; done) | (go_simp; rfl)); (case hp => exact (Reps.none _ _)); intro v265 w39 ho40 hb hg_ hnew_; clear hg_ hnew_; (first | rw [← Ny264.out] at ho40 | (simp only [Int.reduceToNat] at ho40; rw [← Ny264.out] at ho40)); have n0_ := A0_ (Kd.R_lower ho40 (below_size (wb_ HB.out))); have n1_ := A0_ (below_step (wb_ HB.out) hb); clear HB; have HO266 := n0_; have HB := n1_; clear n0_ n1_; clear hb ho40) | ((with_reducible refine gate_builtin (b := .append) (xs := #[.tmp 64, .tmp 65]) rfl ?_); (try (refine gate_guard (by rfl) ?_; dsimp only)); at_builtin; refine Kd.R_append_rows Kd.string (w0 := w) w.heap.size rfl (.tmp 64) (.tmp 65) 26 9 (.string ⟨#[]⟩) 16 rfl Tryd.underlying26 info9 rfl (by decide) (by omega) v265 y264 l1 _ _ _ (fun _ => True) (fun _ => False) rfl rfl ?aO ?aR (fun _ _ h => h) (fun _ h => h.elim) ?aF ?aB ?aS ?aL ?_; (case aR => exact wc_ (Kd.C_below HR1.out HB.out)); (case aB => exact (wb_ HB.out)); (case aF => exact (fun _ _ => trivial)); (case aO => exact (wR_ HO266.out)); (case aS => exact (below_size (wb_ HB.out))); (case aL => have := LMc26.out; omega); intro v268 w41 ho hb hg hat; rw [← Ny267.out] at ho; have n0_ := A0_ (hb); have n1_ := A0_ (ho); clear HB; clear HO266; have HB := n0_; have HO269 := n1_; clear n0_ n1_; clear ho hb hg hat; obtain ⟨Ao42, co42, eo42⟩ := Kd.R_slice HO269.out; subst eo42) | (go_at_call 17; (with_reducible refine (links_Members.calls _ _ l0 _ _ y267 t270 t273 _ ?side1 ?side2 ?side3 ?side4 A27.out).mono ?_); (case side1 => exact wc_ (Kd.C_below HR0.out HB.out)); (case side2 => exact HC0.out); (case side3 => exact wc_ (Kd.R_reads' HO269.out).2.2); (case side4 => exact (Kd.R_reads' HO269.out).2.1); rintro e w43 ⟨v271, rfl, ho0, hb⟩; have n0_ := A0_ (Rb_ (wR_ HO269.out) hb); have n1_ := A0_ (Kd.V_lower (Kd.V_mono (ok' := fun k_ => some k_ ≠ (.slice Ao42 y267.length co42 : Value).ownBlock) ho0 (fun k_ hk_ => (Kd.fresh' (Kd.R_lt (wR_ HO269.out)) k_ hk_))) (below_size (wb_ HB.out))); have n2_ := A0_ (below_step (wb_ HB.out) hb); clear HO269; clear HB; have HO269 := n0_; have HO272 := n1_; have HB := n2_; clear n0_ n1_ n2_; (try clear hb); (try clear hb2); (try clear hk); (try clear hi); (try clear ho0)) | (go_at_call 15; (with_reducible refine (bindlelaw11_answers.calls  true _ ?side1 A28.out).mono ?_); (case side1 => exact A0_ (Tabs.below hT.out (wb_ HB.out))); rintro e w44 ⟨rfl, hb⟩; have n0_ := A0_ (Rb_ (wR_ HO269.out) hb); have n1_ := A0_ (Vb_ (wV_ HO272.out) hb); have n2_ := A0_ (below_step (wb_ HB.out) hb); clear HO269; clear HO272; clear HB; have HO269 := n0_; have HO272 := n1_; have HB := n2_; clear n0_ n1_ n2_; (try clear hb); (try clear hb2); (try clear hk); (try clear hi); obtain ⟨Ao45, co45, eo45⟩ := Kd.V_slice HO272.out; subst eo45)); try go_wp2_with (first | ((with_reducible refine gate_dst (N := 64) rfl ?_); (try (refine gate_guard (by rfl) ?_; dsimp only)); refine Kd.R_lit Kd.string _ 9 ?hg (N := 64) ?hd (xs := ([] : List ByteArray)) (inner := []) (ok := fun _ => True) (okp := fun _ => True) ?hr ?hp (fun _ hk => hk) trivial (Below.refl _ _) (Nat.le_refl _) (by simp) ?_; (case hd => rfl); (case hg => rfl); (case hr => first | (go_simp; done) | (go_simp; rfl)); (case hp => exact (Reps.none _ _)); intro v265 w39 ho40 hb hg_ hnew_; clear hg_ hnew_; (first | rw [← Ny264.out] at ho40 | (simp only [Int.reduceToNat] at ho40; rw [← Ny264.out] at ho40)); have n0_ := A0_ (Kd.R_lower ho40 (below_size (wb_ HB.out))); have n1_ := A0_ (below_step (wb_ HB.out) hb); clear HB; have HO266 := n0_; have HB := n1_; clear n0_ n1_; clear hb ho40) | ((with_reducible refine gate_builtin (b := .append) (xs := #[.tmp 64, .tmp 65]) rfl ?_); (try (refine gate_guard (by rfl) ?_; dsimp only)); at_builtin; refine Kd.R_append_rows Kd.string (w0 := w) w.heap.size rfl (.tmp 64) (.tmp 65) 26 9 (.string ⟨#[]⟩) 16 rfl Tryd.underlying26 info9 rfl (by decide) (by omega) v265 y264 l1 _ _ _ (fun _ => True) (fun _ => False) rfl rfl ?aO ?aR (fun _ _ h => h) (fun _ h => h.elim) ?aF ?aB ?aS ?aL ?_; (case aR => exact wc_ (Kd.C_below HR1.out HB.out)); (case aB => exact (wb_ HB.out)); (case aF => exact (fun _ _ => trivial)); (case aO => exact (wR_ HO266.out)); (case aS => exact (below_size (wb_ HB.out))); (case aL => have := LMc26.out; omega); intro v268 w41 ho hb hg hat; rw [← Ny267.out] at ho; have n0_ := A0_ (hb); have n1_ := A0_ (ho); clear HB; clear HO266; have HB := n0_; have HO269 := n1_; clear n0_ n1_; clear ho hb hg hat; obtain ⟨Ao42, co42, eo42⟩ := Kd.R_slice HO269.out; subst eo42) | (go_at_call 17; (with_reducible refine (links_Members.calls _ _ l0 _ _ y267 t270 t273 _ ?side1 ?side2 ?side3 ?side4 A27.out).mono ?_); (case side1 => exact wc_ (Kd.C_below HR0.out HB.out)); (case side2 => exact HC0.out); (case side3 => exact wc_ (Kd.R_reads' HO269.out).2.2); (case side4 => exact (Kd.R_reads' HO269.out).2.1); rintro e w43 ⟨v271, rfl, ho0, hb⟩; have n0_ := A0_ (Rb_ (wR_ HO269.out) hb); have n1_ := A0_ (Kd.V_lower (Kd.V_mono (ok' := fun k_ => some k_ ≠ (.slice Ao42 y267.length co42 : Value).ownBlock) ho0 (fun k_ hk_ => (Kd.fresh' (Kd.R_lt (wR_ HO269.out)) k_ hk_))) (below_size (wb_ HB.out))); have n2_ := A0_ (below_step (wb_ HB.out) hb); clear HO269; clear HB; have HO269 := n0_; have HO272 := n1_; have HB := n2_; clear n0_ n1_ n2_; (try clear hb); (try clear hb2); (try clear hk); (try clear hi); (try clear ho0)) | (go_at_call 15; (with_reducible refine (bindlelaw11_answers.calls  true _ ?side1 A28.out).mono ?_); (case side1 => exact A0_ (Tabs.below hT.out (wb_ HB.out))); rintro e w44 ⟨rfl, hb⟩; have n0_ := A0_ (Rb_ (wR_ HO269.out) hb); have n1_ := A0_ (Vb_ (wV_ HO272.out) hb); have n2_ := A0_ (below_step (wb_ HB.out) hb); clear HO269; clear HO272; clear HB; have HO269 := n0_; have HO272 := n1_; have HB := n2_; clear n0_ n1_ n2_; (try clear hb); (try clear hb2); (try clear hk); (try clear hi); obtain ⟨Ao45, co45, eo45⟩ := Kd.V_slice HO272.out; subst eo45)))
     go_ret
     exact ⟨we_, wb_ HB.out⟩
end Go.Proofs.YtfljbidecljlcaaDoor.Print

namespace Go.Proofs.YtfljbidecljlcaaDoor.Print
open Go.RowKit Go.Proofs.YtfljbidecljlcaaDoorW.PrintWords Go.Proofs.YtfljbidecljlcaaDoorW.PrintLast Go.Proofs.YtfljbidecljlcaaDoorW.PrintMore
attribute [local go_sem] max2_int min2_int max_two min_two max_three min_three max_four min_four   -- for this text's walks alone
set_option linter.unusedVariables false
set_option linter.unusedSimpArgs false
end Go.Proofs.YtfljbidecljlcaaDoor.Print

namespace Go.Proofs.YtfljbidecljlcaaDoor
open Go.RowKit Go.Proofs.YtfljbidecljlcaaDoor.Print Go.Proofs.YtfljbidecljlcaaDoorW.PrintWords
theorem answers11 : bindlelaw11_answers.f = some true := by kernel_rfl
end Go.Proofs.YtfljbidecljlcaaDoor

namespace Go.Proofs.YtfljbidecljlcaaDoor
open Go.RowKit Go.Proofs.YtfljbidecljlcaaDoor.Print Go.Proofs.YtfljbidecljlcaaDoorW.PrintWords
set_option linter.unusedVariables false
theorem links_f {l : List Node} (hz : ∀ x ∈ l, NodeZ x) (hl : l.length ≤ 1000000000000) (hg : goodTree l = true) (o : List ByteArray) : links_Members.f l o = some (membersF l o) := by
 unfold links_Members.f
 rw [if_pos ⟨(good_parts hg).1, nodesZ_small hz hl⟩]
theorem order_inner (l : List Node) (o : List ByteArray) (ho : o.length ≤ 1000000000000) (i : Nat) (hi : i < o.length) (hnext : ∀ b, Ev (fun k => bindlelaw11_LinksOrder.l0 k l o b ((i + 1 : Nat) : Int)) true → Ev (fun k => bindlelaw11_LinksOrder.l0 k l o b ((i + 1 : Nat) : Int)) true) {b' : Bool}
  (hfin : Ev (fun k => bindlelaw11_LinksOrder.l0 k l o b' ((i + 1 : Nat) : Int)) true) :
  ∀ (d j : Nat) (b : Bool), j + d = i → b' = (b && (List.range' j d).all (fun t => decide (o.getD t emp ≠ o.getD i emp))) → Ev (fun k => bindlelaw11_LinksOrder.l1 k l o b (i : Int) (j : Int)) true := by
 intro d
 induction d with
 | zero =>
  intro j b hj hb
  have : b' = b := by rw [hb]; simp
  subst this
  exact Ev.step (fun k => by rw [bindlelaw11_LinksOrder.l1, if_neg (by omega), w_succ (by omega)]) hfin
 | succ d ih =>
  intro j b hj hb
  have hjl : j < o.length := by omega
  cases b with
  | false =>
   refine Ev.step (fun k => ?_) (ih (j + 1) false (by omega) (by rw [hb]; simp))
   rw [bindlelaw11_LinksOrder.l1, if_pos (by omega), if_neg (by decide), w_succ (by omega)]
  | true =>
   refine Ev.step (fun k => ?_) (ih (j + 1) (o[j].toList != o[i].toList) (by omega) ?_)
   ·rw [bindlelaw11_LinksOrder.l1, if_pos (by omega), if_pos rfl, if_pos (by omega), if_pos (by omega), if_pos (by omega), if_pos (by omega), rdS_nat o j hjl, rdS_nat o i hi, w_succ (by omega)]
   ·rw [hb, Bool.true_and, List.range'_succ, List.all_cons]
    congr 1
    rw [List.getD_eq_getElem?_getD, List.getD_eq_getElem?_getD, List.getElem?_eq_getElem hjl, List.getElem?_eq_getElem hi]
    rw [Bool.eq_iff_iff, decide_eq_true_iff, bne_iff_ne, ne_eq, ne_eq, ba_iff]
    rfl
def upTo (l : List Node) (o : List ByteArray) (i : Nat) : Prop := o.length = l.length ∧ (∀ p ∈ o.take i, (findF l p).isSome = true) ∧ (o.take i).Nodup
theorem nodup_snoc {α : Type} {l : List α} {a : α} : (l ++ [a]).Nodup ↔ l.Nodup ∧ a ∉ l := by
 rw [List.nodup_append]
 constructor
 ·rintro ⟨h1, _, h3⟩
  exact ⟨h1, fun hm => h3 a hm a (List.mem_singleton.2 rfl) rfl⟩
 ·rintro ⟨h1, h2⟩
  refine ⟨h1, List.nodup_cons.2 ⟨by simp, List.nodup_nil⟩, fun b hb c hc => ?_⟩
  rw [List.mem_singleton] at hc
  rw [hc]
  exact fun e => h2 (e ▸ hb)
theorem upTo_succ {l : List Node} {o : List ByteArray} {i : Nat} (hi : i < o.length) : upTo l o (i + 1) ↔ upTo l o i ∧ (findF l o[i]).isSome = true ∧ o[i] ∉ o.take i := by
 unfold upTo
 rw [List.take_add_one, List.getElem?_eq_getElem hi]
 show _ ∧ (∀ p ∈ o.take i ++ [o[i]], _) ∧ (o.take i ++ [o[i]]).Nodup ↔ _
 rw [nodup_snoc]
 constructor
 ·rintro ⟨h1, h2, h3, h4⟩
  exact ⟨⟨h1, fun p hp => h2 p (List.mem_append_left _ hp), h3⟩, h2 _ (List.mem_append_right _ (List.mem_singleton.2 rfl)), h4⟩
 ·rintro ⟨⟨h1, h2, h3⟩, h4, h5⟩
  refine ⟨h1, fun p hp => ?_, h3, h5⟩
  rcases List.mem_append.1 hp with hp | hp
  ·exact h2 p hp
  ·rw [List.mem_singleton] at hp; rw [hp]; exact h4
theorem range_all (o : List ByteArray) (i : Nat) (hi : i < o.length) : (List.range' 0 i).all (fun t => decide (o.getD t emp ≠ o.getD i emp)) = true ↔ o[i] ∉ o.take i := by
 rw [List.all_eq_true]
 have hoi : o.getD i emp = o[i] := by rw [List.getD_eq_getElem?_getD, List.getElem?_eq_getElem hi]; rfl
 constructor
 ·intro h hm
  obtain ⟨t, ht, he⟩ := List.getElem_of_mem hm
  rw [List.length_take] at ht
  rw [List.getElem_take] at he
  have h2 := of_decide_eq_true (h t (by rw [List.mem_range']; exact ⟨t, by omega, by omega⟩))
  rw [hoi, List.getD_eq_getElem?_getD, List.getElem?_eq_getElem (by omega)] at h2
  exact h2 he
 ·intro h t ht
  rw [List.mem_range'] at ht
  obtain ⟨s, hs, rfl⟩ := ht
  rw [decide_eq_true_iff, hoi, List.getD_eq_getElem?_getD, List.getElem?_eq_getElem (show 0 + 1 * s < o.length by omega)]
  intro he
  exact h (List.mem_take_iff_getElem.2 ⟨0 + 1 * s, by omega, he⟩)
open Classical in
theorem order_outer (l : List Node) (o : List ByteArray) (hz : ∀ x ∈ l, NodeZ x) (h60 : l.length ≤ 60) (hg : goodTree l = true) (ho : o.length ≤ 100) : ∀ (d i : Nat) (b : Bool), i + d = o.length → (b = true ↔ upTo l o i) → Ev (fun k => bindlelaw11_LinksOrder.l0 k l o b (i : Int)) true := by
 intro d
 induction d with
 | zero =>
  intro i b hi hb
  refine Ev.step (f := fun _ => some true) (fun k => ?_) (Ev.now _)
  rw [bindlelaw11_LinksOrder.l0, if_neg (by omega), Option.bind_some, if_pos (by simp; omega), List.nil_append, links_f hz (by omega) hg, Option.bind_some, answers11, Option.bind_some, if_pos rfl]
  have htk : o.take i = o := List.take_of_length_le (by omega)
  cases b with
  | true =>
   have h := hb.1 rfl
   unfold upTo at h
   rw [htk] at h
   have hm := (members_good hg h.1 h.2.1 h.2.2).1
   rw [hm]
   rfl
  | false =>
   have hm : membersF l o = ([], 1) := members_bad (fun h => by
    have := hb.2 (by unfold upTo; rw [htk]; exact h)
    cases this)
   rw [hm]
   rfl
 | succ d ih =>
  intro i b hi hb
  have hil : i < o.length := by omega
  have hfi := rfind_eq l o[i] (by omega)
  refine Ev.step (f := fun k => (bindleref08_Find.f k l o[i]).bind fun bt => (if b = true then (bindlelaw11_LinksOrder.j2 k l o bt.2.2.2.2.2.2.2.2.2 (i : Int)) else (bindlelaw11_LinksOrder.j2 k l o false (i : Int)))) (fun k => by rw [bindlelaw11_LinksOrder.l0, if_pos (by omega), if_pos (by omega), rdS_nat o i hil]) ?_
  refine Ev.bind hfi ?_
  have hsome : (tupN (findF l o[i])).2.2.2.2.2.2.2.2.2 = (findF l o[i]).isSome := by cases findF l o[i] <;> rfl
  have key : ∀ b2, b2 = (b && (findF l o[i]).isSome) → Ev (fun k => bindlelaw11_LinksOrder.j2 k l o b2 (i : Int)) true := by
   intro b2 hb2
   have hfin := ih (i + 1) (b2 && (List.range' 0 i).all (fun t => decide (o.getD t emp ≠ o.getD i emp))) (by omega) (by
    rw [upTo_succ hil, Bool.and_eq_true, range_all o i hil, hb2, Bool.and_eq_true, hb, and_assoc])
   exact Ev.step (fun k => by rw [bindlelaw11_LinksOrder.j2]; rfl) (order_inner l o (by omega) i hil (fun _ h => h) hfin i 0 b2 (by omega) rfl)
  cases b with
  | true => exact Ev.congr (fun k => by rw [if_pos rfl, hsome]) (key _ (by rw [Bool.true_and]))
  | false => exact Ev.congr (fun k => by rw [if_neg (by decide)]) (key false (by rw [Bool.false_and]))
theorem LinksOrder_true (l : List Node) (o : List ByteArray) (hz : ∀ x ∈ l, NodeZ x) (hlen : l.length ≤ 140737488351232) : Ev (fun k => bindlelaw11_LinksOrder.f k l o) true := by
 obtain ⟨b, h1, h2⟩ := light11 l hz hlen
 have hj : Ev (fun k => bindlelaw11_LinksOrder.j0 k l o true) true := Ev.step (f := fun _ => some true) (fun k => by rw [bindlelaw11_LinksOrder.j0, if_pos rfl, answers11]; rfl) (Ev.now _)
 unfold bindlelaw11_LinksOrder.f
 refine Ev.bind h1 ?_
 cases b with
 | false => exact Ev.congr (fun k => by rw [if_neg (by decide)]) hj
 | true =>
  obtain ⟨h60, hg⟩ := h2 rfl
  by_cases h100 : (o.length : Int) > 100
  ·exact Ev.congr (fun k => by rw [if_pos rfl, decide_eq_true h100]) hj
  ·refine Ev.congr (fun k => by rw [if_pos rfl, decide_eq_false h100]) ?_
   refine Ev.step (fun k => by rw [bindlelaw11_LinksOrder.j0, if_neg (by decide)]; rfl) (order_outer l o hz h60 hg (by omega) o.length 0 ((o.length : Int) == (l.length : Int)) (by omega) ?_)
   unfold upTo
   rw [List.take_zero]
   simp
   omega
end Go.Proofs.YtfljbidecljlcaaDoor

namespace Go.Proofs.YtfljbidecljlcaaDoor
open Go.RowKit Go.Lib Go.Proofs.YtfljbidecljlcaaDoorW.PrintWords
theorem laidOut : laidOutB Tryd.prog = true := by kernel_rfl
end Go.Proofs.YtfljbidecljlcaaDoor

namespace Go.Proofs.YtfljbidecljlcaaDoor
open Go.ChangeShapes Go.WideShapes Go.RowKit Go.Proofs.YtfljbidecljlcaaDoorW.PrintWords
structure Opens {α : Type} (P : Program) (d : Kd α) (t : TypeId) (B : α → Prop) : Prop where
 sz : P.cellsOf t = d.sz
 get : ∀ {H : Type} {enc : TypeId × Value → H} {W : World} {fuel : Nat} {cs : List Value} {x : DataW H × List MemPlace},
  DataW.trod enc P W 0 (fun _ => true) true fuel t cs = some x → (∀ n ∈ x.1.weights P t, n ≤ reachBytes) → ∃ a, d.K W a cs ∧ B a
theorem Opens.int {P : Program} {t : TypeId} {k : IntKind} (ht : P.underlying t = some (.int k)) (hc : P.cellsOf t = 1) : Opens P (Kd.int k) t (fun n => (Lit.int k n).wf = true) :=
 ⟨hc, fun h _ => by
  obtain ⟨n, rfl, rfl, hw⟩ := DataW.trod_int ht h
  exact ⟨n, rfl, hw⟩⟩
theorem Opens.bool {P : Program} {t : TypeId} (ht : P.underlying t = some .bool) (hc : P.cellsOf t = 1) : Opens P Kd.bool t (fun _ => True) :=
 ⟨hc, fun h _ => by
  obtain ⟨n, rfl, rfl⟩ := DataW.trod_bool ht h
  exact ⟨n, rfl, trivial⟩⟩
theorem Opens.string {P : Program} {t : TypeId} (ht : P.underlying t = some .string) (hc : P.cellsOf t = 1) : Opens P Kd.string t (fun s => s.size ≤ 140737488351232) :=
 ⟨hc, fun h hw => by
  obtain ⟨s, rfl, rfl, _⟩ := DataW.trod_string ht h
  refine ⟨s, rfl, ?_⟩
  have := hw s.data.toList.length (by simp [DataW.weights])
  have e : s.data.toList.length = s.size := by simp
  rw [e] at this
  exact this⟩
theorem each_list {α : Type} {Q : Nat → α → Prop} : ∀ n : Nat, (∀ i, i < n → ∃ x, Q i x) → ∃ xs : List α, xs.length = n ∧ ∀ i x, xs[i]? = some x → Q i x := by
 intro n
 induction n with
 | zero => exact fun _ => ⟨[], rfl, fun i x h => by simp at h⟩
 | succ n ih =>
  intro h
  obtain ⟨xs, hl, hx⟩ := ih (fun i hi => h i (by omega))
  obtain ⟨y, hy⟩ := h n (by omega)
  refine ⟨xs ++ [y], by simp [hl], fun i x hi => ?_⟩
  rcases Nat.lt_or_ge i n with h1 | h1
  ·rw [List.getElem?_append_left (by omega)] at hi
   exact hx i x hi
  ·rw [List.getElem?_append_right (by omega)] at hi
   have h0 : i - xs.length = 0 := by
    have := (List.getElem?_eq_some_iff.1 hi).1
    simp at this
    omega
   rw [h0] at hi
   simp at hi
   subst hi
   obtain rfl : i = n := by omega
   exact hy
theorem weights_all {H : Type} {P : Program} {e : TypeId} : ∀ {l : List (DataW H)} {y : DataW H}, y ∈ l → ∀ n ∈ y.weights P e, n ∈ DataW.weightsAll P e l
 | z :: r, y, hy, n, hn => by
  simp only [DataW.weightsAll, List.mem_append]
  rcases List.mem_cons.1 hy with rfl | hy
  ·exact .inl hn
  ·exact .inr (weights_all hy n hn)
theorem add_add (a : Addr) (x y : Nat) : (a.add x).add y = a.add (x + y) := by
 unfold Addr.add
 split
 ·rename_i h
  subst h
  simp
 ·rename_i h
  split
  ·rename_i h2
   subst h2
   simp [h]
  ·rw [if_neg (by omega)]
   simp [Nat.add_assoc]
theorem Opens.slice {α : Type} {P : Program} {d : Kd α} {B : α → Prop} {t e : TypeId} (ht : P.underlying t = some (.slice e)) (hc : P.cellsOf t = 1) (h : Opens P d e B) :
  Opens P (Kd.slice e d) t (fun xs => xs.length * P.bytesOf e ≤ 140737488351232 ∧ ∀ x ∈ xs, B x) :=
 ⟨hc, fun {H enc W fuel cs x} hf hw => by
  rcases DataW.trod_slice ht hf with ⟨rfl, rfl⟩ | ⟨a, len, cap, elems, rest, n, _, rfl, rfl, hb, hl, hm, hlen, hel, hsp, hns⟩
  ·exact ⟨[], ⟨none, 0, rfl, Nat.le_refl _, Kd.C_nil d W⟩, by simp, fun x hx => by cases hx⟩
  ·simp only [DataW.weights, ht] at hw
   have each : ∀ i, i < len → ∃ z : α, B z ∧ ∃ c, c.length = d.sz ∧ d.K W z c ∧ ∀ j u, c[j]? = some u → W.cell? (a.add (i * d.sz + j)) = some u := by
    intro i hi
    have h1 := hel i hi
    have hi' : i < elems.length := by omega
    rw [List.getElem?_eq_getElem hi', Option.bind_eq_some_iff] at h1
    obtain ⟨c, hcs, hy⟩ := h1
    obtain ⟨-, h2, h3⟩ := World.cells?_some hcs
    obtain ⟨z, hz, hB⟩ := h.get hy (fun n hn => hw n (by
     simp only [List.mem_cons, List.mem_append]
     exact .inr (.inl (weights_all (List.mem_map.2 ⟨_, List.getElem_mem hi', rfl⟩) n hn))))
    refine ⟨z, hB, c, by rw [h2, h.sz], hz, fun j u hj => ?_⟩
    have hj' : j < P.cellsOf e := by
     have := (List.getElem?_eq_some_iff.1 hj).1
     omega
    have h4 := h3 j hj'
    rw [add_add, h.sz] at h4
    rw [h4, hj]
   obtain ⟨xs, hxl, hxs⟩ := each_list len each
   subst hxl
   have hz := hw _ (List.mem_cons_self ..)
   simp only [List.length_map] at hz
   have h5 : xs.length * P.bytesOf e ≤ (elems.length + rest.length) * P.bytesOf e := Nat.mul_le_mul_right _ (by omega)
   have h6 : reachBytes = 140737488351232 := rfl
   refine ⟨xs, ⟨some a, cap, rfl, hl, rfl, ?_, fun _ => ⟨a, rfl, fun j p hj => (hxs j p hj).2⟩⟩, by omega, fun x hx => ?_⟩
   ·have : maxLen = 9223372036854775807 := rfl
    omega
   ·obtain ⟨i, hi⟩ := List.getElem?_of_mem hx
    exact (hxs i x hi).1⟩
structure OpensF {α : Type} (P : Program) (d : Kd α) (fs : List Field) (o : Nat) (B : α → Prop) : Prop where
 get : ∀ {H : Type} {enc : TypeId × Value → H} {W : World} {n : Nat} {cs : List Value} {xs : List (DataW H × List MemPlace)}, xs.length = fs.length →
  (∀ (i : Nat) (f : Field), fs[i]? = some f → DataW.trod enc P W 0 (fun _ => true) true n f.type ((cs.drop f.offset).take (P.cellsOf f.type)) = xs[i]?) →
  (∀ m ∈ DataW.weightsEach P (fs.map (·.type)) (xs.map (·.1)), m ≤ reachBytes) → ∃ a, d.K W a ((cs.drop o).take d.sz) ∧ B a
theorem OpensF.one {α : Type} {P : Program} {d : Kd α} {B : α → Prop} {f : Field} {o : Nat} (ho : f.offset = o) (h : Opens P d f.type B) : OpensF P d [f] o B := by
 refine ⟨fun {H enc W n cs xs} hl hx hw => ?_⟩
 match xs, hl with
 | [x], _ =>
  have h0 := hx 0 f rfl
  rw [h.sz, ho] at h0
  simp only [List.getElem?_cons_zero] at h0
  exact h.get h0 (fun m hm => hw m (by simp only [List.map_cons, List.map_nil, DataW.weightsEach, List.mem_append]; exact .inl hm))
theorem OpensF.cons {α β : Type} {P : Program} {d : Kd α} {d' : Kd β} {B : α → Prop} {B' : β → Prop} {f : Field} {fs : List Field} {o : Nat} (ho : f.offset = o) (h : Opens P d f.type B) (h' : OpensF P d' fs (o + d.sz) B') :
  OpensF P (Kd.pair d d') (f :: fs) o (fun x => B x.1 ∧ B' x.2) := by
 refine ⟨fun {H enc W n cs xs} hl hx hw => ?_⟩
 match xs, hl with
 | x :: xs, hl =>
  have h0 := hx 0 f rfl
  rw [h.sz, ho] at h0
  simp only [List.getElem?_cons_zero] at h0
  obtain ⟨a, ha, hB⟩ := h.get h0 (fun m hm => hw m (by simp only [List.map_cons, DataW.weightsEach, List.mem_append]; exact .inl hm))
  obtain ⟨b, hb, hB'⟩ := h'.get (enc := enc) (W := W) (n := n) (cs := cs) (xs := xs) (by simpa using hl) (fun i g hg => by have := hx (i + 1) g (by simpa using hg); simpa using this)
   (fun m hm => hw m (by simp only [List.map_cons, DataW.weightsEach, List.mem_append]; exact .inr hm))
  refine ⟨(a, b), ⟨_, _, ?_, ha, hb⟩, hB, hB'⟩
  show (cs.drop o).take (d.sz + d'.sz) = _
  rw [List.take_add, List.drop_drop]
theorem Opens.struct {α β : Type} {P : Program} {d : Kd α} {B : α → Prop} {t : TypeId} {fs : Array Field} (ht : P.underlying t = some (.struct fs)) (hc : P.cellsOf t = d.sz) (h : OpensF P d fs.toList 0 B) (f : β → α) (g : α → β) (hg : ∀ a, f (g a) = a) :
  Opens P (Kd.iso d f) t (fun x => B (f x)) :=
 ⟨hc, fun {H enc W fuel cs x} hf hw => by
  obtain ⟨xs, n, _, rfl, hl, hlen, hx⟩ := DataW.trod_struct ht hf
  simp only [DataW.weights, ht] at hw
  obtain ⟨a, ha, hB⟩ := h.get (enc := enc) (W := W) (n := n) (cs := cs) (xs := xs) (by simpa using hlen) (fun i g hg => hx i g (by simpa using hg)) hw
  refine ⟨g a, ?_, by rw [hg]; exact hB⟩
  show d.K W (f (g a)) cs
  rw [hg]
  rw [List.drop_zero, List.take_of_length_le (by omega)] at ha
  exact ha⟩
theorem Opens.imp {α : Type} {P : Program} {d : Kd α} {t : TypeId} {B B' : α → Prop} (h : Opens P d t B) (hB : ∀ a, B a → B' a) : Opens P d t B' :=
 ⟨h.sz, fun hf hw => by obtain ⟨a, ha, hb⟩ := h.get hf hw; exact ⟨a, ha, hB a hb⟩⟩
theorem Opens.param {α : Type} {P : Program} {d : Kd α} {t : TypeId} {B : α → Prop} (h : Opens P d t B) {H : Type} {enc : TypeId × Value → H} {W : World} {v : Value} {x : DataW H} {p : List MemPlace} {ts : List TypeId} {ds : List (DataW H)} {j : Nat}
  (hsz : (DataW.weightsEach P ts ds).all (· ≤ reachBytes) = true) (hj : ts[j]? = some t) (hd : ds[j]? = some x) (ht : DataW.Trod enc P W 0 (fun _ => true) true t v x p) : ∃ a, d.K W a v.cells.toList ∧ B a := by
 obtain ⟨fuel, hf⟩ := ht
 exact h.get hf (fun n hn => by simpa using List.all_eq_true.1 hsz _ (DataW.weights_mem_each hj hd n hn))
theorem Opens.row {α : Type} {P : Program} {d : Kd α} {t e : TypeId} {B : List α → Prop} (h : Opens P (Kd.slice e d) t B) {H : Type} {enc : TypeId × Value → H} {W : World} {A : Option Addr} {n c : Nat} {x : DataW H} {p : List MemPlace} {ts : List TypeId} {ds : List (DataW H)} {j : Nat}
  (hsz : (DataW.weightsEach P ts ds).all (· ≤ reachBytes) = true) (hj : ts[j]? = some t) (hd : ds[j]? = some x) (ht : DataW.Trod enc P W 0 (fun _ => true) true t (.slice A n c) x p) :
  ∃ xs : List α, xs.length = n ∧ d.C W A n xs ∧ n ≤ c ∧ B xs := by
 obtain ⟨xs, ⟨A', c', he, hl, hC⟩, hB⟩ := h.param hsz hj hd ht
 simp [Value.cells] at he
 obtain ⟨rfl, rfl, rfl⟩ := he
 exact ⟨xs, rfl, hC, hl, hB⟩
end Go.Proofs.YtfljbidecljlcaaDoor

namespace Go.Proofs.YtfljbidecljlcaaDoor
open Go.RowKit Go.Proofs.YtfljbidecljlcaaDoor.Print Go.Proofs.YtfljbidecljlcaaDoorW.PrintWords
theorem o_str : Opens Tryd.prog Kd.string 9 (fun s => s.size ≤ 140737488351232) := Opens.string Tryd.underlying9 (by kernel_rfl)
theorem o_u8 : Opens Tryd.prog (Kd.int .u8) 5 (fun n => (Lit.int .u8 n).wf = true) := Opens.int Tryd.underlying5 (by kernel_rfl)
theorem o_int : Opens Tryd.prog (Kd.int .i64) 3 (fun n => (Lit.int .i64 n).wf = true) := Opens.int Tryd.underlying3 (by kernel_rfl)
theorem o_bytes : Opens Tryd.prog (Kd.slice 5 (Kd.int .u8)) 23 (fun xs => xs.length ≤ 140737488351232) :=
 (Opens.slice Tryd.underlying23 (by kernel_rfl) o_u8).imp (fun xs h => by
  have hb : Tryd.prog.bytesOf 5 = 1 := by kernel_rfl
  have h1 := h.1
  rw [hb] at h1
  omega)
theorem o_meta : Opens Tryd.prog k38 38 (fun _ => True) := by
 have h := Opens.struct Tryd.underlying38 (by kernel_rfl) (OpensF.cons rfl o_int (OpensF.cons rfl o_int (OpensF.cons rfl o_int (OpensF.one rfl o_int)))) (fun x : S38 => (x.f0, x.f1, x.f2, x.f3)) (fun p => ⟨p.1, p.2.1, p.2.2.1, p.2.2.2⟩) (fun _ => rfl)
 exact Opens.imp h (fun _ _ => trivial)
theorem o_node : Opens Tryd.prog k40 40 NodeZ := by
 have h := Opens.struct Tryd.underlying40 (by kernel_rfl) (OpensF.cons rfl o_str (OpensF.cons rfl o_str (OpensF.cons rfl o_str (OpensF.cons rfl o_u8 (OpensF.cons rfl o_meta (OpensF.one rfl o_bytes)))))) (fun x : S40 => (x.f0, x.f1, x.f2, x.f3, x.f4, x.f5)) (fun p => ⟨p.1, p.2.1, p.2.2.1, p.2.2.2.1, p.2.2.2.2.1, p.2.2.2.2.2⟩) (fun _ => rfl)
 exact Opens.imp h (fun _ hx => ⟨hx.1, hx.2.1, hx.2.2.1, hx.2.2.2.2.2⟩)
theorem o_nodes : Opens Tryd.prog (Kd.slice 40 k40) 22 (fun xs => (∀ x ∈ xs, NodeZ x) ∧ xs.length ≤ 140737488351232) :=
 (Opens.slice Tryd.underlying22 (by kernel_rfl) o_node).imp (fun xs h => ⟨h.2, by
  have hb : Tryd.prog.bytesOf 40 = 112 := by kernel_rfl
  have h1 := h.1
  rw [hb] at h1
  omega⟩)
theorem o_strs : Opens Tryd.prog (Kd.slice 9 Kd.string) 26 (fun xs => (∀ x ∈ xs, x.size ≤ 140737488351232) ∧ xs.length ≤ 140737488351232) :=
 (Opens.slice Tryd.underlying26 (by kernel_rfl) o_str).imp (fun xs h => ⟨h.2, by
  have hb : Tryd.prog.bytesOf 9 = 16 := by kernel_rfl
  have h1 := h.1
  rw [hb] at h1
  omega⟩)
end Go.Proofs.YtfljbidecljlcaaDoor
