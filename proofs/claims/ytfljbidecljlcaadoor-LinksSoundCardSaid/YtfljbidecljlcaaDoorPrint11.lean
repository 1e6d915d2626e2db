-- PRINTED by wip/hprint.py, this project's driver over the kit's print (hand contracts beside it). Not trusted: Lean checks it.
import Derived.Test.YtfljbidecljlcaaDoorPrint0
namespace Go.Proofs.YtfljbidecljlcaaDoor.Print
open Go.RowKit Go.Proofs.YtfljbidecljlcaaDoorW.PrintWords Go.Proofs.YtfljbidecljlcaaDoorW.PrintLast Go.Proofs.YtfljbidecljlcaaDoorW.PrintMore
attribute [local go_sem] max2_int min2_int max_two min_two max_three min_three max_four min_four   -- for this text's walks alone
set_option linter.unusedVariables false
set_option linter.unusedSimpArgs false

/-! ### bindleref01_Text: function 70 -/
mutual
def bindleref01_Text.l0 : Nat → ByteArray → Int → Option (Bool)
  | 0, _, _ => none
  | k + 1, x0, x3 => if x3 < (x0.size : Int) then (if 0 ≤ x3 then (if (wrap64 (bt x0 x3)) = 0 then (some false) else (if (wrap64 (bt x0 x3)) < 128 then (bindleref01_Text.j3 k x0 x3 (wrap64 (bt x0 x3)) 1) else (if (wrap64 (bt x0 x3)) ≥ 194 then (bindleref01_Text.j1 k x0 x3 (wrap64 (bt x0 x3)) (decide ((wrap64 (bt x0 x3)) < 224))) else (bindleref01_Text.j1 k x0 x3 (wrap64 (bt x0 x3)) false)))) else (none)) else (some true)
def bindleref01_Text.j3 : Nat → ByteArray → Int → Int → Int → Option (Bool)
  | 0, _, _, _, _ => none
  | k + 1, x0, x3, x4, x5 => if (wrap64 ((x0.size : Int) - x3)) < x5 then (some false) else (bindleref01_Text.l1 k x0 x3 x4 x5 1)
def bindleref01_Text.l1 : Nat → ByteArray → Int → Int → Int → Int → Option (Bool)
  | 0, _, _, _, _, _ => none
  | k + 1, x0, x3, x4, x5, x6 => if x6 < x5 then (if 0 ≤ (wrap64 (x3 + x6)) then (if (wrap64 (x3 + x6)) < (x0.size : Int) then (if (bt x0 (wrap64 (x3 + x6))) < 128 then (some false) else (if (bt x0 (wrap64 (x3 + x6))) > 191 then (some false) else (bindleref01_Text.l1 k x0 x3 x4 x5 (wrap64 (x6 + 1))))) else (none)) else (none)) else (if x5 = 3 then (if x4 = 224 then (if 0 ≤ (wrap64 (x3 + 1)) then (if (wrap64 (x3 + 1)) < (x0.size : Int) then (if (bt x0 (wrap64 (x3 + 1))) < 160 then (some false) else (if x4 = 237 then (if (bt x0 (wrap64 (x3 + 1))) > 159 then (some false) else (if x5 = 4 then (if x4 = 240 then (if (bt x0 (wrap64 (x3 + 1))) < 144 then (some false) else (if x4 = 244 then (if (bt x0 (wrap64 (x3 + 1))) > 143 then (some false) else (bindleref01_Text.l0 k x0 (wrap64 (x3 + x5)))) else (bindleref01_Text.l0 k x0 (wrap64 (x3 + x5))))) else (if x4 = 244 then (if (bt x0 (wrap64 (x3 + 1))) > 143 then (some false) else (bindleref01_Text.l0 k x0 (wrap64 (x3 + x5)))) else (bindleref01_Text.l0 k x0 (wrap64 (x3 + x5))))) else (bindleref01_Text.l0 k x0 (wrap64 (x3 + x5))))) else (if x5 = 4 then (if x4 = 240 then (if (bt x0 (wrap64 (x3 + 1))) < 144 then (some false) else (if x4 = 244 then (if (bt x0 (wrap64 (x3 + 1))) > 143 then (some false) else (bindleref01_Text.l0 k x0 (wrap64 (x3 + x5)))) else (bindleref01_Text.l0 k x0 (wrap64 (x3 + x5))))) else (if x4 = 244 then (if (bt x0 (wrap64 (x3 + 1))) > 143 then (some false) else (bindleref01_Text.l0 k x0 (wrap64 (x3 + x5)))) else (bindleref01_Text.l0 k x0 (wrap64 (x3 + x5))))) else (bindleref01_Text.l0 k x0 (wrap64 (x3 + x5)))))) else (none)) else (none)) else (if x4 = 237 then (if 0 ≤ (wrap64 (x3 + 1)) then (if (wrap64 (x3 + 1)) < (x0.size : Int) then (if (bt x0 (wrap64 (x3 + 1))) > 159 then (some false) else (if x5 = 4 then (if x4 = 240 then (if (bt x0 (wrap64 (x3 + 1))) < 144 then (some false) else (if x4 = 244 then (if (bt x0 (wrap64 (x3 + 1))) > 143 then (some false) else (bindleref01_Text.l0 k x0 (wrap64 (x3 + x5)))) else (bindleref01_Text.l0 k x0 (wrap64 (x3 + x5))))) else (if x4 = 244 then (if (bt x0 (wrap64 (x3 + 1))) > 143 then (some false) else (bindleref01_Text.l0 k x0 (wrap64 (x3 + x5)))) else (bindleref01_Text.l0 k x0 (wrap64 (x3 + x5))))) else (bindleref01_Text.l0 k x0 (wrap64 (x3 + x5))))) else (none)) else (none)) else (if x5 = 4 then (if x4 = 240 then (if 0 ≤ (wrap64 (x3 + 1)) then (if (wrap64 (x3 + 1)) < (x0.size : Int) then (if (bt x0 (wrap64 (x3 + 1))) < 144 then (some false) else (if x4 = 244 then (if (bt x0 (wrap64 (x3 + 1))) > 143 then (some false) else (bindleref01_Text.l0 k x0 (wrap64 (x3 + x5)))) else (bindleref01_Text.l0 k x0 (wrap64 (x3 + x5))))) else (none)) else (none)) else (if x4 = 244 then (if 0 ≤ (wrap64 (x3 + 1)) then (if (wrap64 (x3 + 1)) < (x0.size : Int) then (if (bt x0 (wrap64 (x3 + 1))) > 143 then (some false) else (bindleref01_Text.l0 k x0 (wrap64 (x3 + x5)))) else (none)) else (none)) else (bindleref01_Text.l0 k x0 (wrap64 (x3 + x5))))) else (bindleref01_Text.l0 k x0 (wrap64 (x3 + x5)))))) else (if x5 = 4 then (if x4 = 240 then (if 0 ≤ (wrap64 (x3 + 1)) then (if (wrap64 (x3 + 1)) < (x0.size : Int) then (if (bt x0 (wrap64 (x3 + 1))) < 144 then (some false) else (if x4 = 244 then (if (bt x0 (wrap64 (x3 + 1))) > 143 then (some false) else (bindleref01_Text.l0 k x0 (wrap64 (x3 + x5)))) else (bindleref01_Text.l0 k x0 (wrap64 (x3 + x5))))) else (none)) else (none)) else (if x4 = 244 then (if 0 ≤ (wrap64 (x3 + 1)) then (if (wrap64 (x3 + 1)) < (x0.size : Int) then (if (bt x0 (wrap64 (x3 + 1))) > 143 then (some false) else (bindleref01_Text.l0 k x0 (wrap64 (x3 + x5)))) else (none)) else (none)) else (bindleref01_Text.l0 k x0 (wrap64 (x3 + x5))))) else (bindleref01_Text.l0 k x0 (wrap64 (x3 + x5)))))
def bindleref01_Text.j1 : Nat → ByteArray → Int → Int → Bool → Option (Bool)
  | 0, _, _, _, _ => none
  | k + 1, x0, x3, x4, x21 => if x21 = true then (bindleref01_Text.j3 k x0 x3 x4 2) else (if x4 ≥ 224 then (bindleref01_Text.j2 k x0 x3 x4 (decide (x4 < 240))) else (bindleref01_Text.j2 k x0 x3 x4 false))
def bindleref01_Text.j2 : Nat → ByteArray → Int → Int → Bool → Option (Bool)
  | 0, _, _, _, _ => none
  | k + 1, x0, x3, x4, x28 => if x28 = true then (bindleref01_Text.j3 k x0 x3 x4 3) else (if x4 ≥ 240 then (if x4 < 245 then (bindleref01_Text.j3 k x0 x3 x4 4) else (some false)) else (some false))
end
def bindleref01_Text.f (k : Nat) (a0 : ByteArray) : Option (Bool) := bindleref01_Text.l0 k a0 0
theorem bindleref01_Text.mono_l : ∀ k, (∀ y0 y1, LeO (bindleref01_Text.l0 k y0 y1) (bindleref01_Text.l0 (k + 1) y0 y1)) ∧ (∀ y0 y1 y2 y3, LeO (bindleref01_Text.j3 k y0 y1 y2 y3) (bindleref01_Text.j3 (k + 1) y0 y1 y2 y3)) ∧ (∀ y0 y1 y2 y3 y4, LeO (bindleref01_Text.l1 k y0 y1 y2 y3 y4) (bindleref01_Text.l1 (k + 1) y0 y1 y2 y3 y4)) ∧ (∀ y0 y1 y2 y3, LeO (bindleref01_Text.j1 k y0 y1 y2 y3) (bindleref01_Text.j1 (k + 1) y0 y1 y2 y3)) ∧ (∀ y0 y1 y2 y3, LeO (bindleref01_Text.j2 k y0 y1 y2 y3) (bindleref01_Text.j2 (k + 1) y0 y1 y2 y3))
  | 0 => ⟨fun _ _ r h => by simp [bindleref01_Text.l0] at h, fun _ _ _ _ r h => by simp [bindleref01_Text.j3] at h, fun _ _ _ _ _ r h => by simp [bindleref01_Text.l1] at h, fun _ _ _ _ r h => by simp [bindleref01_Text.j1] at h, fun _ _ _ _ r h => by simp [bindleref01_Text.j2] at h⟩
  | k + 1 => by
    obtain ⟨ih0, ih1, ih2, ih3, ih4⟩ := bindleref01_Text.mono_l k
    refine ⟨?_, ?_, ?_, ?_, ?_⟩
    · intro y0 y1
      unfold bindleref01_Text.l0
      repeat' first
      | (with_reducible exact ih0 _ _)
      | (with_reducible exact ih1 _ _ _ _)
      | (with_reducible exact ih2 _ _ _ _ _)
      | (with_reducible exact ih3 _ _ _ _)
      | (with_reducible exact ih4 _ _ _ _)
      | (with_reducible exact LeO.refl _)
      | (with_reducible exact LeO.none _)
      | (with_reducible refine LeO.ite ?_ ?_)
      | (with_reducible refine LeO.bind ?_ (fun _ => ?_))
      | exact ih0 _ _
      | exact ih1 _ _ _ _
      | exact ih2 _ _ _ _ _
      | exact ih3 _ _ _ _
      | exact ih4 _ _ _ _
      | exact LeO.none _
      | refine LeO.ite ?_ ?_
      | refine LeO.bind ?_ (fun _ => ?_)
    · intro y0 y1 y2 y3
      unfold bindleref01_Text.j3
      repeat' first
      | (with_reducible exact ih0 _ _)
      | (with_reducible exact ih1 _ _ _ _)
      | (with_reducible exact ih2 _ _ _ _ _)
      | (with_reducible exact ih3 _ _ _ _)
      | (with_reducible exact ih4 _ _ _ _)
      | (with_reducible exact LeO.refl _)
      | (with_reducible exact LeO.none _)
      | (with_reducible refine LeO.ite ?_ ?_)
      | (with_reducible refine LeO.bind ?_ (fun _ => ?_))
      | exact ih0 _ _
      | exact ih1 _ _ _ _
      | exact ih2 _ _ _ _ _
      | exact ih3 _ _ _ _
      | exact ih4 _ _ _ _
      | exact LeO.none _
      | refine LeO.ite ?_ ?_
      | refine LeO.bind ?_ (fun _ => ?_)
    · intro y0 y1 y2 y3 y4
      unfold bindleref01_Text.l1
      repeat' first
      | (with_reducible exact ih0 _ _)
      | (with_reducible exact ih1 _ _ _ _)
      | (with_reducible exact ih2 _ _ _ _ _)
      | (with_reducible exact ih3 _ _ _ _)
      | (with_reducible exact ih4 _ _ _ _)
      | (with_reducible exact LeO.refl _)
      | (with_reducible exact LeO.none _)
      | (with_reducible refine LeO.ite ?_ ?_)
      | (with_reducible refine LeO.bind ?_ (fun _ => ?_))
      | exact ih0 _ _
      | exact ih1 _ _ _ _
      | exact ih2 _ _ _ _ _
      | exact ih3 _ _ _ _
      | exact ih4 _ _ _ _
      | exact LeO.none _
      | refine LeO.ite ?_ ?_
      | refine LeO.bind ?_ (fun _ => ?_)
    · intro y0 y1 y2 y3
      unfold bindleref01_Text.j1
      repeat' first
      | (with_reducible exact ih0 _ _)
      | (with_reducible exact ih1 _ _ _ _)
      | (with_reducible exact ih2 _ _ _ _ _)
      | (with_reducible exact ih3 _ _ _ _)
      | (with_reducible exact ih4 _ _ _ _)
      | (with_reducible exact LeO.refl _)
      | (with_reducible exact LeO.none _)
      | (with_reducible refine LeO.ite ?_ ?_)
      | (with_reducible refine LeO.bind ?_ (fun _ => ?_))
      | exact ih0 _ _
      | exact ih1 _ _ _ _
      | exact ih2 _ _ _ _ _
      | exact ih3 _ _ _ _
      | exact ih4 _ _ _ _
      | exact LeO.none _
      | refine LeO.ite ?_ ?_
      | refine LeO.bind ?_ (fun _ => ?_)
    · intro y0 y1 y2 y3
      unfold bindleref01_Text.j2
      repeat' first
      | (with_reducible exact ih0 _ _)
      | (with_reducible exact ih1 _ _ _ _)
      | (with_reducible exact ih2 _ _ _ _ _)
      | (with_reducible exact ih3 _ _ _ _)
      | (with_reducible exact ih4 _ _ _ _)
      | (with_reducible exact LeO.refl _)
      | (with_reducible exact LeO.none _)
      | (with_reducible refine LeO.ite ?_ ?_)
      | (with_reducible refine LeO.bind ?_ (fun _ => ?_))
      | exact ih0 _ _
      | exact ih1 _ _ _ _
      | exact ih2 _ _ _ _ _
      | exact ih3 _ _ _ _
      | exact ih4 _ _ _ _
      | exact LeO.none _
      | refine LeO.ite ?_ ?_
      | refine LeO.bind ?_ (fun _ => ?_)
theorem bindleref01_Text.mono : ∀ a0 k, LeO (bindleref01_Text.f k a0) (bindleref01_Text.f (k + 1) a0) := by
  intro a0 k
  obtain ⟨ih0, ih1, ih2, ih3, ih4⟩ := bindleref01_Text.mono_l k
  unfold bindleref01_Text.f
  repeat' first
      | (with_reducible exact ih0 _ _)
      | (with_reducible exact ih1 _ _ _ _)
      | (with_reducible exact ih2 _ _ _ _ _)
      | (with_reducible exact ih3 _ _ _ _)
      | (with_reducible exact ih4 _ _ _ _)
      | (with_reducible exact LeO.refl _)
      | (with_reducible exact LeO.none _)
      | (with_reducible refine LeO.ite ?_ ?_)
      | (with_reducible refine LeO.bind ?_ (fun _ => ?_))
      | exact ih0 _ _
      | exact ih1 _ _ _ _
      | exact ih2 _ _ _ _ _
      | exact ih3 _ _ _ _
      | exact ih4 _ _ _ _
      | exact LeO.none _
      | refine LeO.ite ?_ ?_
      | refine LeO.bind ?_ (fun _ => ?_)
set_option maxHeartbeats 8000000 in
set_option maxRecDepth 100000 in
theorem bindleref01_Text.calls (k : Nat) (a0 : ByteArray) (r : Bool) (w : World) (h : bindleref01_Text.f k a0 = some r) :
    Calls Tryd.prog 70 #[.string a0] w fun e w' => e = .returned (.bool r) ∧ Drawn0 w w' := by
  have H : (bindleref01_Text.l0 k a0 0) = some r := h
  clear h
  have H' := Aside0.mk H
  clear H
  go_enter Tryd.func70, Tryd.ntmps70
  go_wp2
  go_loopg [3] k (fun kq v3 w' => ∃ (x3_1 : Int), v3 = .int .i64 x3_1 ∧ Aside0 (bindleref01_Text.l0 kq a0 x3_1 = some r) ∧ Aside0 (kq ≤ k) ∧ Drawn0 w w')
  case atStart => exact ⟨(0), (by first | rfl | (simp; done) | (simp [*]; done)), H', ⟨Nat.le_refl _⟩, by repeat (first | exact Drawn0.refl _ | apply Drawn0.step)⟩
  case round =>
    clear H'
    obtain ⟨x3_1, rfl, HA, HK1, ⟨m1, rfl⟩⟩ := hrel
    cases gk with
    | zero => exact absurd HA.out (by simp [bindleref01_Text.l0])
    | succ k1 =>
      have H := HA.out
      clear HA
      simp only [bindleref01_Text.l0] at H
      by_cases c2 : x3_1 < (a0.size : Int)
      · rw [if_pos c2] at H
        have c2b0 : decide (x3_1 < (a0.size : Int)) = true := decide_eq_true c2
        clear c2
        by_cases c3 : 0 ≤ x3_1
        · rw [if_pos c3] at H
          have c3b0 : decide (0 ≤ x3_1) = true := decide_eq_true c3
          clear c3
          have HC5 := Aside0.mk H
          clear H
          have p4 : 0 ≤ (x3_1 : Int) := of_decide_eq_true (by first | (with_reducible assumption) | assumption)
          have q4 : x3_1 < (a0.size : Int) := of_decide_eq_true (by first | (with_reducible assumption) | assumption)
          have hx4 := bt_at a0 x3_1
          replace p4 := eq_true p4
          replace q4 := eq_true q4
          go_upto_block 2 with (fail)
          go_cut [5] (fun v5 wc => ∃ (kq : Nat) (x5_4 : Int), v5 = .int .i64 x5_4 ∧ Aside0 (bindleref01_Text.j3 kq a0 x3_1 (wrap64 (bt a0 x3_1)) x5_4 = some r) ∧ Aside0 (kq ≤ k1) ∧ Drawn0 w wc)
          case first =>
            have H := HC5.out
            clear HC5
            by_cases c6 : (wrap64 (bt a0 x3_1)) = 0
            · rw [if_pos c6] at H
              have c6b0 : ((wrap64 (bt a0 x3_1)) == 0) = true := beq_iff_eq.mpr c6
              have c6b1 : ((wrap64 (bt a0 x3_1)) != 0) = false := bne_eq_false_iff_eq.mpr c6
              clear c6
              (first | rw [c6b0] | (simp only [i64_w, i32_w]; rw [c6b0]) | skip)
              obtain rfl := Option.some.inj H
              go_wp2
              go_ret
              exact ⟨by first | rfl | (simp; done) | (simp [*]; done), by repeat (first | exact Drawn0.refl _ | apply Drawn0.step)⟩
            · rw [if_neg c6] at H
              have c6b0 : ((wrap64 (bt a0 x3_1)) == 0) = false := beq_eq_false_iff_ne.mpr c6
              have c6b1 : ((wrap64 (bt a0 x3_1)) != 0) = true := bne_iff_ne.mpr c6
              (first | rw [c6b0] | (simp only [i64_w, i32_w]; rw [c6b0]) | skip)
              by_cases c7 : (wrap64 (bt a0 x3_1)) < 128
              · rw [if_pos c7] at H
                have c7b0 : decide ((wrap64 (bt a0 x3_1)) < 128) = true := decide_eq_true c7
                clear c7
                have H' := Aside0.mk H
                clear H
                go_wp2
                go_meet
                case rel => exact ⟨_, (1), (by first | rfl | (simp; done) | (simp [*]; done)), H', ⟨by have := HK1.out; first | omega | exact Nat.le_refl _⟩, by repeat (first | exact Drawn0.refl _ | apply Drawn0.step)⟩
              · rw [if_neg c7] at H
                have c7b0 : decide ((wrap64 (bt a0 x3_1)) < 128) = false := decide_eq_false c7
                clear c7
                have HC8 := Aside0.mk H
                clear H
                go_upto_region 8 with (fail)
                go_cut [21] (fun v21 wc => ∃ (kq : Nat) (x21_7 : Bool), v21 = .bool x21_7 ∧ Aside0 (bindleref01_Text.j1 kq a0 x3_1 (wrap64 (bt a0 x3_1)) x21_7 = some r) ∧ Aside0 (kq ≤ k1) ∧ Drawn0 w wc)
                case first =>
                  have H := HC8.out
                  clear HC8
                  by_cases c9 : (wrap64 (bt a0 x3_1)) ≥ 194
                  · rw [if_pos c9] at H
                    have c9b0 : decide (194 ≤ (wrap64 (bt a0 x3_1))) = true := decide_eq_true c9
                    clear c9
                    (first | rw [c9b0] | (simp only [i64_w, i32_w]; rw [c9b0]) | skip)
                    have H' := Aside0.mk H
                    clear H
                    go_wp2
                    go_meet
                    case rel => exact ⟨_, (decide ((wrap64 (bt a0 x3_1)) < 224)), (by first | rfl | (simp; done) | (simp [*]; done)), H', ⟨by have := HK1.out; first | omega | exact Nat.le_refl _⟩, by repeat (first | exact Drawn0.refl _ | apply Drawn0.step)⟩
                  · rw [if_neg c9] at H
                    have c9b0 : decide (194 ≤ (wrap64 (bt a0 x3_1))) = false := decide_eq_false c9
                    clear c9
                    (first | rw [c9b0] | (simp only [i64_w, i32_w]; rw [c9b0]) | skip)
                    have H' := Aside0.mk H
                    clear H
                    go_wp2
                    go_meet
                    case rel => exact ⟨_, (false), (by first | rfl | (simp; done) | (simp [*]; done)), H', ⟨by have := HK1.out; first | omega | exact Nat.le_refl _⟩, by repeat (first | exact Drawn0.refl _ | apply Drawn0.step)⟩
                case rest =>
                  clear HC8
                  try clear c2
                  try clear c2b0
                  try clear p2
                  try clear c3
                  try clear c3b0
                  try clear p4
                  try clear q4
                  try clear hx4
                  try clear c6
                  try clear c6b0
                  try clear c6b1
                  try clear p6
                  try clear c7
                  try clear c7b0
                  try clear c9
                  try clear c9b0
                  try clear p4
                  try clear q4
                  obtain ⟨kq, x21_7, rfl, HA, HJ7, ⟨mc7, rfl⟩⟩ := hcut
                  cases kq with
                  | zero => exact absurd HA.out (by simp [bindleref01_Text.j1])
                  | succ kj7 =>
                    have H := HA.out
                    clear HA
                    simp only [bindleref01_Text.j1] at H
                    by_cases c10 : x21_7 = true
                    · subst c10
                      have H1 : (bindleref01_Text.j3 kj7 a0 x3_1 (wrap64 (bt a0 x3_1)) 2) = some r := by rw [if_pos rfl] at H; exact H
                      clear H
                      have H := H1
                      clear H1
                      have H' := Aside0.mk H
                      clear H
                      go_wp2
                      go_meet
                      case rel => exact ⟨_, (2), (by first | rfl | (simp; done) | (simp [*]; done)), H', ⟨by have := HK1.out; have := HJ7.out; first | omega | exact Nat.le_refl _⟩, by repeat (first | exact Drawn0.refl _ | apply Drawn0.step)⟩
                    · replace c10 := Bool.eq_false_iff.mpr c10
                      subst c10
                      have H1 : (if (wrap64 (bt a0 x3_1)) ≥ 224 then (bindleref01_Text.j2 kj7 a0 x3_1 (wrap64 (bt a0 x3_1)) (decide ((wrap64 (bt a0 x3_1)) < 240))) else (bindleref01_Text.j2 kj7 a0 x3_1 (wrap64 (bt a0 x3_1)) false)) = some r := by rw [if_neg (show ¬ (false = true) by decide)] at H; exact H
                      clear H
                      have H := H1
                      clear H1
                      have HC11 := Aside0.mk H
                      clear H
                      go_upto_region 10 with (fail)
                      go_cut [28] (fun v28 wc => ∃ (kq : Nat) (x28_10 : Bool), v28 = .bool x28_10 ∧ Aside0 (bindleref01_Text.j2 kq a0 x3_1 (wrap64 (bt a0 x3_1)) x28_10 = some r) ∧ Aside0 (kq ≤ kj7) ∧ Drawn0 w wc)
                      case first =>
                        have H := HC11.out
                        clear HC11
                        by_cases c12 : (wrap64 (bt a0 x3_1)) ≥ 224
                        · rw [if_pos c12] at H
                          have c12b0 : decide (224 ≤ (wrap64 (bt a0 x3_1))) = true := decide_eq_true c12
                          clear c12
                          (first | rw [c12b0] | (simp only [i64_w, i32_w]; rw [c12b0]) | skip)
                          have H' := Aside0.mk H
                          clear H
                          go_wp2
                          go_meet
                          case rel => exact ⟨_, (decide ((wrap64 (bt a0 x3_1)) < 240)), (by first | rfl | (simp; done) | (simp [*]; done)), H', ⟨by have := HK1.out; have := HJ7.out; first | omega | exact Nat.le_refl _⟩, by repeat (first | exact Drawn0.refl _ | apply Drawn0.step)⟩
                        · rw [if_neg c12] at H
                          have c12b0 : decide (224 ≤ (wrap64 (bt a0 x3_1))) = false := decide_eq_false c12
                          clear c12
                          (first | rw [c12b0] | (simp only [i64_w, i32_w]; rw [c12b0]) | skip)
                          have H' := Aside0.mk H
                          clear H
                          go_wp2
                          go_meet
                          case rel => exact ⟨_, (false), (by first | rfl | (simp; done) | (simp [*]; done)), H', ⟨by have := HK1.out; have := HJ7.out; first | omega | exact Nat.le_refl _⟩, by repeat (first | exact Drawn0.refl _ | apply Drawn0.step)⟩
                      case rest =>
                        clear HC11
                        try clear c1
                        try clear c2
                        try clear c2b0
                        try clear p2
                        try clear c3
                        try clear c3b0
                        try clear p4
                        try clear q4
                        try clear hx4
                        try clear c6
                        try clear c6b0
                        try clear c6b1
                        try clear p6
                        try clear c7
                        try clear c7b0
                        try clear c9
                        try clear c9b0
                        try clear c10
                        try clear c12
                        try clear c12b0
                        try clear p2
                        try clear p4
                        try clear p6
                        try clear q4
                        obtain ⟨kq, x28_10, rfl, HA, HJ10, ⟨mc10, rfl⟩⟩ := hcut
                        cases kq with
                        | zero => exact absurd HA.out (by simp [bindleref01_Text.j2])
                        | succ kj10 =>
                          have H := HA.out
                          clear HA
                          simp only [bindleref01_Text.j2] at H
                          by_cases c13 : x28_10 = true
                          · subst c13
                            have H1 : (bindleref01_Text.j3 kj10 a0 x3_1 (wrap64 (bt a0 x3_1)) 3) = some r := by rw [if_pos rfl] at H; exact H
                            clear H
                            have H := H1
                            clear H1
                            have H' := Aside0.mk H
                            clear H
                            go_wp2
                            go_meet
                            case rel => exact ⟨_, (3), (by first | rfl | (simp; done) | (simp [*]; done)), H', ⟨by have := HK1.out; have := HJ7.out; have := HJ10.out; first | omega | exact Nat.le_refl _⟩, by repeat (first | exact Drawn0.refl _ | apply Drawn0.step)⟩
                          · replace c13 := Bool.eq_false_iff.mpr c13
                            subst c13
                            have H1 : (if (wrap64 (bt a0 x3_1)) ≥ 240 then (if (wrap64 (bt a0 x3_1)) < 245 then (bindleref01_Text.j3 kj10 a0 x3_1 (wrap64 (bt a0 x3_1)) 4) else (some false)) else (some false)) = some r := by rw [if_neg (show ¬ (false = true) by decide)] at H; exact H
                            clear H
                            have H := H1
                            clear H1
                            by_cases c14 : (wrap64 (bt a0 x3_1)) ≥ 240
                            · rw [if_pos c14] at H
                              have c14b0 : decide (240 ≤ (wrap64 (bt a0 x3_1))) = true := decide_eq_true c14
                              clear c14
                              by_cases c15 : (wrap64 (bt a0 x3_1)) < 245
                              · rw [if_pos c15] at H
                                have c15b0 : decide ((wrap64 (bt a0 x3_1)) < 245) = true := decide_eq_true c15
                                clear c15
                                have H' := Aside0.mk H
                                clear H
                                go_wp2
                                go_meet
                                case rel => exact ⟨_, (4), (by first | rfl | (simp; done) | (simp [*]; done)), H', ⟨by have := HK1.out; have := HJ7.out; have := HJ10.out; first | omega | exact Nat.le_refl _⟩, by repeat (first | exact Drawn0.refl _ | apply Drawn0.step)⟩
                              · rw [if_neg c15] at H
                                have c15b0 : decide ((wrap64 (bt a0 x3_1)) < 245) = false := decide_eq_false c15
                                clear c15
                                obtain rfl := Option.some.inj H
                                go_wp2
                                go_ret
                                exact ⟨by first | rfl | (simp; done) | (simp [*]; done), by repeat (first | exact Drawn0.refl _ | apply Drawn0.step)⟩
                            · rw [if_neg c14] at H
                              have c14b0 : decide (240 ≤ (wrap64 (bt a0 x3_1))) = false := decide_eq_false c14
                              clear c14
                              obtain rfl := Option.some.inj H
                              go_wp2
                              go_ret
                              exact ⟨by first | rfl | (simp; done) | (simp [*]; done), by repeat (first | exact Drawn0.refl _ | apply Drawn0.step)⟩
          case rest =>
            clear HC5
            try clear c1
            try clear c2
            try clear c2b0
            try clear p2
            try clear c3
            try clear c3b0
            try clear p4
            try clear q4
            try clear hx4
            try clear c6
            try clear c6b0
            try clear c6b1
            try clear p6
            try clear c7
            try clear c7b0
            try clear c9
            try clear c9b0
            try clear c10
            try clear c12
            try clear c12b0
            try clear c13
            try clear c14
            try clear c14b0
            try clear c15
            try clear c15b0
            try clear p2
            try clear p4
            try clear p6
            try clear q4
            obtain ⟨kq, x5_4, rfl, HA, HJ4, ⟨mc4, rfl⟩⟩ := hcut
            cases kq with
            | zero => exact absurd HA.out (by simp [bindleref01_Text.j3])
            | succ kj4 =>
              have H := HA.out
              clear HA
              simp only [bindleref01_Text.j3] at H
              by_cases c16 : (wrap64 ((a0.size : Int) - x3_1)) < x5_4
              · rw [if_pos c16] at H
                have c16b0 : decide ((wrap64 ((a0.size : Int) - x3_1)) < x5_4) = true := decide_eq_true c16
                clear c16
                obtain rfl := Option.some.inj H
                go_wp2
                go_ret
                exact ⟨by first | rfl | (simp; done) | (simp [*]; done), by repeat (first | exact Drawn0.refl _ | apply Drawn0.step)⟩
              · rw [if_neg c16] at H
                have c16b0 : decide ((wrap64 ((a0.size : Int) - x3_1)) < x5_4) = false := decide_eq_false c16
                clear c16
                have H' := Aside0.mk H
                clear H
                go_wp2
                go_loopg [6] kj4 (fun kq v6 w' => ∃ (x6_3 : Int), v6 = .int .i64 x6_3 ∧ Aside0 (bindleref01_Text.l1 kq a0 x3_1 (wrap64 (bt a0 x3_1)) x5_4 x6_3 = some r) ∧ Aside0 (kq ≤ kj4) ∧ Drawn0 w w')
                case atStart => exact ⟨(1), (by first | rfl | (simp; done) | (simp [*]; done)), H', ⟨Nat.le_refl _⟩, by repeat (first | exact Drawn0.refl _ | apply Drawn0.step)⟩
                case round =>
                  clear H'
                  try clear c1
                  try clear c2
                  try clear c2b0
                  try clear p2
                  try clear c3
                  try clear c3b0
                  try clear c4
                  try clear p4
                  try clear q4
                  try clear hx4
                  try clear c6
                  try clear c6b0
                  try clear c6b1
                  try clear p6
                  try clear c7
                  try clear c7b0
                  try clear c9
                  try clear c9b0
                  try clear c10
                  try clear c12
                  try clear c12b0
                  try clear c13
                  try clear c14
                  try clear c14b0
                  try clear c15
                  try clear c15b0
                  try clear c16
                  try clear c16b0
                  try clear p2
                  try clear p4
                  try clear p6
                  try clear q4
                  obtain ⟨x6_3, rfl, HA, HK3, ⟨m3, rfl⟩⟩ := hrel
                  cases gk with
                  | zero => exact absurd HA.out (by simp [bindleref01_Text.l1])
                  | succ k3 =>
                    have H := HA.out
                    clear HA
                    simp only [bindleref01_Text.l1] at H
                    by_cases c17 : x6_3 < x5_4
                    · rw [if_pos c17] at H
                      have c17b0 : decide (x6_3 < x5_4) = true := decide_eq_true c17
                      clear c17
                      obtain ⟨ji18, hji18⟩ : ∃ j_ : Int, (wrap64 (x3_1 + x6_3)) = j_ := ⟨_, rfl⟩
                      replace H : (if 0 ≤ (ji18) then (if (ji18) < (a0.size : Int) then (if (bt a0 (ji18)) < 128 then (some false) else (if (bt a0 (ji18)) > 191 then (some false) else (bindleref01_Text.l1 k3 a0 x3_1 (wrap64 (bt a0 x3_1)) x5_4 (wrap64 (x6_3 + 1))))) else (none)) else (none)) = some r := by first | (rw [hji18] at H; exact H) | (simp only [hji18] at H ⊢; exact H)
                      have hji18w : (IntKind.i64.wrap (x3_1 + x6_3)) = ji18 := (i64_w _).trans hji18
                      by_cases c19 : 0 ≤ (ji18)
                      · rw [if_pos c19] at H
                        have c19b0 : decide (0 ≤ (ji18)) = true := decide_eq_true c19
                        clear c19
                        by_cases c20 : (ji18) < (a0.size : Int)
                        · rw [if_pos c20] at H
                          have c20b0 : decide ((ji18) < (a0.size : Int)) = true := decide_eq_true c20
                          clear c20
                          by_cases c22 : (bt a0 (ji18)) < 128
                          · rw [if_pos c22] at H
                            have c22b0 : decide ((bt a0 (ji18)) < 128) = true := decide_eq_true c22
                            clear c22
                            obtain rfl := Option.some.inj H
                            have p21 : 0 ≤ ((ji18) : Int) := of_decide_eq_true (by first | (with_reducible assumption) | assumption)
                            have q21 : (ji18) < (a0.size : Int) := of_decide_eq_true (by first | (with_reducible assumption) | assumption)
                            have hx21 := bt_at a0 (ji18)
                            replace p21 := eq_true p21
                            replace q21 := eq_true q21
                            go_wp2
                            go_ret
                            exact ⟨by first | rfl | (simp; done) | (simp only [← hji18] <;> (first | rfl | simp)) | (simp [*]; done), by repeat (first | exact Drawn0.refl _ | apply Drawn0.step)⟩
                          · rw [if_neg c22] at H
                            have c22b0 : decide ((bt a0 (ji18)) < 128) = false := decide_eq_false c22
                            clear c22
                            by_cases c24 : (bt a0 (ji18)) > 191
                            · rw [if_pos c24] at H
                              have c24b0 : decide (191 < (bt a0 (ji18))) = true := decide_eq_true c24
                              clear c24
                              obtain rfl := Option.some.inj H
                              have p21 : 0 ≤ ((ji18) : Int) := of_decide_eq_true (by first | (with_reducible assumption) | assumption)
                              have q21 : (ji18) < (a0.size : Int) := of_decide_eq_true (by first | (with_reducible assumption) | assumption)
                              have hx21 := bt_at a0 (ji18)
                              replace p21 := eq_true p21
                              replace q21 := eq_true q21
                              have p23 : 0 ≤ ((ji18) : Int) := of_decide_eq_true (by first | (with_reducible assumption) | assumption)
                              have q23 : (ji18) < (a0.size : Int) := of_decide_eq_true (by first | (with_reducible assumption) | assumption)
                              have hx23 := bt_at a0 (ji18)
                              replace p23 := eq_true p23
                              replace q23 := eq_true q23
                              go_wp2
                              go_ret
                              exact ⟨by first | rfl | (simp; done) | (simp only [← hji18] <;> (first | rfl | simp)) | (simp [*]; done), by repeat (first | exact Drawn0.refl _ | apply Drawn0.step)⟩
                            · rw [if_neg c24] at H
                              have c24b0 : decide (191 < (bt a0 (ji18))) = false := decide_eq_false c24
                              clear c24
                              have H' := Aside0.mk H
                              clear H
                              have p21 : 0 ≤ ((ji18) : Int) := of_decide_eq_true (by first | (with_reducible assumption) | assumption)
                              have q21 : (ji18) < (a0.size : Int) := of_decide_eq_true (by first | (with_reducible assumption) | assumption)
                              have hx21 := bt_at a0 (ji18)
                              replace p21 := eq_true p21
                              replace q21 := eq_true q21
                              have p23 : 0 ≤ ((ji18) : Int) := of_decide_eq_true (by first | (with_reducible assumption) | assumption)
                              have q23 : (ji18) < (a0.size : Int) := of_decide_eq_true (by first | (with_reducible assumption) | assumption)
                              have hx23 := bt_at a0 (ji18)
                              replace p23 := eq_true p23
                              replace q23 := eq_true q23
                              go_wp2
                              go_roundg k3
                              case measure => have := HK1.out; have := HJ4.out; have := HK3.out; omega
                              case rel => exact ⟨(wrap64 (x6_3 + 1)), (by first | rfl | (simp; done) | (simp [*]; done)), H', ⟨by have := HK1.out; have := HJ4.out; have := HK3.out; omega⟩, by repeat (first | exact Drawn0.refl _ | apply Drawn0.step)⟩
                        · rw [if_neg c20] at H
                          exact absurd H (by simp)
                      · rw [if_neg c19] at H
                        exact absurd H (by simp)
                    · rw [if_neg c17] at H
                      have c17b0 : decide (x6_3 < x5_4) = false := decide_eq_false c17
                      clear c17
                      by_cases c25 : x5_4 = 3
                      · rw [if_pos c25] at H
                        have c25b0 : (x5_4 == 3) = true := beq_iff_eq.mpr c25
                        have c25b1 : (x5_4 != 3) = false := bne_eq_false_iff_eq.mpr c25
                        clear c25
                        by_cases c26 : (wrap64 (bt a0 x3_1)) = 224
                        · rw [if_pos c26] at H
                          have c26b0 : ((wrap64 (bt a0 x3_1)) == 224) = true := beq_iff_eq.mpr c26
                          have c26b1 : ((wrap64 (bt a0 x3_1)) != 224) = false := bne_eq_false_iff_eq.mpr c26
                          clear c26
                          obtain ⟨ji27, hji27⟩ : ∃ j_ : Int, (wrap64 (x3_1 + 1)) = j_ := ⟨_, rfl⟩
                          replace H : (if 0 ≤ (ji27) then (if (ji27) < (a0.size : Int) then (if (bt a0 (ji27)) < 160 then (some false) else (if (wrap64 (bt a0 x3_1)) = 237 then (if (bt a0 (ji27)) > 159 then (some false) else (if x5_4 = 4 then (if (wrap64 (bt a0 x3_1)) = 240 then (if (bt a0 (ji27)) < 144 then (some false) else (if (wrap64 (bt a0 x3_1)) = 244 then (if (bt a0 (ji27)) > 143 then (some false) else (bindleref01_Text.l0 k3 a0 (wrap64 (x3_1 + x5_4)))) else (bindleref01_Text.l0 k3 a0 (wrap64 (x3_1 + x5_4))))) else (if (wrap64 (bt a0 x3_1)) = 244 then (if (bt a0 (ji27)) > 143 then (some false) else (bindleref01_Text.l0 k3 a0 (wrap64 (x3_1 + x5_4)))) else (bindleref01_Text.l0 k3 a0 (wrap64 (x3_1 + x5_4))))) else (bindleref01_Text.l0 k3 a0 (wrap64 (x3_1 + x5_4))))) else (if x5_4 = 4 then (if (wrap64 (bt a0 x3_1)) = 240 then (if (bt a0 (ji27)) < 144 then (some false) else (if (wrap64 (bt a0 x3_1)) = 244 then (if (bt a0 (ji27)) > 143 then (some false) else (bindleref01_Text.l0 k3 a0 (wrap64 (x3_1 + x5_4)))) else (bindleref01_Text.l0 k3 a0 (wrap64 (x3_1 + x5_4))))) else (if (wrap64 (bt a0 x3_1)) = 244 then (if (bt a0 (ji27)) > 143 then (some false) else (bindleref01_Text.l0 k3 a0 (wrap64 (x3_1 + x5_4)))) else (bindleref01_Text.l0 k3 a0 (wrap64 (x3_1 + x5_4))))) else (bindleref01_Text.l0 k3 a0 (wrap64 (x3_1 + x5_4)))))) else (none)) else (none)) = some r := by first | (rw [hji27] at H; exact H) | (simp only [hji27] at H ⊢; exact H)
                          have hji27w : (IntKind.i64.wrap (x3_1 + 1)) = ji27 := (i64_w _).trans hji27
                          by_cases c28 : 0 ≤ (ji27)
                          · rw [if_pos c28] at H
                            have c28b0 : decide (0 ≤ (ji27)) = true := decide_eq_true c28
                            clear c28
                            by_cases c29 : (ji27) < (a0.size : Int)
                            · rw [if_pos c29] at H
                              have c29b0 : decide ((ji27) < (a0.size : Int)) = true := decide_eq_true c29
                              clear c29
                              by_cases c31 : (bt a0 (ji27)) < 160
                              · rw [if_pos c31] at H
                                have c31b0 : decide ((bt a0 (ji27)) < 160) = true := decide_eq_true c31
                                clear c31
                                obtain rfl := Option.some.inj H
                                have p30 : 0 ≤ ((ji27) : Int) := of_decide_eq_true (by first | (with_reducible assumption) | assumption)
                                have q30 : (ji27) < (a0.size : Int) := of_decide_eq_true (by first | (with_reducible assumption) | assumption)
                                have hx30 := bt_at a0 (ji27)
                                replace p30 := eq_true p30
                                replace q30 := eq_true q30
                                go_wp2
                                go_ret
                                exact ⟨by first | rfl | (simp; done) | (simp only [← hji27] <;> (first | rfl | simp)) | (simp [*]; done), by repeat (first | exact Drawn0.refl _ | apply Drawn0.step)⟩
                              · rw [if_neg c31] at H
                                have c31b0 : decide ((bt a0 (ji27)) < 160) = false := decide_eq_false c31
                                clear c31
                                by_cases c32 : (wrap64 (bt a0 x3_1)) = 237
                                · rw [if_pos c32] at H
                                  have c32b0 : ((wrap64 (bt a0 x3_1)) == 237) = true := beq_iff_eq.mpr c32
                                  have c32b1 : ((wrap64 (bt a0 x3_1)) != 237) = false := bne_eq_false_iff_eq.mpr c32
                                  clear c32
                                  by_cases c34 : (bt a0 (ji27)) > 159
                                  · rw [if_pos c34] at H
                                    have c34b0 : decide (159 < (bt a0 (ji27))) = true := decide_eq_true c34
                                    clear c34
                                    obtain rfl := Option.some.inj H
                                    have p30 : 0 ≤ ((ji27) : Int) := of_decide_eq_true (by first | (with_reducible assumption) | assumption)
                                    have q30 : (ji27) < (a0.size : Int) := of_decide_eq_true (by first | (with_reducible assumption) | assumption)
                                    have hx30 := bt_at a0 (ji27)
                                    replace p30 := eq_true p30
                                    replace q30 := eq_true q30
                                    have p33 : 0 ≤ ((ji27) : Int) := of_decide_eq_true (by first | (with_reducible assumption) | assumption)
                                    have q33 : (ji27) < (a0.size : Int) := of_decide_eq_true (by first | (with_reducible assumption) | assumption)
                                    have hx33 := bt_at a0 (ji27)
                                    replace p33 := eq_true p33
                                    replace q33 := eq_true q33
                                    go_wp2
                                    go_ret
                                    exact ⟨by first | rfl | (simp; done) | (simp only [← hji27] <;> (first | rfl | simp)) | (simp [*]; done), by repeat (first | exact Drawn0.refl _ | apply Drawn0.step)⟩
                                  · rw [if_neg c34] at H
                                    have c34b0 : decide (159 < (bt a0 (ji27))) = false := decide_eq_false c34
                                    clear c34
                                    by_cases c35 : x5_4 = 4
                                    · rw [if_pos c35] at H
                                      have c35b0 : (x5_4 == 4) = true := beq_iff_eq.mpr c35
                                      have c35b1 : (x5_4 != 4) = false := bne_eq_false_iff_eq.mpr c35
                                      clear c35
                                      by_cases c36 : (wrap64 (bt a0 x3_1)) = 240
                                      · rw [if_pos c36] at H
                                        have c36b0 : ((wrap64 (bt a0 x3_1)) == 240) = true := beq_iff_eq.mpr c36
                                        have c36b1 : ((wrap64 (bt a0 x3_1)) != 240) = false := bne_eq_false_iff_eq.mpr c36
                                        clear c36
                                        by_cases c38 : (bt a0 (ji27)) < 144
                                        · rw [if_pos c38] at H
                                          have c38b0 : decide ((bt a0 (ji27)) < 144) = true := decide_eq_true c38
                                          clear c38
                                          obtain rfl := Option.some.inj H
                                          have p30 : 0 ≤ ((ji27) : Int) := of_decide_eq_true (by first | (with_reducible assumption) | assumption)
                                          have q30 : (ji27) < (a0.size : Int) := of_decide_eq_true (by first | (with_reducible assumption) | assumption)
                                          have hx30 := bt_at a0 (ji27)
                                          replace p30 := eq_true p30
                                          replace q30 := eq_true q30
                                          have p33 : 0 ≤ ((ji27) : Int) := of_decide_eq_true (by first | (with_reducible assumption) | assumption)
                                          have q33 : (ji27) < (a0.size : Int) := of_decide_eq_true (by first | (with_reducible assumption) | assumption)
                                          have hx33 := bt_at a0 (ji27)
                                          replace p33 := eq_true p33
                                          replace q33 := eq_true q33
                                          have p37 : 0 ≤ ((ji27) : Int) := of_decide_eq_true (by first | (with_reducible assumption) | assumption)
                                          have q37 : (ji27) < (a0.size : Int) := of_decide_eq_true (by first | (with_reducible assumption) | assumption)
                                          have hx37 := bt_at a0 (ji27)
                                          replace p37 := eq_true p37
                                          replace q37 := eq_true q37
                                          go_wp2
                                          go_ret
                                          exact ⟨by first | rfl | (simp; done) | (simp only [← hji27] <;> (first | rfl | simp)) | (simp [*]; done), by repeat (first | exact Drawn0.refl _ | apply Drawn0.step)⟩
                                        · rw [if_neg c38] at H
                                          have c38b0 : decide ((bt a0 (ji27)) < 144) = false := decide_eq_false c38
                                          clear c38
                                          by_cases c39 : (wrap64 (bt a0 x3_1)) = 244
                                          · rw [if_pos c39] at H
                                            have c39b0 : ((wrap64 (bt a0 x3_1)) == 244) = true := beq_iff_eq.mpr c39
                                            have c39b1 : ((wrap64 (bt a0 x3_1)) != 244) = false := bne_eq_false_iff_eq.mpr c39
                                            clear c39
                                            by_cases c41 : (bt a0 (ji27)) > 143
                                            · rw [if_pos c41] at H
                                              have c41b0 : decide (143 < (bt a0 (ji27))) = true := decide_eq_true c41
                                              clear c41
                                              obtain rfl := Option.some.inj H
                                              have p30 : 0 ≤ ((ji27) : Int) := of_decide_eq_true (by first | (with_reducible assumption) | assumption)
                                              have q30 : (ji27) < (a0.size : Int) := of_decide_eq_true (by first | (with_reducible assumption) | assumption)
                                              have hx30 := bt_at a0 (ji27)
                                              replace p30 := eq_true p30
                                              replace q30 := eq_true q30
                                              have p33 : 0 ≤ ((ji27) : Int) := of_decide_eq_true (by first | (with_reducible assumption) | assumption)
                                              have q33 : (ji27) < (a0.size : Int) := of_decide_eq_true (by first | (with_reducible assumption) | assumption)
                                              have hx33 := bt_at a0 (ji27)
                                              replace p33 := eq_true p33
                                              replace q33 := eq_true q33
                                              have p37 : 0 ≤ ((ji27) : Int) := of_decide_eq_true (by first | (with_reducible assumption) | assumption)
                                              have q37 : (ji27) < (a0.size : Int) := of_decide_eq_true (by first | (with_reducible assumption) | assumption)
                                              have hx37 := bt_at a0 (ji27)
                                              replace p37 := eq_true p37
                                              replace q37 := eq_true q37
                                              have p40 : 0 ≤ ((ji27) : Int) := of_decide_eq_true (by first | (with_reducible assumption) | assumption)
                                              have q40 : (ji27) < (a0.size : Int) := of_decide_eq_true (by first | (with_reducible assumption) | assumption)
                                              have hx40 := bt_at a0 (ji27)
                                              replace p40 := eq_true p40
                                              replace q40 := eq_true q40
                                              go_wp2
                                              go_ret
                                              exact ⟨by first | rfl | (simp; done) | (simp only [← hji27] <;> (first | rfl | simp)) | (simp [*]; done), by repeat (first | exact Drawn0.refl _ | apply Drawn0.step)⟩
                                            · rw [if_neg c41] at H
                                              have c41b0 : decide (143 < (bt a0 (ji27))) = false := decide_eq_false c41
                                              clear c41
                                              have H' := Aside0.mk H
                                              clear H
                                              have p30 : 0 ≤ ((ji27) : Int) := of_decide_eq_true (by first | (with_reducible assumption) | assumption)
                                              have q30 : (ji27) < (a0.size : Int) := of_decide_eq_true (by first | (with_reducible assumption) | assumption)
                                              have hx30 := bt_at a0 (ji27)
                                              replace p30 := eq_true p30
                                              replace q30 := eq_true q30
                                              have p33 : 0 ≤ ((ji27) : Int) := of_decide_eq_true (by first | (with_reducible assumption) | assumption)
                                              have q33 : (ji27) < (a0.size : Int) := of_decide_eq_true (by first | (with_reducible assumption) | assumption)
                                              have hx33 := bt_at a0 (ji27)
                                              replace p33 := eq_true p33
                                              replace q33 := eq_true q33
                                              have p37 : 0 ≤ ((ji27) : Int) := of_decide_eq_true (by first | (with_reducible assumption) | assumption)
                                              have q37 : (ji27) < (a0.size : Int) := of_decide_eq_true (by first | (with_reducible assumption) | assumption)
                                              have hx37 := bt_at a0 (ji27)
                                              replace p37 := eq_true p37
                                              replace q37 := eq_true q37
                                              have p40 : 0 ≤ ((ji27) : Int) := of_decide_eq_true (by first | (with_reducible assumption) | assumption)
                                              have q40 : (ji27) < (a0.size : Int) := of_decide_eq_true (by first | (with_reducible assumption) | assumption)
                                              have hx40 := bt_at a0 (ji27)
                                              replace p40 := eq_true p40
                                              replace q40 := eq_true q40
                                              go_wp2
                                              go_roundg k3
                                              case measure => have := HK1.out; have := HJ4.out; have := HK3.out; omega
                                              case rel => exact ⟨(wrap64 (x3_1 + x5_4)), (by first | rfl | (simp; done) | (simp [*]; done)), H', ⟨by have := HK1.out; have := HJ4.out; have := HK3.out; omega⟩, by repeat (first | exact Drawn0.refl _ | apply Drawn0.step)⟩
                                          · rw [if_neg c39] at H
                                            have c39b0 : ((wrap64 (bt a0 x3_1)) == 244) = false := beq_eq_false_iff_ne.mpr c39
                                            have c39b1 : ((wrap64 (bt a0 x3_1)) != 244) = true := bne_iff_ne.mpr c39
                                            have H' := Aside0.mk H
                                            clear H
                                            have p30 : 0 ≤ ((ji27) : Int) := of_decide_eq_true (by first | (with_reducible assumption) | assumption)
                                            have q30 : (ji27) < (a0.size : Int) := of_decide_eq_true (by first | (with_reducible assumption) | assumption)
                                            have hx30 := bt_at a0 (ji27)
                                            replace p30 := eq_true p30
                                            replace q30 := eq_true q30
                                            have p33 : 0 ≤ ((ji27) : Int) := of_decide_eq_true (by first | (with_reducible assumption) | assumption)
                                            have q33 : (ji27) < (a0.size : Int) := of_decide_eq_true (by first | (with_reducible assumption) | assumption)
                                            have hx33 := bt_at a0 (ji27)
                                            replace p33 := eq_true p33
                                            replace q33 := eq_true q33
                                            have p37 : 0 ≤ ((ji27) : Int) := of_decide_eq_true (by first | (with_reducible assumption) | assumption)
                                            have q37 : (ji27) < (a0.size : Int) := of_decide_eq_true (by first | (with_reducible assumption) | assumption)
                                            have hx37 := bt_at a0 (ji27)
                                            replace p37 := eq_true p37
                                            replace q37 := eq_true q37
                                            go_wp2
                                            go_roundg k3
                                            case measure => have := HK1.out; have := HJ4.out; have := HK3.out; omega
                                            case rel => exact ⟨(wrap64 (x3_1 + x5_4)), (by first | rfl | (simp; done) | (simp [*]; done)), H', ⟨by have := HK1.out; have := HJ4.out; have := HK3.out; omega⟩, by repeat (first | exact Drawn0.refl _ | apply Drawn0.step)⟩
                                      · rw [if_neg c36] at H
                                        have c36b0 : ((wrap64 (bt a0 x3_1)) == 240) = false := beq_eq_false_iff_ne.mpr c36
                                        have c36b1 : ((wrap64 (bt a0 x3_1)) != 240) = true := bne_iff_ne.mpr c36
                                        by_cases c42 : (wrap64 (bt a0 x3_1)) = 244
                                        · rw [if_pos c42] at H
                                          have c42b0 : ((wrap64 (bt a0 x3_1)) == 244) = true := beq_iff_eq.mpr c42
                                          have c42b1 : ((wrap64 (bt a0 x3_1)) != 244) = false := bne_eq_false_iff_eq.mpr c42
                                          clear c42
                                          by_cases c44 : (bt a0 (ji27)) > 143
                                          · rw [if_pos c44] at H
                                            have c44b0 : decide (143 < (bt a0 (ji27))) = true := decide_eq_true c44
                                            clear c44
                                            obtain rfl := Option.some.inj H
                                            have p30 : 0 ≤ ((ji27) : Int) := of_decide_eq_true (by first | (with_reducible assumption) | assumption)
                                            have q30 : (ji27) < (a0.size : Int) := of_decide_eq_true (by first | (with_reducible assumption) | assumption)
                                            have hx30 := bt_at a0 (ji27)
                                            replace p30 := eq_true p30
                                            replace q30 := eq_true q30
                                            have p33 : 0 ≤ ((ji27) : Int) := of_decide_eq_true (by first | (with_reducible assumption) | assumption)
                                            have q33 : (ji27) < (a0.size : Int) := of_decide_eq_true (by first | (with_reducible assumption) | assumption)
                                            have hx33 := bt_at a0 (ji27)
                                            replace p33 := eq_true p33
                                            replace q33 := eq_true q33
                                            have p43 : 0 ≤ ((ji27) : Int) := of_decide_eq_true (by first | (with_reducible assumption) | assumption)
                                            have q43 : (ji27) < (a0.size : Int) := of_decide_eq_true (by first | (with_reducible assumption) | assumption)
                                            have hx43 := bt_at a0 (ji27)
                                            replace p43 := eq_true p43
                                            replace q43 := eq_true q43
                                            go_wp2
                                            go_ret
                                            exact ⟨by first | rfl | (simp; done) | (simp only [← hji27] <;> (first | rfl | simp)) | (simp [*]; done), by repeat (first | exact Drawn0.refl _ | apply Drawn0.step)⟩
                                          · rw [if_neg c44] at H
                                            have c44b0 : decide (143 < (bt a0 (ji27))) = false := decide_eq_false c44
                                            clear c44
                                            have H' := Aside0.mk H
                                            clear H
                                            have p30 : 0 ≤ ((ji27) : Int) := of_decide_eq_true (by first | (with_reducible assumption) | assumption)
                                            have q30 : (ji27) < (a0.size : Int) := of_decide_eq_true (by first | (with_reducible assumption) | assumption)
                                            have hx30 := bt_at a0 (ji27)
                                            replace p30 := eq_true p30
                                            replace q30 := eq_true q30
                                            have p33 : 0 ≤ ((ji27) : Int) := of_decide_eq_true (by first | (with_reducible assumption) | assumption)
                                            have q33 : (ji27) < (a0.size : Int) := of_decide_eq_true (by first | (with_reducible assumption) | assumption)
                                            have hx33 := bt_at a0 (ji27)
                                            replace p33 := eq_true p33
                                            replace q33 := eq_true q33
                                            have p43 : 0 ≤ ((ji27) : Int) := of_decide_eq_true (by first | (with_reducible assumption) | assumption)
                                            have q43 : (ji27) < (a0.size : Int) := of_decide_eq_true (by first | (with_reducible assumption) | assumption)
                                            have hx43 := bt_at a0 (ji27)
                                            replace p43 := eq_true p43
                                            replace q43 := eq_true q43
                                            go_wp2
                                            go_roundg k3
                                            case measure => have := HK1.out; have := HJ4.out; have := HK3.out; omega
                                            case rel => exact ⟨(wrap64 (x3_1 + x5_4)), (by first | rfl | (simp; done) | (simp [*]; done)), H', ⟨by have := HK1.out; have := HJ4.out; have := HK3.out; omega⟩, by repeat (first | exact Drawn0.refl _ | apply Drawn0.step)⟩
                                        · rw [if_neg c42] at H
                                          have c42b0 : ((wrap64 (bt a0 x3_1)) == 244) = false := beq_eq_false_iff_ne.mpr c42
                                          have c42b1 : ((wrap64 (bt a0 x3_1)) != 244) = true := bne_iff_ne.mpr c42
                                          have H' := Aside0.mk H
                                          clear H
                                          have p30 : 0 ≤ ((ji27) : Int) := of_decide_eq_true (by first | (with_reducible assumption) | assumption)
                                          have q30 : (ji27) < (a0.size : Int) := of_decide_eq_true (by first | (with_reducible assumption) | assumption)
                                          have hx30 := bt_at a0 (ji27)
                                          replace p30 := eq_true p30
                                          replace q30 := eq_true q30
                                          have p33 : 0 ≤ ((ji27) : Int) := of_decide_eq_true (by first | (with_reducible assumption) | assumption)
                                          have q33 : (ji27) < (a0.size : Int) := of_decide_eq_true (by first | (with_reducible assumption) | assumption)
                                          have hx33 := bt_at a0 (ji27)
                                          replace p33 := eq_true p33
                                          replace q33 := eq_true q33
                                          go_wp2
                                          go_roundg k3
                                          case measure => have := HK1.out; have := HJ4.out; have := HK3.out; omega
                                          case rel => exact ⟨(wrap64 (x3_1 + x5_4)), (by first | rfl | (simp; done) | (simp [*]; done)), H', ⟨by have := HK1.out; have := HJ4.out; have := HK3.out; omega⟩, by repeat (first | exact Drawn0.refl _ | apply Drawn0.step)⟩
                                    · rw [if_neg c35] at H
                                      have c35b0 : (x5_4 == 4) = false := beq_eq_false_iff_ne.mpr c35
                                      have c35b1 : (x5_4 != 4) = true := bne_iff_ne.mpr c35
                                      have H' := Aside0.mk H
                                      clear H
                                      have p30 : 0 ≤ ((ji27) : Int) := of_decide_eq_true (by first | (with_reducible assumption) | assumption)
                                      have q30 : (ji27) < (a0.size : Int) := of_decide_eq_true (by first | (with_reducible assumption) | assumption)
                                      have hx30 := bt_at a0 (ji27)
                                      replace p30 := eq_true p30
                                      replace q30 := eq_true q30
                                      have p33 : 0 ≤ ((ji27) : Int) := of_decide_eq_true (by first | (with_reducible assumption) | assumption)
                                      have q33 : (ji27) < (a0.size : Int) := of_decide_eq_true (by first | (with_reducible assumption) | assumption)
                                      have hx33 := bt_at a0 (ji27)
                                      replace p33 := eq_true p33
                                      replace q33 := eq_true q33
                                      go_wp2
                                      go_roundg k3
                                      case measure => have := HK1.out; have := HJ4.out; have := HK3.out; omega
                                      case rel => exact ⟨(wrap64 (x3_1 + x5_4)), (by first | rfl | (simp; done) | (simp [*]; done)), H', ⟨by have := HK1.out; have := HJ4.out; have := HK3.out; omega⟩, by repeat (first | exact Drawn0.refl _ | apply Drawn0.step)⟩
                                · rw [if_neg c32] at H
                                  have c32b0 : ((wrap64 (bt a0 x3_1)) == 237) = false := beq_eq_false_iff_ne.mpr c32
                                  have c32b1 : ((wrap64 (bt a0 x3_1)) != 237) = true := bne_iff_ne.mpr c32
                                  by_cases c45 : x5_4 = 4
                                  · rw [if_pos c45] at H
                                    have c45b0 : (x5_4 == 4) = true := beq_iff_eq.mpr c45
                                    have c45b1 : (x5_4 != 4) = false := bne_eq_false_iff_eq.mpr c45
                                    clear c45
                                    by_cases c46 : (wrap64 (bt a0 x3_1)) = 240
                                    · rw [if_pos c46] at H
                                      have c46b0 : ((wrap64 (bt a0 x3_1)) == 240) = true := beq_iff_eq.mpr c46
                                      have c46b1 : ((wrap64 (bt a0 x3_1)) != 240) = false := bne_eq_false_iff_eq.mpr c46
                                      clear c46
                                      by_cases c48 : (bt a0 (ji27)) < 144
                                      · rw [if_pos c48] at H
                                        have c48b0 : decide ((bt a0 (ji27)) < 144) = true := decide_eq_true c48
                                        clear c48
                                        obtain rfl := Option.some.inj H
                                        have p30 : 0 ≤ ((ji27) : Int) := of_decide_eq_true (by first | (with_reducible assumption) | assumption)
                                        have q30 : (ji27) < (a0.size : Int) := of_decide_eq_true (by first | (with_reducible assumption) | assumption)
                                        have hx30 := bt_at a0 (ji27)
                                        replace p30 := eq_true p30
                                        replace q30 := eq_true q30
                                        have p47 : 0 ≤ ((ji27) : Int) := of_decide_eq_true (by first | (with_reducible assumption) | assumption)
                                        have q47 : (ji27) < (a0.size : Int) := of_decide_eq_true (by first | (with_reducible assumption) | assumption)
                                        have hx47 := bt_at a0 (ji27)
                                        replace p47 := eq_true p47
                                        replace q47 := eq_true q47
                                        go_wp2
                                        go_ret
                                        exact ⟨by first | rfl | (simp; done) | (simp only [← hji27] <;> (first | rfl | simp)) | (simp [*]; done), by repeat (first | exact Drawn0.refl _ | apply Drawn0.step)⟩
                                      · rw [if_neg c48] at H
                                        have c48b0 : decide ((bt a0 (ji27)) < 144) = false := decide_eq_false c48
                                        clear c48
                                        by_cases c49 : (wrap64 (bt a0 x3_1)) = 244
                                        · rw [if_pos c49] at H
                                          have c49b0 : ((wrap64 (bt a0 x3_1)) == 244) = true := beq_iff_eq.mpr c49
                                          have c49b1 : ((wrap64 (bt a0 x3_1)) != 244) = false := bne_eq_false_iff_eq.mpr c49
                                          clear c49
                                          by_cases c51 : (bt a0 (ji27)) > 143
                                          · rw [if_pos c51] at H
                                            have c51b0 : decide (143 < (bt a0 (ji27))) = true := decide_eq_true c51
                                            clear c51
                                            obtain rfl := Option.some.inj H
                                            have p30 : 0 ≤ ((ji27) : Int) := of_decide_eq_true (by first | (with_reducible assumption) | assumption)
                                            have q30 : (ji27) < (a0.size : Int) := of_decide_eq_true (by first | (with_reducible assumption) | assumption)
                                            have hx30 := bt_at a0 (ji27)
                                            replace p30 := eq_true p30
                                            replace q30 := eq_true q30
                                            have p47 : 0 ≤ ((ji27) : Int) := of_decide_eq_true (by first | (with_reducible assumption) | assumption)
                                            have q47 : (ji27) < (a0.size : Int) := of_decide_eq_true (by first | (with_reducible assumption) | assumption)
                                            have hx47 := bt_at a0 (ji27)
                                            replace p47 := eq_true p47
                                            replace q47 := eq_true q47
                                            have p50 : 0 ≤ ((ji27) : Int) := of_decide_eq_true (by first | (with_reducible assumption) | assumption)
                                            have q50 : (ji27) < (a0.size : Int) := of_decide_eq_true (by first | (with_reducible assumption) | assumption)
                                            have hx50 := bt_at a0 (ji27)
                                            replace p50 := eq_true p50
                                            replace q50 := eq_true q50
                                            go_wp2
                                            go_ret
                                            exact ⟨by first | rfl | (simp; done) | (simp only [← hji27] <;> (first | rfl | simp)) | (simp [*]; done), by repeat (first | exact Drawn0.refl _ | apply Drawn0.step)⟩
                                          · rw [if_neg c51] at H
                                            have c51b0 : decide (143 < (bt a0 (ji27))) = false := decide_eq_false c51
                                            clear c51
                                            have H' := Aside0.mk H
                                            clear H
                                            have p30 : 0 ≤ ((ji27) : Int) := of_decide_eq_true (by first | (with_reducible assumption) | assumption)
                                            have q30 : (ji27) < (a0.size : Int) := of_decide_eq_true (by first | (with_reducible assumption) | assumption)
                                            have hx30 := bt_at a0 (ji27)
                                            replace p30 := eq_true p30
                                            replace q30 := eq_true q30
                                            have p47 : 0 ≤ ((ji27) : Int) := of_decide_eq_true (by first | (with_reducible assumption) | assumption)
                                            have q47 : (ji27) < (a0.size : Int) := of_decide_eq_true (by first | (with_reducible assumption) | assumption)
                                            have hx47 := bt_at a0 (ji27)
                                            replace p47 := eq_true p47
                                            replace q47 := eq_true q47
                                            have p50 : 0 ≤ ((ji27) : Int) := of_decide_eq_true (by first | (with_reducible assumption) | assumption)
                                            have q50 : (ji27) < (a0.size : Int) := of_decide_eq_true (by first | (with_reducible assumption) | assumption)
                                            have hx50 := bt_at a0 (ji27)
                                            replace p50 := eq_true p50
                                            replace q50 := eq_true q50
                                            go_wp2
                                            go_roundg k3
                                            case measure => have := HK1.out; have := HJ4.out; have := HK3.out; omega
                                            case rel => exact ⟨(wrap64 (x3_1 + x5_4)), (by first | rfl | (simp; done) | (simp [*]; done)), H', ⟨by have := HK1.out; have := HJ4.out; have := HK3.out; omega⟩, by repeat (first | exact Drawn0.refl _ | apply Drawn0.step)⟩
                                        · rw [if_neg c49] at H
                                          have c49b0 : ((wrap64 (bt a0 x3_1)) == 244) = false := beq_eq_false_iff_ne.mpr c49
                                          have c49b1 : ((wrap64 (bt a0 x3_1)) != 244) = true := bne_iff_ne.mpr c49
                                          have H' := Aside0.mk H
                                          clear H
                                          have p30 : 0 ≤ ((ji27) : Int) := of_decide_eq_true (by first | (with_reducible assumption) | assumption)
                                          have q30 : (ji27) < (a0.size : Int) := of_decide_eq_true (by first | (with_reducible assumption) | assumption)
                                          have hx30 := bt_at a0 (ji27)
                                          replace p30 := eq_true p30
                                          replace q30 := eq_true q30
                                          have p47 : 0 ≤ ((ji27) : Int) := of_decide_eq_true (by first | (with_reducible assumption) | assumption)
                                          have q47 : (ji27) < (a0.size : Int) := of_decide_eq_true (by first | (with_reducible assumption) | assumption)
                                          have hx47 := bt_at a0 (ji27)
                                          replace p47 := eq_true p47
                                          replace q47 := eq_true q47
                                          go_wp2
                                          go_roundg k3
                                          case measure => have := HK1.out; have := HJ4.out; have := HK3.out; omega
                                          case rel => exact ⟨(wrap64 (x3_1 + x5_4)), (by first | rfl | (simp; done) | (simp [*]; done)), H', ⟨by have := HK1.out; have := HJ4.out; have := HK3.out; omega⟩, by repeat (first | exact Drawn0.refl _ | apply Drawn0.step)⟩
                                    · rw [if_neg c46] at H
                                      have c46b0 : ((wrap64 (bt a0 x3_1)) == 240) = false := beq_eq_false_iff_ne.mpr c46
                                      have c46b1 : ((wrap64 (bt a0 x3_1)) != 240) = true := bne_iff_ne.mpr c46
                                      by_cases c52 : (wrap64 (bt a0 x3_1)) = 244
                                      · rw [if_pos c52] at H
                                        have c52b0 : ((wrap64 (bt a0 x3_1)) == 244) = true := beq_iff_eq.mpr c52
                                        have c52b1 : ((wrap64 (bt a0 x3_1)) != 244) = false := bne_eq_false_iff_eq.mpr c52
                                        clear c52
                                        by_cases c54 : (bt a0 (ji27)) > 143
                                        · rw [if_pos c54] at H
                                          have c54b0 : decide (143 < (bt a0 (ji27))) = true := decide_eq_true c54
                                          clear c54
                                          obtain rfl := Option.some.inj H
                                          have p30 : 0 ≤ ((ji27) : Int) := of_decide_eq_true (by first | (with_reducible assumption) | assumption)
                                          have q30 : (ji27) < (a0.size : Int) := of_decide_eq_true (by first | (with_reducible assumption) | assumption)
                                          have hx30 := bt_at a0 (ji27)
                                          replace p30 := eq_true p30
                                          replace q30 := eq_true q30
                                          have p53 : 0 ≤ ((ji27) : Int) := of_decide_eq_true (by first | (with_reducible assumption) | assumption)
                                          have q53 : (ji27) < (a0.size : Int) := of_decide_eq_true (by first | (with_reducible assumption) | assumption)
                                          have hx53 := bt_at a0 (ji27)
                                          replace p53 := eq_true p53
                                          replace q53 := eq_true q53
                                          go_wp2
                                          go_ret
                                          exact ⟨by first | rfl | (simp; done) | (simp only [← hji27] <;> (first | rfl | simp)) | (simp [*]; done), by repeat (first | exact Drawn0.refl _ | apply Drawn0.step)⟩
                                        · rw [if_neg c54] at H
                                          have c54b0 : decide (143 < (bt a0 (ji27))) = false := decide_eq_false c54
                                          clear c54
                                          have H' := Aside0.mk H
                                          clear H
                                          have p30 : 0 ≤ ((ji27) : Int) := of_decide_eq_true (by first | (with_reducible assumption) | assumption)
                                          have q30 : (ji27) < (a0.size : Int) := of_decide_eq_true (by first | (with_reducible assumption) | assumption)
                                          have hx30 := bt_at a0 (ji27)
                                          replace p30 := eq_true p30
                                          replace q30 := eq_true q30
                                          have p53 : 0 ≤ ((ji27) : Int) := of_decide_eq_true (by first | (with_reducible assumption) | assumption)
                                          have q53 : (ji27) < (a0.size : Int) := of_decide_eq_true (by first | (with_reducible assumption) | assumption)
                                          have hx53 := bt_at a0 (ji27)
                                          replace p53 := eq_true p53
                                          replace q53 := eq_true q53
                                          go_wp2
                                          go_roundg k3
                                          case measure => have := HK1.out; have := HJ4.out; have := HK3.out; omega
                                          case rel => exact ⟨(wrap64 (x3_1 + x5_4)), (by first | rfl | (simp; done) | (simp [*]; done)), H', ⟨by have := HK1.out; have := HJ4.out; have := HK3.out; omega⟩, by repeat (first | exact Drawn0.refl _ | apply Drawn0.step)⟩
                                      · rw [if_neg c52] at H
                                        have c52b0 : ((wrap64 (bt a0 x3_1)) == 244) = false := beq_eq_false_iff_ne.mpr c52
                                        have c52b1 : ((wrap64 (bt a0 x3_1)) != 244) = true := bne_iff_ne.mpr c52
                                        have H' := Aside0.mk H
                                        clear H
                                        have p30 : 0 ≤ ((ji27) : Int) := of_decide_eq_true (by first | (with_reducible assumption) | assumption)
                                        have q30 : (ji27) < (a0.size : Int) := of_decide_eq_true (by first | (with_reducible assumption) | assumption)
                                        have hx30 := bt_at a0 (ji27)
                                        replace p30 := eq_true p30
                                        replace q30 := eq_true q30
                                        go_wp2
                                        go_roundg k3
                                        case measure => have := HK1.out; have := HJ4.out; have := HK3.out; omega
                                        case rel => exact ⟨(wrap64 (x3_1 + x5_4)), (by first | rfl | (simp; done) | (simp [*]; done)), H', ⟨by have := HK1.out; have := HJ4.out; have := HK3.out; omega⟩, by repeat (first | exact Drawn0.refl _ | apply Drawn0.step)⟩
                                  · rw [if_neg c45] at H
                                    have c45b0 : (x5_4 == 4) = false := beq_eq_false_iff_ne.mpr c45
                                    have c45b1 : (x5_4 != 4) = true := bne_iff_ne.mpr c45
                                    have H' := Aside0.mk H
                                    clear H
                                    have p30 : 0 ≤ ((ji27) : Int) := of_decide_eq_true (by first | (with_reducible assumption) | assumption)
                                    have q30 : (ji27) < (a0.size : Int) := of_decide_eq_true (by first | (with_reducible assumption) | assumption)
                                    have hx30 := bt_at a0 (ji27)
                                    replace p30 := eq_true p30
                                    replace q30 := eq_true q30
                                    go_wp2
                                    go_roundg k3
                                    case measure => have := HK1.out; have := HJ4.out; have := HK3.out; omega
                                    case rel => exact ⟨(wrap64 (x3_1 + x5_4)), (by first | rfl | (simp; done) | (simp [*]; done)), H', ⟨by have := HK1.out; have := HJ4.out; have := HK3.out; omega⟩, by repeat (first | exact Drawn0.refl _ | apply Drawn0.step)⟩
                            · rw [if_neg c29] at H
                              exact absurd H (by simp)
                          · rw [if_neg c28] at H
                            exact absurd H (by simp)
                        · rw [if_neg c26] at H
                          have c26b0 : ((wrap64 (bt a0 x3_1)) == 224) = false := beq_eq_false_iff_ne.mpr c26
                          have c26b1 : ((wrap64 (bt a0 x3_1)) != 224) = true := bne_iff_ne.mpr c26
                          by_cases c55 : (wrap64 (bt a0 x3_1)) = 237
                          · rw [if_pos c55] at H
                            have c55b0 : ((wrap64 (bt a0 x3_1)) == 237) = true := beq_iff_eq.mpr c55
                            have c55b1 : ((wrap64 (bt a0 x3_1)) != 237) = false := bne_eq_false_iff_eq.mpr c55
                            clear c55
                            obtain ⟨ji56, hji56⟩ : ∃ j_ : Int, (wrap64 (x3_1 + 1)) = j_ := ⟨_, rfl⟩
                            replace H : (if 0 ≤ (ji56) then (if (ji56) < (a0.size : Int) then (if (bt a0 (ji56)) > 159 then (some false) else (if x5_4 = 4 then (if (wrap64 (bt a0 x3_1)) = 240 then (if (bt a0 (ji56)) < 144 then (some false) else (if (wrap64 (bt a0 x3_1)) = 244 then (if (bt a0 (ji56)) > 143 then (some false) else (bindleref01_Text.l0 k3 a0 (wrap64 (x3_1 + x5_4)))) else (bindleref01_Text.l0 k3 a0 (wrap64 (x3_1 + x5_4))))) else (if (wrap64 (bt a0 x3_1)) = 244 then (if (bt a0 (ji56)) > 143 then (some false) else (bindleref01_Text.l0 k3 a0 (wrap64 (x3_1 + x5_4)))) else (bindleref01_Text.l0 k3 a0 (wrap64 (x3_1 + x5_4))))) else (bindleref01_Text.l0 k3 a0 (wrap64 (x3_1 + x5_4))))) else (none)) else (none)) = some r := by first | (rw [hji56] at H; exact H) | (simp only [hji56] at H ⊢; exact H)
                            have hji56w : (IntKind.i64.wrap (x3_1 + 1)) = ji56 := (i64_w _).trans hji56
                            by_cases c57 : 0 ≤ (ji56)
                            · rw [if_pos c57] at H
                              have c57b0 : decide (0 ≤ (ji56)) = true := decide_eq_true c57
                              clear c57
                              by_cases c58 : (ji56) < (a0.size : Int)
                              · rw [if_pos c58] at H
                                have c58b0 : decide ((ji56) < (a0.size : Int)) = true := decide_eq_true c58
                                clear c58
                                by_cases c60 : (bt a0 (ji56)) > 159
                                · rw [if_pos c60] at H
                                  have c60b0 : decide (159 < (bt a0 (ji56))) = true := decide_eq_true c60
                                  clear c60
                                  obtain rfl := Option.some.inj H
                                  have p59 : 0 ≤ ((ji56) : Int) := of_decide_eq_true (by first | (with_reducible assumption) | assumption)
                                  have q59 : (ji56) < (a0.size : Int) := of_decide_eq_true (by first | (with_reducible assumption) | assumption)
                                  have hx59 := bt_at a0 (ji56)
                                  replace p59 := eq_true p59
                                  replace q59 := eq_true q59
                                  go_wp2
                                  go_ret
                                  exact ⟨by first | rfl | (simp; done) | (simp only [← hji56] <;> (first | rfl | simp)) | (simp [*]; done), by repeat (first | exact Drawn0.refl _ | apply Drawn0.step)⟩
                                · rw [if_neg c60] at H
                                  have c60b0 : decide (159 < (bt a0 (ji56))) = false := decide_eq_false c60
                                  clear c60
                                  by_cases c61 : x5_4 = 4
                                  · rw [if_pos c61] at H
                                    have c61b0 : (x5_4 == 4) = true := beq_iff_eq.mpr c61
                                    have c61b1 : (x5_4 != 4) = false := bne_eq_false_iff_eq.mpr c61
                                    clear c61
                                    by_cases c62 : (wrap64 (bt a0 x3_1)) = 240
                                    · rw [if_pos c62] at H
                                      have c62b0 : ((wrap64 (bt a0 x3_1)) == 240) = true := beq_iff_eq.mpr c62
                                      have c62b1 : ((wrap64 (bt a0 x3_1)) != 240) = false := bne_eq_false_iff_eq.mpr c62
                                      clear c62
                                      by_cases c64 : (bt a0 (ji56)) < 144
                                      · rw [if_pos c64] at H
                                        have c64b0 : decide ((bt a0 (ji56)) < 144) = true := decide_eq_true c64
                                        clear c64
                                        obtain rfl := Option.some.inj H
                                        have p59 : 0 ≤ ((ji56) : Int) := of_decide_eq_true (by first | (with_reducible assumption) | assumption)
                                        have q59 : (ji56) < (a0.size : Int) := of_decide_eq_true (by first | (with_reducible assumption) | assumption)
                                        have hx59 := bt_at a0 (ji56)
                                        replace p59 := eq_true p59
                                        replace q59 := eq_true q59
                                        have p63 : 0 ≤ ((ji56) : Int) := of_decide_eq_true (by first | (with_reducible assumption) | assumption)
                                        have q63 : (ji56) < (a0.size : Int) := of_decide_eq_true (by first | (with_reducible assumption) | assumption)
                                        have hx63 := bt_at a0 (ji56)
                                        replace p63 := eq_true p63
                                        replace q63 := eq_true q63
                                        go_wp2
                                        go_ret
                                        exact ⟨by first | rfl | (simp; done) | (simp only [← hji56] <;> (first | rfl | simp)) | (simp [*]; done), by repeat (first | exact Drawn0.refl _ | apply Drawn0.step)⟩
                                      · rw [if_neg c64] at H
                                        have c64b0 : decide ((bt a0 (ji56)) < 144) = false := decide_eq_false c64
                                        clear c64
                                        by_cases c65 : (wrap64 (bt a0 x3_1)) = 244
                                        · rw [if_pos c65] at H
                                          have c65b0 : ((wrap64 (bt a0 x3_1)) == 244) = true := beq_iff_eq.mpr c65
                                          have c65b1 : ((wrap64 (bt a0 x3_1)) != 244) = false := bne_eq_false_iff_eq.mpr c65
                                          clear c65
                                          by_cases c67 : (bt a0 (ji56)) > 143
                                          · rw [if_pos c67] at H
                                            have c67b0 : decide (143 < (bt a0 (ji56))) = true := decide_eq_true c67
                                            clear c67
                                            obtain rfl := Option.some.inj H
                                            have p59 : 0 ≤ ((ji56) : Int) := of_decide_eq_true (by first | (with_reducible assumption) | assumption)
                                            have q59 : (ji56) < (a0.size : Int) := of_decide_eq_true (by first | (with_reducible assumption) | assumption)
                                            have hx59 := bt_at a0 (ji56)
                                            replace p59 := eq_true p59
                                            replace q59 := eq_true q59
                                            have p63 : 0 ≤ ((ji56) : Int) := of_decide_eq_true (by first | (with_reducible assumption) | assumption)
                                            have q63 : (ji56) < (a0.size : Int) := of_decide_eq_true (by first | (with_reducible assumption) | assumption)
                                            have hx63 := bt_at a0 (ji56)
                                            replace p63 := eq_true p63
                                            replace q63 := eq_true q63
                                            have p66 : 0 ≤ ((ji56) : Int) := of_decide_eq_true (by first | (with_reducible assumption) | assumption)
                                            have q66 : (ji56) < (a0.size : Int) := of_decide_eq_true (by first | (with_reducible assumption) | assumption)
                                            have hx66 := bt_at a0 (ji56)
                                            replace p66 := eq_true p66
                                            replace q66 := eq_true q66
                                            go_wp2
                                            go_ret
                                            exact ⟨by first | rfl | (simp; done) | (simp only [← hji56] <;> (first | rfl | simp)) | (simp [*]; done), by repeat (first | exact Drawn0.refl _ | apply Drawn0.step)⟩
                                          · rw [if_neg c67] at H
                                            have c67b0 : decide (143 < (bt a0 (ji56))) = false := decide_eq_false c67
                                            clear c67
                                            have H' := Aside0.mk H
                                            clear H
                                            have p59 : 0 ≤ ((ji56) : Int) := of_decide_eq_true (by first | (with_reducible assumption) | assumption)
                                            have q59 : (ji56) < (a0.size : Int) := of_decide_eq_true (by first | (with_reducible assumption) | assumption)
                                            have hx59 := bt_at a0 (ji56)
                                            replace p59 := eq_true p59
                                            replace q59 := eq_true q59
                                            have p63 : 0 ≤ ((ji56) : Int) := of_decide_eq_true (by first | (with_reducible assumption) | assumption)
                                            have q63 : (ji56) < (a0.size : Int) := of_decide_eq_true (by first | (with_reducible assumption) | assumption)
                                            have hx63 := bt_at a0 (ji56)
                                            replace p63 := eq_true p63
                                            replace q63 := eq_true q63
                                            have p66 : 0 ≤ ((ji56) : Int) := of_decide_eq_true (by first | (with_reducible assumption) | assumption)
                                            have q66 : (ji56) < (a0.size : Int) := of_decide_eq_true (by first | (with_reducible assumption) | assumption)
                                            have hx66 := bt_at a0 (ji56)
                                            replace p66 := eq_true p66
                                            replace q66 := eq_true q66
                                            go_wp2
                                            go_roundg k3
                                            case measure => have := HK1.out; have := HJ4.out; have := HK3.out; omega
                                            case rel => exact ⟨(wrap64 (x3_1 + x5_4)), (by first | rfl | (simp; done) | (simp [*]; done)), H', ⟨by have := HK1.out; have := HJ4.out; have := HK3.out; omega⟩, by repeat (first | exact Drawn0.refl _ | apply Drawn0.step)⟩
                                        · rw [if_neg c65] at H
                                          have c65b0 : ((wrap64 (bt a0 x3_1)) == 244) = false := beq_eq_false_iff_ne.mpr c65
                                          have c65b1 : ((wrap64 (bt a0 x3_1)) != 244) = true := bne_iff_ne.mpr c65
                                          have H' := Aside0.mk H
                                          clear H
                                          have p59 : 0 ≤ ((ji56) : Int) := of_decide_eq_true (by first | (with_reducible assumption) | assumption)
                                          have q59 : (ji56) < (a0.size : Int) := of_decide_eq_true (by first | (with_reducible assumption) | assumption)
                                          have hx59 := bt_at a0 (ji56)
                                          replace p59 := eq_true p59
                                          replace q59 := eq_true q59
                                          have p63 : 0 ≤ ((ji56) : Int) := of_decide_eq_true (by first | (with_reducible assumption) | assumption)
                                          have q63 : (ji56) < (a0.size : Int) := of_decide_eq_true (by first | (with_reducible assumption) | assumption)
                                          have hx63 := bt_at a0 (ji56)
                                          replace p63 := eq_true p63
                                          replace q63 := eq_true q63
                                          go_wp2
                                          go_roundg k3
                                          case measure => have := HK1.out; have := HJ4.out; have := HK3.out; omega
                                          case rel => exact ⟨(wrap64 (x3_1 + x5_4)), (by first | rfl | (simp; done) | (simp [*]; done)), H', ⟨by have := HK1.out; have := HJ4.out; have := HK3.out; omega⟩, by repeat (first | exact Drawn0.refl _ | apply Drawn0.step)⟩
                                    · rw [if_neg c62] at H
                                      have c62b0 : ((wrap64 (bt a0 x3_1)) == 240) = false := beq_eq_false_iff_ne.mpr c62
                                      have c62b1 : ((wrap64 (bt a0 x3_1)) != 240) = true := bne_iff_ne.mpr c62
                                      by_cases c68 : (wrap64 (bt a0 x3_1)) = 244
                                      · rw [if_pos c68] at H
                                        have c68b0 : ((wrap64 (bt a0 x3_1)) == 244) = true := beq_iff_eq.mpr c68
                                        have c68b1 : ((wrap64 (bt a0 x3_1)) != 244) = false := bne_eq_false_iff_eq.mpr c68
                                        clear c68
                                        by_cases c70 : (bt a0 (ji56)) > 143
                                        · rw [if_pos c70] at H
                                          have c70b0 : decide (143 < (bt a0 (ji56))) = true := decide_eq_true c70
                                          clear c70
                                          obtain rfl := Option.some.inj H
                                          have p59 : 0 ≤ ((ji56) : Int) := of_decide_eq_true (by first | (with_reducible assumption) | assumption)
                                          have q59 : (ji56) < (a0.size : Int) := of_decide_eq_true (by first | (with_reducible assumption) | assumption)
                                          have hx59 := bt_at a0 (ji56)
                                          replace p59 := eq_true p59
                                          replace q59 := eq_true q59
                                          have p69 : 0 ≤ ((ji56) : Int) := of_decide_eq_true (by first | (with_reducible assumption) | assumption)
                                          have q69 : (ji56) < (a0.size : Int) := of_decide_eq_true (by first | (with_reducible assumption) | assumption)
                                          have hx69 := bt_at a0 (ji56)
                                          replace p69 := eq_true p69
                                          replace q69 := eq_true q69
                                          go_wp2
                                          go_ret
                                          exact ⟨by first | rfl | (simp; done) | (simp only [← hji56] <;> (first | rfl | simp)) | (simp [*]; done), by repeat (first | exact Drawn0.refl _ | apply Drawn0.step)⟩
                                        · rw [if_neg c70] at H
                                          have c70b0 : decide (143 < (bt a0 (ji56))) = false := decide_eq_false c70
                                          clear c70
                                          have H' := Aside0.mk H
                                          clear H
                                          have p59 : 0 ≤ ((ji56) : Int) := of_decide_eq_true (by first | (with_reducible assumption) | assumption)
                                          have q59 : (ji56) < (a0.size : Int) := of_decide_eq_true (by first | (with_reducible assumption) | assumption)
                                          have hx59 := bt_at a0 (ji56)
                                          replace p59 := eq_true p59
                                          replace q59 := eq_true q59
                                          have p69 : 0 ≤ ((ji56) : Int) := of_decide_eq_true (by first | (with_reducible assumption) | assumption)
                                          have q69 : (ji56) < (a0.size : Int) := of_decide_eq_true (by first | (with_reducible assumption) | assumption)
                                          have hx69 := bt_at a0 (ji56)
                                          replace p69 := eq_true p69
                                          replace q69 := eq_true q69
                                          go_wp2
                                          go_roundg k3
                                          case measure => have := HK1.out; have := HJ4.out; have := HK3.out; omega
                                          case rel => exact ⟨(wrap64 (x3_1 + x5_4)), (by first | rfl | (simp; done) | (simp [*]; done)), H', ⟨by have := HK1.out; have := HJ4.out; have := HK3.out; omega⟩, by repeat (first | exact Drawn0.refl _ | apply Drawn0.step)⟩
                                      · rw [if_neg c68] at H
                                        have c68b0 : ((wrap64 (bt a0 x3_1)) == 244) = false := beq_eq_false_iff_ne.mpr c68
                                        have c68b1 : ((wrap64 (bt a0 x3_1)) != 244) = true := bne_iff_ne.mpr c68
                                        have H' := Aside0.mk H
                                        clear H
                                        have p59 : 0 ≤ ((ji56) : Int) := of_decide_eq_true (by first | (with_reducible assumption) | assumption)
                                        have q59 : (ji56) < (a0.size : Int) := of_decide_eq_true (by first | (with_reducible assumption) | assumption)
                                        have hx59 := bt_at a0 (ji56)
                                        replace p59 := eq_true p59
                                        replace q59 := eq_true q59
                                        go_wp2
                                        go_roundg k3
                                        case measure => have := HK1.out; have := HJ4.out; have := HK3.out; omega
                                        case rel => exact ⟨(wrap64 (x3_1 + x5_4)), (by first | rfl | (simp; done) | (simp [*]; done)), H', ⟨by have := HK1.out; have := HJ4.out; have := HK3.out; omega⟩, by repeat (first | exact Drawn0.refl _ | apply Drawn0.step)⟩
                                  · rw [if_neg c61] at H
                                    have c61b0 : (x5_4 == 4) = false := beq_eq_false_iff_ne.mpr c61
                                    have c61b1 : (x5_4 != 4) = true := bne_iff_ne.mpr c61
                                    have H' := Aside0.mk H
                                    clear H
                                    have p59 : 0 ≤ ((ji56) : Int) := of_decide_eq_true (by first | (with_reducible assumption) | assumption)
                                    have q59 : (ji56) < (a0.size : Int) := of_decide_eq_true (by first | (with_reducible assumption) | assumption)
                                    have hx59 := bt_at a0 (ji56)
                                    replace p59 := eq_true p59
                                    replace q59 := eq_true q59
                                    go_wp2
                                    go_roundg k3
                                    case measure => have := HK1.out; have := HJ4.out; have := HK3.out; omega
                                    case rel => exact ⟨(wrap64 (x3_1 + x5_4)), (by first | rfl | (simp; done) | (simp [*]; done)), H', ⟨by have := HK1.out; have := HJ4.out; have := HK3.out; omega⟩, by repeat (first | exact Drawn0.refl _ | apply Drawn0.step)⟩
                              · rw [if_neg c58] at H
                                exact absurd H (by simp)
                            · rw [if_neg c57] at H
                              exact absurd H (by simp)
                          · rw [if_neg c55] at H
                            have c55b0 : ((wrap64 (bt a0 x3_1)) == 237) = false := beq_eq_false_iff_ne.mpr c55
                            have c55b1 : ((wrap64 (bt a0 x3_1)) != 237) = true := bne_iff_ne.mpr c55
                            by_cases c71 : x5_4 = 4
                            · rw [if_pos c71] at H
                              have c71b0 : (x5_4 == 4) = true := beq_iff_eq.mpr c71
                              have c71b1 : (x5_4 != 4) = false := bne_eq_false_iff_eq.mpr c71
                              clear c71
                              by_cases c72 : (wrap64 (bt a0 x3_1)) = 240
                              · rw [if_pos c72] at H
                                have c72b0 : ((wrap64 (bt a0 x3_1)) == 240) = true := beq_iff_eq.mpr c72
                                have c72b1 : ((wrap64 (bt a0 x3_1)) != 240) = false := bne_eq_false_iff_eq.mpr c72
                                clear c72
                                obtain ⟨ji73, hji73⟩ : ∃ j_ : Int, (wrap64 (x3_1 + 1)) = j_ := ⟨_, rfl⟩
                                replace H : (if 0 ≤ (ji73) then (if (ji73) < (a0.size : Int) then (if (bt a0 (ji73)) < 144 then (some false) else (if (wrap64 (bt a0 x3_1)) = 244 then (if (bt a0 (ji73)) > 143 then (some false) else (bindleref01_Text.l0 k3 a0 (wrap64 (x3_1 + x5_4)))) else (bindleref01_Text.l0 k3 a0 (wrap64 (x3_1 + x5_4))))) else (none)) else (none)) = some r := by first | (rw [hji73] at H; exact H) | (simp only [hji73] at H ⊢; exact H)
                                have hji73w : (IntKind.i64.wrap (x3_1 + 1)) = ji73 := (i64_w _).trans hji73
                                by_cases c74 : 0 ≤ (ji73)
                                · rw [if_pos c74] at H
                                  have c74b0 : decide (0 ≤ (ji73)) = true := decide_eq_true c74
                                  clear c74
                                  by_cases c75 : (ji73) < (a0.size : Int)
                                  · rw [if_pos c75] at H
                                    have c75b0 : decide ((ji73) < (a0.size : Int)) = true := decide_eq_true c75
                                    clear c75
                                    by_cases c77 : (bt a0 (ji73)) < 144
                                    · rw [if_pos c77] at H
                                      have c77b0 : decide ((bt a0 (ji73)) < 144) = true := decide_eq_true c77
                                      clear c77
                                      obtain rfl := Option.some.inj H
                                      have p76 : 0 ≤ ((ji73) : Int) := of_decide_eq_true (by first | (with_reducible assumption) | assumption)
                                      have q76 : (ji73) < (a0.size : Int) := of_decide_eq_true (by first | (with_reducible assumption) | assumption)
                                      have hx76 := bt_at a0 (ji73)
                                      replace p76 := eq_true p76
                                      replace q76 := eq_true q76
                                      go_wp2
                                      go_ret
                                      exact ⟨by first | rfl | (simp; done) | (simp only [← hji73] <;> (first | rfl | simp)) | (simp [*]; done), by repeat (first | exact Drawn0.refl _ | apply Drawn0.step)⟩
                                    · rw [if_neg c77] at H
                                      have c77b0 : decide ((bt a0 (ji73)) < 144) = false := decide_eq_false c77
                                      clear c77
                                      by_cases c78 : (wrap64 (bt a0 x3_1)) = 244
                                      · rw [if_pos c78] at H
                                        have c78b0 : ((wrap64 (bt a0 x3_1)) == 244) = true := beq_iff_eq.mpr c78
                                        have c78b1 : ((wrap64 (bt a0 x3_1)) != 244) = false := bne_eq_false_iff_eq.mpr c78
                                        clear c78
                                        by_cases c80 : (bt a0 (ji73)) > 143
                                        · rw [if_pos c80] at H
                                          have c80b0 : decide (143 < (bt a0 (ji73))) = true := decide_eq_true c80
                                          clear c80
                                          obtain rfl := Option.some.inj H
                                          have p76 : 0 ≤ ((ji73) : Int) := of_decide_eq_true (by first | (with_reducible assumption) | assumption)
                                          have q76 : (ji73) < (a0.size : Int) := of_decide_eq_true (by first | (with_reducible assumption) | assumption)
                                          have hx76 := bt_at a0 (ji73)
                                          replace p76 := eq_true p76
                                          replace q76 := eq_true q76
                                          have p79 : 0 ≤ ((ji73) : Int) := of_decide_eq_true (by first | (with_reducible assumption) | assumption)
                                          have q79 : (ji73) < (a0.size : Int) := of_decide_eq_true (by first | (with_reducible assumption) | assumption)
                                          have hx79 := bt_at a0 (ji73)
                                          replace p79 := eq_true p79
                                          replace q79 := eq_true q79
                                          go_wp2
                                          go_ret
                                          exact ⟨by first | rfl | (simp; done) | (simp only [← hji73] <;> (first | rfl | simp)) | (simp [*]; done), by repeat (first | exact Drawn0.refl _ | apply Drawn0.step)⟩
                                        · rw [if_neg c80] at H
                                          have c80b0 : decide (143 < (bt a0 (ji73))) = false := decide_eq_false c80
                                          clear c80
                                          have H' := Aside0.mk H
                                          clear H
                                          have p76 : 0 ≤ ((ji73) : Int) := of_decide_eq_true (by first | (with_reducible assumption) | assumption)
                                          have q76 : (ji73) < (a0.size : Int) := of_decide_eq_true (by first | (with_reducible assumption) | assumption)
                                          have hx76 := bt_at a0 (ji73)
                                          replace p76 := eq_true p76
                                          replace q76 := eq_true q76
                                          have p79 : 0 ≤ ((ji73) : Int) := of_decide_eq_true (by first | (with_reducible assumption) | assumption)
                                          have q79 : (ji73) < (a0.size : Int) := of_decide_eq_true (by first | (with_reducible assumption) | assumption)
                                          have hx79 := bt_at a0 (ji73)
                                          replace p79 := eq_true p79
                                          replace q79 := eq_true q79
                                          go_wp2
                                          go_roundg k3
                                          case measure => have := HK1.out; have := HJ4.out; have := HK3.out; omega
                                          case rel => exact ⟨(wrap64 (x3_1 + x5_4)), (by first | rfl | (simp; done) | (simp [*]; done)), H', ⟨by have := HK1.out; have := HJ4.out; have := HK3.out; omega⟩, by repeat (first | exact Drawn0.refl _ | apply Drawn0.step)⟩
                                      · rw [if_neg c78] at H
                                        have c78b0 : ((wrap64 (bt a0 x3_1)) == 244) = false := beq_eq_false_iff_ne.mpr c78
                                        have c78b1 : ((wrap64 (bt a0 x3_1)) != 244) = true := bne_iff_ne.mpr c78
                                        have H' := Aside0.mk H
                                        clear H
                                        have p76 : 0 ≤ ((ji73) : Int) := of_decide_eq_true (by first | (with_reducible assumption) | assumption)
                                        have q76 : (ji73) < (a0.size : Int) := of_decide_eq_true (by first | (with_reducible assumption) | assumption)
                                        have hx76 := bt_at a0 (ji73)
                                        replace p76 := eq_true p76
                                        replace q76 := eq_true q76
                                        go_wp2
                                        go_roundg k3
                                        case measure => have := HK1.out; have := HJ4.out; have := HK3.out; omega
                                        case rel => exact ⟨(wrap64 (x3_1 + x5_4)), (by first | rfl | (simp; done) | (simp [*]; done)), H', ⟨by have := HK1.out; have := HJ4.out; have := HK3.out; omega⟩, by repeat (first | exact Drawn0.refl _ | apply Drawn0.step)⟩
                                  · rw [if_neg c75] at H
                                    exact absurd H (by simp)
                                · rw [if_neg c74] at H
                                  exact absurd H (by simp)
                              · rw [if_neg c72] at H
                                have c72b0 : ((wrap64 (bt a0 x3_1)) == 240) = false := beq_eq_false_iff_ne.mpr c72
                                have c72b1 : ((wrap64 (bt a0 x3_1)) != 240) = true := bne_iff_ne.mpr c72
                                by_cases c81 : (wrap64 (bt a0 x3_1)) = 244
                                · rw [if_pos c81] at H
                                  have c81b0 : ((wrap64 (bt a0 x3_1)) == 244) = true := beq_iff_eq.mpr c81
                                  have c81b1 : ((wrap64 (bt a0 x3_1)) != 244) = false := bne_eq_false_iff_eq.mpr c81
                                  clear c81
                                  obtain ⟨ji82, hji82⟩ : ∃ j_ : Int, (wrap64 (x3_1 + 1)) = j_ := ⟨_, rfl⟩
                                  replace H : (if 0 ≤ (ji82) then (if (ji82) < (a0.size : Int) then (if (bt a0 (ji82)) > 143 then (some false) else (bindleref01_Text.l0 k3 a0 (wrap64 (x3_1 + x5_4)))) else (none)) else (none)) = some r := by first | (rw [hji82] at H; exact H) | (simp only [hji82] at H ⊢; exact H)
                                  have hji82w : (IntKind.i64.wrap (x3_1 + 1)) = ji82 := (i64_w _).trans hji82
                                  by_cases c83 : 0 ≤ (ji82)
                                  · rw [if_pos c83] at H
                                    have c83b0 : decide (0 ≤ (ji82)) = true := decide_eq_true c83
                                    clear c83
                                    by_cases c84 : (ji82) < (a0.size : Int)
                                    · rw [if_pos c84] at H
                                      have c84b0 : decide ((ji82) < (a0.size : Int)) = true := decide_eq_true c84
                                      clear c84
                                      by_cases c86 : (bt a0 (ji82)) > 143
                                      · rw [if_pos c86] at H
                                        have c86b0 : decide (143 < (bt a0 (ji82))) = true := decide_eq_true c86
                                        clear c86
                                        obtain rfl := Option.some.inj H
                                        have p85 : 0 ≤ ((ji82) : Int) := of_decide_eq_true (by first | (with_reducible assumption) | assumption)
                                        have q85 : (ji82) < (a0.size : Int) := of_decide_eq_true (by first | (with_reducible assumption) | assumption)
                                        have hx85 := bt_at a0 (ji82)
                                        replace p85 := eq_true p85
                                        replace q85 := eq_true q85
                                        go_wp2
                                        go_ret
                                        exact ⟨by first | rfl | (simp; done) | (simp only [← hji82] <;> (first | rfl | simp)) | (simp [*]; done), by repeat (first | exact Drawn0.refl _ | apply Drawn0.step)⟩
                                      · rw [if_neg c86] at H
                                        have c86b0 : decide (143 < (bt a0 (ji82))) = false := decide_eq_false c86
                                        clear c86
                                        have H' := Aside0.mk H
                                        clear H
                                        have p85 : 0 ≤ ((ji82) : Int) := of_decide_eq_true (by first | (with_reducible assumption) | assumption)
                                        have q85 : (ji82) < (a0.size : Int) := of_decide_eq_true (by first | (with_reducible assumption) | assumption)
                                        have hx85 := bt_at a0 (ji82)
                                        replace p85 := eq_true p85
                                        replace q85 := eq_true q85
                                        go_wp2
                                        go_roundg k3
                                        case measure => have := HK1.out; have := HJ4.out; have := HK3.out; omega
                                        case rel => exact ⟨(wrap64 (x3_1 + x5_4)), (by first | rfl | (simp; done) | (simp [*]; done)), H', ⟨by have := HK1.out; have := HJ4.out; have := HK3.out; omega⟩, by repeat (first | exact Drawn0.refl _ | apply Drawn0.step)⟩
                                    · rw [if_neg c84] at H
                                      exact absurd H (by simp)
                                  · rw [if_neg c83] at H
                                    exact absurd H (by simp)
                                · rw [if_neg c81] at H
                                  have c81b0 : ((wrap64 (bt a0 x3_1)) == 244) = false := beq_eq_false_iff_ne.mpr c81
                                  have c81b1 : ((wrap64 (bt a0 x3_1)) != 244) = true := bne_iff_ne.mpr c81
                                  have H' := Aside0.mk H
                                  clear H
                                  go_wp2
                                  go_roundg k3
                                  case measure => have := HK1.out; have := HJ4.out; have := HK3.out; omega
                                  case rel => exact ⟨(wrap64 (x3_1 + x5_4)), (by first | rfl | (simp; done) | (simp [*]; done)), H', ⟨by have := HK1.out; have := HJ4.out; have := HK3.out; omega⟩, by repeat (first | exact Drawn0.refl _ | apply Drawn0.step)⟩
                            · rw [if_neg c71] at H
                              have c71b0 : (x5_4 == 4) = false := beq_eq_false_iff_ne.mpr c71
                              have c71b1 : (x5_4 != 4) = true := bne_iff_ne.mpr c71
                              have H' := Aside0.mk H
                              clear H
                              go_wp2
                              go_roundg k3
                              case measure => have := HK1.out; have := HJ4.out; have := HK3.out; omega
                              case rel => exact ⟨(wrap64 (x3_1 + x5_4)), (by first | rfl | (simp; done) | (simp [*]; done)), H', ⟨by have := HK1.out; have := HJ4.out; have := HK3.out; omega⟩, by repeat (first | exact Drawn0.refl _ | apply Drawn0.step)⟩
                      · rw [if_neg c25] at H
                        have c25b0 : (x5_4 == 3) = false := beq_eq_false_iff_ne.mpr c25
                        have c25b1 : (x5_4 != 3) = true := bne_iff_ne.mpr c25
                        by_cases c87 : x5_4 = 4
                        · rw [if_pos c87] at H
                          have c87b0 : (x5_4 == 4) = true := beq_iff_eq.mpr c87
                          have c87b1 : (x5_4 != 4) = false := bne_eq_false_iff_eq.mpr c87
                          clear c87
                          by_cases c88 : (wrap64 (bt a0 x3_1)) = 240
                          · rw [if_pos c88] at H
                            have c88b0 : ((wrap64 (bt a0 x3_1)) == 240) = true := beq_iff_eq.mpr c88
                            have c88b1 : ((wrap64 (bt a0 x3_1)) != 240) = false := bne_eq_false_iff_eq.mpr c88
                            clear c88
                            obtain ⟨ji89, hji89⟩ : ∃ j_ : Int, (wrap64 (x3_1 + 1)) = j_ := ⟨_, rfl⟩
                            replace H : (if 0 ≤ (ji89) then (if (ji89) < (a0.size : Int) then (if (bt a0 (ji89)) < 144 then (some false) else (if (wrap64 (bt a0 x3_1)) = 244 then (if (bt a0 (ji89)) > 143 then (some false) else (bindleref01_Text.l0 k3 a0 (wrap64 (x3_1 + x5_4)))) else (bindleref01_Text.l0 k3 a0 (wrap64 (x3_1 + x5_4))))) else (none)) else (none)) = some r := by first | (rw [hji89] at H; exact H) | (simp only [hji89] at H ⊢; exact H)
                            have hji89w : (IntKind.i64.wrap (x3_1 + 1)) = ji89 := (i64_w _).trans hji89
                            by_cases c90 : 0 ≤ (ji89)
                            · rw [if_pos c90] at H
                              have c90b0 : decide (0 ≤ (ji89)) = true := decide_eq_true c90
                              clear c90
                              by_cases c91 : (ji89) < (a0.size : Int)
                              · rw [if_pos c91] at H
                                have c91b0 : decide ((ji89) < (a0.size : Int)) = true := decide_eq_true c91
                                clear c91
                                by_cases c93 : (bt a0 (ji89)) < 144
                                · rw [if_pos c93] at H
                                  have c93b0 : decide ((bt a0 (ji89)) < 144) = true := decide_eq_true c93
                                  clear c93
                                  obtain rfl := Option.some.inj H
                                  have p92 : 0 ≤ ((ji89) : Int) := of_decide_eq_true (by first | (with_reducible assumption) | assumption)
                                  have q92 : (ji89) < (a0.size : Int) := of_decide_eq_true (by first | (with_reducible assumption) | assumption)
                                  have hx92 := bt_at a0 (ji89)
                                  replace p92 := eq_true p92
                                  replace q92 := eq_true q92
                                  go_wp2
                                  go_ret
                                  exact ⟨by first | rfl | (simp; done) | (simp only [← hji89] <;> (first | rfl | simp)) | (simp [*]; done), by repeat (first | exact Drawn0.refl _ | apply Drawn0.step)⟩
                                · rw [if_neg c93] at H
                                  have c93b0 : decide ((bt a0 (ji89)) < 144) = false := decide_eq_false c93
                                  clear c93
                                  by_cases c94 : (wrap64 (bt a0 x3_1)) = 244
                                  · rw [if_pos c94] at H
                                    have c94b0 : ((wrap64 (bt a0 x3_1)) == 244) = true := beq_iff_eq.mpr c94
                                    have c94b1 : ((wrap64 (bt a0 x3_1)) != 244) = false := bne_eq_false_iff_eq.mpr c94
                                    clear c94
                                    by_cases c96 : (bt a0 (ji89)) > 143
                                    · rw [if_pos c96] at H
                                      have c96b0 : decide (143 < (bt a0 (ji89))) = true := decide_eq_true c96
                                      clear c96
                                      obtain rfl := Option.some.inj H
                                      have p92 : 0 ≤ ((ji89) : Int) := of_decide_eq_true (by first | (with_reducible assumption) | assumption)
                                      have q92 : (ji89) < (a0.size : Int) := of_decide_eq_true (by first | (with_reducible assumption) | assumption)
                                      have hx92 := bt_at a0 (ji89)
                                      replace p92 := eq_true p92
                                      replace q92 := eq_true q92
                                      have p95 : 0 ≤ ((ji89) : Int) := of_decide_eq_true (by first | (with_reducible assumption) | assumption)
                                      have q95 : (ji89) < (a0.size : Int) := of_decide_eq_true (by first | (with_reducible assumption) | assumption)
                                      have hx95 := bt_at a0 (ji89)
                                      replace p95 := eq_true p95
                                      replace q95 := eq_true q95
                                      go_wp2
                                      go_ret
                                      exact ⟨by first | rfl | (simp; done) | (simp only [← hji89] <;> (first | rfl | simp)) | (simp [*]; done), by repeat (first | exact Drawn0.refl _ | apply Drawn0.step)⟩
                                    · rw [if_neg c96] at H
                                      have c96b0 : decide (143 < (bt a0 (ji89))) = false := decide_eq_false c96
                                      clear c96
                                      have H' := Aside0.mk H
                                      clear H
                                      have p92 : 0 ≤ ((ji89) : Int) := of_decide_eq_true (by first | (with_reducible assumption) | assumption)
                                      have q92 : (ji89) < (a0.size : Int) := of_decide_eq_true (by first | (with_reducible assumption) | assumption)
                                      have hx92 := bt_at a0 (ji89)
                                      replace p92 := eq_true p92
                                      replace q92 := eq_true q92
                                      have p95 : 0 ≤ ((ji89) : Int) := of_decide_eq_true (by first | (with_reducible assumption) | assumption)
                                      have q95 : (ji89) < (a0.size : Int) := of_decide_eq_true (by first | (with_reducible assumption) | assumption)
                                      have hx95 := bt_at a0 (ji89)
                                      replace p95 := eq_true p95
                                      replace q95 := eq_true q95
                                      go_wp2
                                      go_roundg k3
                                      case measure => have := HK1.out; have := HJ4.out; have := HK3.out; omega
                                      case rel => exact ⟨(wrap64 (x3_1 + x5_4)), (by first | rfl | (simp; done) | (simp [*]; done)), H', ⟨by have := HK1.out; have := HJ4.out; have := HK3.out; omega⟩, by repeat (first | exact Drawn0.refl _ | apply Drawn0.step)⟩
                                  · rw [if_neg c94] at H
                                    have c94b0 : ((wrap64 (bt a0 x3_1)) == 244) = false := beq_eq_false_iff_ne.mpr c94
                                    have c94b1 : ((wrap64 (bt a0 x3_1)) != 244) = true := bne_iff_ne.mpr c94
                                    have H' := Aside0.mk H
                                    clear H
                                    have p92 : 0 ≤ ((ji89) : Int) := of_decide_eq_true (by first | (with_reducible assumption) | assumption)
                                    have q92 : (ji89) < (a0.size : Int) := of_decide_eq_true (by first | (with_reducible assumption) | assumption)
                                    have hx92 := bt_at a0 (ji89)
                                    replace p92 := eq_true p92
                                    replace q92 := eq_true q92
                                    go_wp2
                                    go_roundg k3
                                    case measure => have := HK1.out; have := HJ4.out; have := HK3.out; omega
                                    case rel => exact ⟨(wrap64 (x3_1 + x5_4)), (by first | rfl | (simp; done) | (simp [*]; done)), H', ⟨by have := HK1.out; have := HJ4.out; have := HK3.out; omega⟩, by repeat (first | exact Drawn0.refl _ | apply Drawn0.step)⟩
                              · rw [if_neg c91] at H
                                exact absurd H (by simp)
                            · rw [if_neg c90] at H
                              exact absurd H (by simp)
                          · rw [if_neg c88] at H
                            have c88b0 : ((wrap64 (bt a0 x3_1)) == 240) = false := beq_eq_false_iff_ne.mpr c88
                            have c88b1 : ((wrap64 (bt a0 x3_1)) != 240) = true := bne_iff_ne.mpr c88
                            by_cases c97 : (wrap64 (bt a0 x3_1)) = 244
                            · rw [if_pos c97] at H
                              have c97b0 : ((wrap64 (bt a0 x3_1)) == 244) = true := beq_iff_eq.mpr c97
                              have c97b1 : ((wrap64 (bt a0 x3_1)) != 244) = false := bne_eq_false_iff_eq.mpr c97
                              clear c97
                              obtain ⟨ji98, hji98⟩ : ∃ j_ : Int, (wrap64 (x3_1 + 1)) = j_ := ⟨_, rfl⟩
                              replace H : (if 0 ≤ (ji98) then (if (ji98) < (a0.size : Int) then (if (bt a0 (ji98)) > 143 then (some false) else (bindleref01_Text.l0 k3 a0 (wrap64 (x3_1 + x5_4)))) else (none)) else (none)) = some r := by first | (rw [hji98] at H; exact H) | (simp only [hji98] at H ⊢; exact H)
                              have hji98w : (IntKind.i64.wrap (x3_1 + 1)) = ji98 := (i64_w _).trans hji98
                              by_cases c99 : 0 ≤ (ji98)
                              · rw [if_pos c99] at H
                                have c99b0 : decide (0 ≤ (ji98)) = true := decide_eq_true c99
                                clear c99
                                by_cases c100 : (ji98) < (a0.size : Int)
                                · rw [if_pos c100] at H
                                  have c100b0 : decide ((ji98) < (a0.size : Int)) = true := decide_eq_true c100
                                  clear c100
                                  by_cases c102 : (bt a0 (ji98)) > 143
                                  · rw [if_pos c102] at H
                                    have c102b0 : decide (143 < (bt a0 (ji98))) = true := decide_eq_true c102
                                    clear c102
                                    obtain rfl := Option.some.inj H
                                    have p101 : 0 ≤ ((ji98) : Int) := of_decide_eq_true (by first | (with_reducible assumption) | assumption)
                                    have q101 : (ji98) < (a0.size : Int) := of_decide_eq_true (by first | (with_reducible assumption) | assumption)
                                    have hx101 := bt_at a0 (ji98)
                                    replace p101 := eq_true p101
                                    replace q101 := eq_true q101
                                    go_wp2
                                    go_ret
                                    exact ⟨by first | rfl | (simp; done) | (simp only [← hji98] <;> (first | rfl | simp)) | (simp [*]; done), by repeat (first | exact Drawn0.refl _ | apply Drawn0.step)⟩
                                  · rw [if_neg c102] at H
                                    have c102b0 : decide (143 < (bt a0 (ji98))) = false := decide_eq_false c102
                                    clear c102
                                    have H' := Aside0.mk H
                                    clear H
                                    have p101 : 0 ≤ ((ji98) : Int) := of_decide_eq_true (by first | (with_reducible assumption) | assumption)
                                    have q101 : (ji98) < (a0.size : Int) := of_decide_eq_true (by first | (with_reducible assumption) | assumption)
                                    have hx101 := bt_at a0 (ji98)
                                    replace p101 := eq_true p101
                                    replace q101 := eq_true q101
                                    go_wp2
                                    go_roundg k3
                                    case measure => have := HK1.out; have := HJ4.out; have := HK3.out; omega
                                    case rel => exact ⟨(wrap64 (x3_1 + x5_4)), (by first | rfl | (simp; done) | (simp [*]; done)), H', ⟨by have := HK1.out; have := HJ4.out; have := HK3.out; omega⟩, by repeat (first | exact Drawn0.refl _ | apply Drawn0.step)⟩
                                · rw [if_neg c100] at H
                                  exact absurd H (by simp)
                              · rw [if_neg c99] at H
                                exact absurd H (by simp)
                            · rw [if_neg c97] at H
                              have c97b0 : ((wrap64 (bt a0 x3_1)) == 244) = false := beq_eq_false_iff_ne.mpr c97
                              have c97b1 : ((wrap64 (bt a0 x3_1)) != 244) = true := bne_iff_ne.mpr c97
                              have H' := Aside0.mk H
                              clear H
                              go_wp2
                              go_roundg k3
                              case measure => have := HK1.out; have := HJ4.out; have := HK3.out; omega
                              case rel => exact ⟨(wrap64 (x3_1 + x5_4)), (by first | rfl | (simp; done) | (simp [*]; done)), H', ⟨by have := HK1.out; have := HJ4.out; have := HK3.out; omega⟩, by repeat (first | exact Drawn0.refl _ | apply Drawn0.step)⟩
                        · rw [if_neg c87] at H
                          have c87b0 : (x5_4 == 4) = false := beq_eq_false_iff_ne.mpr c87
                          have c87b1 : (x5_4 != 4) = true := bne_iff_ne.mpr c87
                          have H' := Aside0.mk H
                          clear H
                          go_wp2
                          go_roundg k3
                          case measure => have := HK1.out; have := HJ4.out; have := HK3.out; omega
                          case rel => exact ⟨(wrap64 (x3_1 + x5_4)), (by first | rfl | (simp; done) | (simp [*]; done)), H', ⟨by have := HK1.out; have := HJ4.out; have := HK3.out; omega⟩, by repeat (first | exact Drawn0.refl _ | apply Drawn0.step)⟩
        · rw [if_neg c3] at H
          exact absurd H (by simp)
      · rw [if_neg c2] at H
        have c2b0 : decide (x3_1 < (a0.size : Int)) = false := decide_eq_false c2
        clear c2
        obtain rfl := Option.some.inj H
        go_wp2
        go_ret
        exact ⟨by first | rfl | (simp; done) | (simp [*]; done), by repeat (first | exact Drawn0.refl _ | apply Drawn0.step)⟩

end Go.Proofs.YtfljbidecljlcaaDoor.Print
