-- PRINTED by wip/hprint.py, this project's driver over the kit's print (hand contracts beside it). Not trusted: Lean checks it.
import Derived.Test.YtfljbidecljlcaaDoorPrint0
import Derived.Test.YtfljbidecljlcaaDoorPrint11
namespace Go.Proofs.YtfljbidecljlcaaDoor.Print
open Go.RowKit Go.Proofs.YtfljbidecljlcaaDoorW.PrintWords Go.Proofs.YtfljbidecljlcaaDoorW.PrintLast Go.Proofs.YtfljbidecljlcaaDoorW.PrintMore
attribute [local go_sem] max2_int min2_int max_two min_two max_three min_three max_four min_four   -- for this text's walks alone
set_option linter.unusedVariables false
set_option linter.unusedSimpArgs false

/-! ### bindleref01_Clean: function 69 -/
mutual
def bindleref01_Clean.j0 : Nat → ByteArray → Bool → Option (ByteArray × Int)
  | 0, _, _ => none
  | k + 1, x0, x17 => if x17 = true then (some ((⟨#[]⟩ : ByteArray), 6)) else (bindleref01_Clean.l0 k x0 (⟨#[]⟩ : ByteArray) 0 0)
def bindleref01_Clean.l0 : Nat → ByteArray → ByteArray → Int → Int → Option (ByteArray × Int)
  | 0, _, _, _, _ => none
  | k + 1, x0, x4, x5, x6 => if x6 ≤ (x0.size : Int) then (if x6 < (x0.size : Int) then (if 0 ≤ x6 then (bindleref01_Clean.j2 k x0 x4 x5 x6 ((bt x0 x6) != 47)) else (none)) else (bindleref01_Clean.j2 k x0 x4 x5 x6 false)) else (if x4.toList = ([] : List UInt8) then (some ((⟨#[]⟩ : ByteArray), 6)) else (if (x4.size : Int) > 200 then (some ((⟨#[]⟩ : ByteArray), 6)) else (some (x4, 0))))
def bindleref01_Clean.j2 : Nat → ByteArray → ByteArray → Int → Int → Bool → Option (ByteArray × Int)
  | 0, _, _, _, _, _ => none
  | k + 1, x0, x4, x5, x6, x33 => if x33 = true then (bindleref01_Clean.l0 k x0 x4 x5 (wrap64 (x6 + 1))) else (if 0 ≤ x5 then (if x5 ≤ x6 then (if x6 ≤ (x0.size : Int) then (if (x0.extract (x5 : Int).toNat (x6 : Int).toNat).toList = ([46, 46] : List UInt8) then (some ((⟨#[]⟩ : ByteArray), 6)) else (if (x0.extract (x5 : Int).toNat (x6 : Int).toNat).toList = ([] : List UInt8) then (bindleref01_Clean.j3 k x0 x4 (wrap64 (x6 + 1)) x6 (x0.extract (x5 : Int).toNat (x6 : Int).toNat) true) else (bindleref01_Clean.j3 k x0 x4 (wrap64 (x6 + 1)) x6 (x0.extract (x5 : Int).toNat (x6 : Int).toNat) ((x0.extract (x5 : Int).toNat (x6 : Int).toNat).toList == ([46] : List UInt8))))) else (none)) else (none)) else (none))
def bindleref01_Clean.j3 : Nat → ByteArray → ByteArray → Int → Int → ByteArray → Bool → Option (ByteArray × Int)
  | 0, _, _, _, _, _, _ => none
  | k + 1, x0, x4, x5, x6, x7, x47 => if x47 = true then (bindleref01_Clean.l0 k x0 x4 x5 (wrap64 (x6 + 1))) else (if x4.toList = ([] : List UInt8) then (if x4.size + x7.size ≤ 9223372036854775807 then (bindleref01_Clean.l0 k x0 (x4 ++ x7) x5 (wrap64 (x6 + 1))) else (none)) else (if x4.size + 1 ≤ 9223372036854775807 then (if (x4 ++ (⟨#[47]⟩ : ByteArray)).size + x7.size ≤ 9223372036854775807 then (bindleref01_Clean.l0 k x0 ((x4 ++ (⟨#[47]⟩ : ByteArray)) ++ x7) x5 (wrap64 (x6 + 1))) else (none)) else (none)))
end
def bindleref01_Clean.f (k : Nat) (a0 : ByteArray) : Option (ByteArray × Int) := (bindleref01_Text.f k a0).bind fun t169 => (if t169 = true then (if a0.toList = ([] : List UInt8) then (bindleref01_Clean.j0 k a0 true) else (if 0 < (a0.size : Int) then (bindleref01_Clean.j0 k a0 ((bt a0 0) == 47)) else (none))) else (some ((⟨#[]⟩ : ByteArray), 9)))
theorem bindleref01_Clean.mono_l : ∀ k, (∀ y0 y1, LeO (bindleref01_Clean.j0 k y0 y1) (bindleref01_Clean.j0 (k + 1) y0 y1)) ∧ (∀ y0 y1 y2 y3, LeO (bindleref01_Clean.l0 k y0 y1 y2 y3) (bindleref01_Clean.l0 (k + 1) y0 y1 y2 y3)) ∧ (∀ y0 y1 y2 y3 y4, LeO (bindleref01_Clean.j2 k y0 y1 y2 y3 y4) (bindleref01_Clean.j2 (k + 1) y0 y1 y2 y3 y4)) ∧ (∀ y0 y1 y2 y3 y4 y5, LeO (bindleref01_Clean.j3 k y0 y1 y2 y3 y4 y5) (bindleref01_Clean.j3 (k + 1) y0 y1 y2 y3 y4 y5))
  | 0 => ⟨fun _ _ r h => by simp [bindleref01_Clean.j0] at h, fun _ _ _ _ r h => by simp [bindleref01_Clean.l0] at h, fun _ _ _ _ _ r h => by simp [bindleref01_Clean.j2] at h, fun _ _ _ _ _ _ r h => by simp [bindleref01_Clean.j3] at h⟩
  | k + 1 => by
    obtain ⟨ih0, ih1, ih2, ih3⟩ := bindleref01_Clean.mono_l k
    refine ⟨?_, ?_, ?_, ?_⟩
    · intro y0 y1
      unfold bindleref01_Clean.j0
      repeat' first
      | (with_reducible exact ih0 _ _)
      | (with_reducible exact ih1 _ _ _ _)
      | (with_reducible exact ih2 _ _ _ _ _)
      | (with_reducible exact ih3 _ _ _ _ _ _)
      | (with_reducible exact bindleref01_Text.mono _ _)
      | (with_reducible exact LeO.refl _)
      | (with_reducible exact LeO.none _)
      | (with_reducible refine LeO.ite ?_ ?_)
      | (with_reducible refine LeO.bind ?_ (fun _ => ?_))
      | exact ih0 _ _
      | exact ih1 _ _ _ _
      | exact ih2 _ _ _ _ _
      | exact ih3 _ _ _ _ _ _
      | exact bindleref01_Text.mono _ _
      | exact LeO.none _
      | refine LeO.ite ?_ ?_
      | refine LeO.bind ?_ (fun _ => ?_)
    · intro y0 y1 y2 y3
      unfold bindleref01_Clean.l0
      repeat' first
      | (with_reducible exact ih0 _ _)
      | (with_reducible exact ih1 _ _ _ _)
      | (with_reducible exact ih2 _ _ _ _ _)
      | (with_reducible exact ih3 _ _ _ _ _ _)
      | (with_reducible exact bindleref01_Text.mono _ _)
      | (with_reducible exact LeO.refl _)
      | (with_reducible exact LeO.none _)
      | (with_reducible refine LeO.ite ?_ ?_)
      | (with_reducible refine LeO.bind ?_ (fun _ => ?_))
      | exact ih0 _ _
      | exact ih1 _ _ _ _
      | exact ih2 _ _ _ _ _
      | exact ih3 _ _ _ _ _ _
      | exact bindleref01_Text.mono _ _
      | exact LeO.none _
      | refine LeO.ite ?_ ?_
      | refine LeO.bind ?_ (fun _ => ?_)
    · intro y0 y1 y2 y3 y4
      unfold bindleref01_Clean.j2
      repeat' first
      | (with_reducible exact ih0 _ _)
      | (with_reducible exact ih1 _ _ _ _)
      | (with_reducible exact ih2 _ _ _ _ _)
      | (with_reducible exact ih3 _ _ _ _ _ _)
      | (with_reducible exact bindleref01_Text.mono _ _)
      | (with_reducible exact LeO.refl _)
      | (with_reducible exact LeO.none _)
      | (with_reducible refine LeO.ite ?_ ?_)
      | (with_reducible refine LeO.bind ?_ (fun _ => ?_))
      | exact ih0 _ _
      | exact ih1 _ _ _ _
      | exact ih2 _ _ _ _ _
      | exact ih3 _ _ _ _ _ _
      | exact bindleref01_Text.mono _ _
      | exact LeO.none _
      | refine LeO.ite ?_ ?_
      | refine LeO.bind ?_ (fun _ => ?_)
    · intro y0 y1 y2 y3 y4 y5
      unfold bindleref01_Clean.j3
      repeat' first
      | (with_reducible exact ih0 _ _)
      | (with_reducible exact ih1 _ _ _ _)
      | (with_reducible exact ih2 _ _ _ _ _)
      | (with_reducible exact ih3 _ _ _ _ _ _)
      | (with_reducible exact bindleref01_Text.mono _ _)
      | (with_reducible exact LeO.refl _)
      | (with_reducible exact LeO.none _)
      | (with_reducible refine LeO.ite ?_ ?_)
      | (with_reducible refine LeO.bind ?_ (fun _ => ?_))
      | exact ih0 _ _
      | exact ih1 _ _ _ _
      | exact ih2 _ _ _ _ _
      | exact ih3 _ _ _ _ _ _
      | exact bindleref01_Text.mono _ _
      | exact LeO.none _
      | refine LeO.ite ?_ ?_
      | refine LeO.bind ?_ (fun _ => ?_)
theorem bindleref01_Clean.mono : ∀ a0 k, LeO (bindleref01_Clean.f k a0) (bindleref01_Clean.f (k + 1) a0) := by
  intro a0 k
  obtain ⟨ih0, ih1, ih2, ih3⟩ := bindleref01_Clean.mono_l k
  unfold bindleref01_Clean.f
  repeat' first
      | (with_reducible exact ih0 _ _)
      | (with_reducible exact ih1 _ _ _ _)
      | (with_reducible exact ih2 _ _ _ _ _)
      | (with_reducible exact ih3 _ _ _ _ _ _)
      | (with_reducible exact bindleref01_Text.mono _ _)
      | (with_reducible exact LeO.refl _)
      | (with_reducible exact LeO.none _)
      | (with_reducible refine LeO.ite ?_ ?_)
      | (with_reducible refine LeO.bind ?_ (fun _ => ?_))
      | exact ih0 _ _
      | exact ih1 _ _ _ _
      | exact ih2 _ _ _ _ _
      | exact ih3 _ _ _ _ _ _
      | exact bindleref01_Text.mono _ _
      | exact LeO.none _
      | refine LeO.ite ?_ ?_
      | refine LeO.bind ?_ (fun _ => ?_)
set_option maxHeartbeats 8000000 in
set_option maxRecDepth 100000 in
theorem bindleref01_Clean.calls (k : Nat) (a0 : ByteArray) (r1 : ByteArray) (r2 : Int) (w : World) (h : bindleref01_Clean.f k a0 = some (r1, r2)) :
    Calls Tryd.prog 69 #[.string a0] w fun e w' => e = .returned (.tuple #[.string r1, .int .i64 r2]) ∧ Drawn0 w w' := by
  have H : ((bindleref01_Text.f k a0).bind fun t169 => (if t169 = true then (if a0.toList = ([] : List UInt8) then (bindleref01_Clean.j0 k a0 true) else (if 0 < (a0.size : Int) then (bindleref01_Clean.j0 k a0 ((bt a0 0) == 47)) else (none))) else (some ((⟨#[]⟩ : ByteArray), 9)))) = some (r1, r2) := h
  clear h
  replace H := Option.bind_eq_some_iff.mp H
  obtain ⟨t169, A20, H⟩ := H
  replace H : (if t169 = true then (if a0.toList = ([] : List UInt8) then (bindleref01_Clean.j0 k a0 true) else (if 0 < (a0.size : Int) then (bindleref01_Clean.j0 k a0 ((bt a0 0) == 47)) else (none))) else (some ((⟨#[]⟩ : ByteArray), 9))) = some (r1, r2) := H
  have A2 := Aside0.mk A20
  clear A20
  by_cases c3 : t169 = true
  · subst c3
    have H1 : (if a0.toList = ([] : List UInt8) then (bindleref01_Clean.j0 k a0 true) else (if 0 < (a0.size : Int) then (bindleref01_Clean.j0 k a0 ((bt a0 0) == 47)) else (none))) = some (r1, r2) := by rw [if_pos rfl] at H; exact H
    clear H
    have H := H1
    clear H1
    have HC4 := Aside0.mk H
    clear H
    go_enter Tryd.func69, Tryd.ntmps69
    go_upto_region 3 with (first | ((with_reducible refine gate_callee (f := 70) rfl ?_); refine goesL_ (some 9) rfl rfl Tryd.func70 (by kernel_rfl) rfl #[.string a0] rfl (by (try simp only [List.map_toArray, List.map_cons, List.map_nil]); first | done | rfl | (simp only [List.length_drop, List.length_take]; rfl)) ?_; (with_reducible refine (bindleref01_Text.calls k a0 true _ A2.out).mono ?_); rintro e w' ⟨rfl, ⟨nd, rfl⟩⟩; refine ⟨_, rfl, ?_⟩))
    (try simp only [Act.put, List.setIfInBounds_toArray, List.set_cons_zero, List.set_cons_succ])
    go_cut [17] (fun v17 wc => ∃ (kq : Nat) (x17_3 : Bool), v17 = .bool x17_3 ∧ Aside0 (bindleref01_Clean.j0 kq a0 x17_3 = some (r1, r2)) ∧ Aside0 (kq ≤ k) ∧ Drawn0 w wc)
    case first =>
      have H := HC4.out
      clear HC4
      by_cases c5 : a0.toList = ([] : List UInt8)
      · rw [if_pos c5] at H
        have c5b0 : (a0.toList == ([] : List UInt8)) = true := beq_iff_eq.mpr c5
        have c5b1 : (a0.toList != ([] : List UInt8)) = false := bne_eq_false_iff_eq.mpr c5
        clear c5
        (first | rw [c5b0] | (simp only [i64_w, i32_w]; rw [c5b0]) | skip)
        have H' := Aside0.mk H
        clear H
        go_wp2
        go_meet
        case rel => exact ⟨_, (true), (by first | rfl | (simp; done) | (simp [*]; done)), H', ⟨by first | omega | exact Nat.le_refl _⟩, by repeat (first | exact Drawn0.refl _ | apply Drawn0.step)⟩
      · rw [if_neg c5] at H
        have c5b0 : (a0.toList == ([] : List UInt8)) = false := beq_eq_false_iff_ne.mpr c5
        have c5b1 : (a0.toList != ([] : List UInt8)) = true := bne_iff_ne.mpr c5
        (first | rw [c5b0] | (simp only [i64_w, i32_w]; rw [c5b0]) | skip)
        by_cases c6 : 0 < (a0.size : Int)
        · rw [if_pos c6] at H
          have c6b0 : decide (0 < (a0.size : Int)) = true := decide_eq_true c6
          have c6b1 : decide (0 < a0.size) = true := decide_eq_true (by omega)
          clear c6
          have H' := Aside0.mk H
          clear H
          have p7 : 0 ≤ (0 : Int) := (by omega)
          have q7 : 0 < a0.size := (by have : (0 : Int) < (a0.size : Int) := of_decide_eq_true (by first | (with_reducible assumption) | assumption); omega)
          have hx7 : ∀ h : 0 < a0.size, ((a0[0]'h).toNat : Int) = bt a0 0 := bt_at a0 0
          clear p7
          have qi7 : (0 < (a0.size : Int)) = True := eq_true (of_decide_eq_true (by first | (with_reducible assumption) | assumption))
          replace q7 := eq_true q7
          go_wp2
          go_meet
          case rel => exact ⟨_, (((bt a0 0) == 47)), (by first | rfl | (simp; done) | (simp [*]; done)), H', ⟨by first | omega | exact Nat.le_refl _⟩, by repeat (first | exact Drawn0.refl _ | apply Drawn0.step)⟩
        · rw [if_neg c6] at H
          exact absurd H (by simp)
    case rest =>
      clear HC4
      try clear p2
      try clear c3
      try clear c5
      try clear c5b0
      try clear c5b1
      try clear c6
      try clear c6b0
      try clear c6b1
      try clear c7
      try clear p7
      try clear q7
      try clear hx7
      try clear qi7
      try clear p7
      try clear q7
      obtain ⟨kq, x17_3, rfl, HA, HJ3, ⟨mc3, rfl⟩⟩ := hcut
      cases kq with
      | zero => exact absurd HA.out (by simp [bindleref01_Clean.j0])
      | succ kj3 =>
        have H := HA.out
        clear HA
        simp only [bindleref01_Clean.j0] at H
        by_cases c8 : x17_3 = true
        · subst c8
          have H1 : (some ((⟨#[]⟩ : ByteArray), 6)) = some (r1, r2) := by rw [if_pos rfl] at H; exact H
          clear H
          have H := H1
          clear H1
          simp only [Option.some.injEq, Prod.mk.injEq] at H
          obtain ⟨rfl, rfl⟩ := H
          go_wp2
          go_ret2
          exact ⟨by first | rfl | (simp; done) | (simp [*]; done), by repeat (first | exact Drawn0.refl _ | apply Drawn0.step)⟩
        · replace c8 := Bool.eq_false_iff.mpr c8
          subst c8
          have H1 : (bindleref01_Clean.l0 kj3 a0 (⟨#[]⟩ : ByteArray) 0 0) = some (r1, r2) := by rw [if_neg (show ¬ (false = true) by decide)] at H; exact H
          clear H
          have H := H1
          clear H1
          have H' := Aside0.mk H
          clear H
          go_wp2
          go_loopg [4, 5, 6] kj3 (fun kq v4 v5 v6 w' => ∃ (x4_2 : ByteArray) (x5_2 : Int) (x6_2 : Int), v4 = .string x4_2 ∧ v5 = .int .i64 x5_2 ∧ v6 = .int .i64 x6_2 ∧ Aside0 (bindleref01_Clean.l0 kq a0 x4_2 x5_2 x6_2 = some (r1, r2)) ∧ Aside0 (kq ≤ kj3) ∧ Drawn0 w w')
          case atStart => exact ⟨((⟨#[]⟩ : ByteArray)), (0), (0), (by first | rfl | (simp; done) | (simp [*]; done)), (by first | rfl | (simp; done) | (simp [*]; done)), (by first | rfl | (simp; done) | (simp [*]; done)), H', ⟨Nat.le_refl _⟩, by repeat (first | exact Drawn0.refl _ | apply Drawn0.step)⟩
          case round =>
            clear H'
            try clear p2
            try clear c3
            try clear c5
            try clear c5b0
            try clear c5b1
            try clear c6
            try clear c6b0
            try clear c6b1
            try clear c7
            try clear p7
            try clear q7
            try clear hx7
            try clear qi7
            try clear c8
            try clear p2
            try clear p7
            try clear q7
            obtain ⟨x4_2, x5_2, x6_2, rfl, rfl, rfl, HA, HK2, ⟨m2, rfl⟩⟩ := hrel
            cases gk with
            | zero => exact absurd HA.out (by simp [bindleref01_Clean.l0])
            | succ k2 =>
              have H := HA.out
              clear HA
              simp only [bindleref01_Clean.l0] at H
              by_cases c9 : x6_2 ≤ (a0.size : Int)
              · rw [if_pos c9] at H
                have c9b0 : decide (x6_2 ≤ (a0.size : Int)) = true := decide_eq_true c9
                clear c9
                have HC10 := Aside0.mk H
                clear H
                go_upto_region 10 with (fail)
                go_cut [33] (fun v33 wc => ∃ (kq : Nat) (x33_9 : Bool), v33 = .bool x33_9 ∧ Aside0 (bindleref01_Clean.j2 kq a0 x4_2 x5_2 x6_2 x33_9 = some (r1, r2)) ∧ Aside0 (kq ≤ k2) ∧ Drawn0 w wc)
                case first =>
                  have H := HC10.out
                  clear HC10
                  by_cases c11 : x6_2 < (a0.size : Int)
                  · rw [if_pos c11] at H
                    have c11b0 : decide (x6_2 < (a0.size : Int)) = true := decide_eq_true c11
                    clear c11
                    (first | rw [c11b0] | (simp only [i64_w, i32_w]; rw [c11b0]) | skip)
                    by_cases c12 : 0 ≤ x6_2
                    · rw [if_pos c12] at H
                      have c12b0 : decide (0 ≤ x6_2) = true := decide_eq_true c12
                      clear c12
                      have H' := Aside0.mk H
                      clear H
                      have p13 : 0 ≤ (x6_2 : Int) := of_decide_eq_true (by first | (with_reducible assumption) | assumption)
                      have q13 : x6_2 < (a0.size : Int) := of_decide_eq_true (by first | (with_reducible assumption) | assumption)
                      have hx13 := bt_at a0 x6_2
                      replace p13 := eq_true p13
                      replace q13 := eq_true q13
                      go_wp2
                      go_meet
                      case rel => exact ⟨_, (((bt a0 x6_2) != 47)), (by first | rfl | (simp; done) | (simp [*]; done)), H', ⟨by have := HJ3.out; have := HK2.out; first | omega | exact Nat.le_refl _⟩, by repeat (first | exact Drawn0.refl _ | apply Drawn0.step)⟩
                    · rw [if_neg c12] at H
                      exact absurd H (by simp)
                  · rw [if_neg c11] at H
                    have c11b0 : decide (x6_2 < (a0.size : Int)) = false := decide_eq_false c11
                    clear c11
                    (first | rw [c11b0] | (simp only [i64_w, i32_w]; rw [c11b0]) | skip)
                    have H' := Aside0.mk H
                    clear H
                    go_wp2
                    go_meet
                    case rel => exact ⟨_, (false), (by first | rfl | (simp; done) | (simp [*]; done)), H', ⟨by have := HJ3.out; have := HK2.out; first | omega | exact Nat.le_refl _⟩, by repeat (first | exact Drawn0.refl _ | apply Drawn0.step)⟩
                case rest =>
                  clear HC10
                  try clear c1
                  try clear p1
                  try clear q1
                  try clear hx1
                  try clear p2
                  try clear c3
                  try clear c5
                  try clear c5b0
                  try clear c5b1
                  try clear c6
                  try clear c6b0
                  try clear c6b1
                  try clear c7
                  try clear p7
                  try clear q7
                  try clear hx7
                  try clear qi7
                  try clear c8
                  try clear c9
                  try clear c9b0
                  try clear c11
                  try clear c11b0
                  try clear c12
                  try clear c12b0
                  try clear p13
                  try clear q13
                  try clear hx13
                  try clear p13
                  try clear p2
                  try clear p7
                  try clear q13
                  try clear q7
                  obtain ⟨kq, x33_9, rfl, HA, HJ9, ⟨mc9, rfl⟩⟩ := hcut
                  cases kq with
                  | zero => exact absurd HA.out (by simp [bindleref01_Clean.j2])
                  | succ kj9 =>
                    have H := HA.out
                    clear HA
                    simp only [bindleref01_Clean.j2] at H
                    by_cases c14 : x33_9 = true
                    · subst c14
                      have H1 : (bindleref01_Clean.l0 kj9 a0 x4_2 x5_2 (wrap64 (x6_2 + 1))) = some (r1, r2) := by rw [if_pos rfl] at H; exact H
                      clear H
                      have H := H1
                      clear H1
                      have H' := Aside0.mk H
                      clear H
                      go_wp2
                      go_roundg kj9
                      case measure => have := HJ3.out; have := HK2.out; have := HJ9.out; omega
                      case rel => exact ⟨(x4_2), (x5_2), (wrap64 (x6_2 + 1)), (by first | rfl | (simp; done) | (simp [*]; done)), (by first | rfl | (simp; done) | (simp [*]; done)), (by first | rfl | (simp; done) | (simp [*]; done)), H', ⟨by have := HJ3.out; have := HK2.out; have := HJ9.out; omega⟩, by repeat (first | exact Drawn0.refl _ | apply Drawn0.step)⟩
                    · replace c14 := Bool.eq_false_iff.mpr c14
                      subst c14
                      have H1 : (if 0 ≤ x5_2 then (if x5_2 ≤ x6_2 then (if x6_2 ≤ (a0.size : Int) then (if (a0.extract (x5_2 : Int).toNat (x6_2 : Int).toNat).toList = ([46, 46] : List UInt8) then (some ((⟨#[]⟩ : ByteArray), 6)) else (if (a0.extract (x5_2 : Int).toNat (x6_2 : Int).toNat).toList = ([] : List UInt8) then (bindleref01_Clean.j3 kj9 a0 x4_2 (wrap64 (x6_2 + 1)) x6_2 (a0.extract (x5_2 : Int).toNat (x6_2 : Int).toNat) true) else (bindleref01_Clean.j3 kj9 a0 x4_2 (wrap64 (x6_2 + 1)) x6_2 (a0.extract (x5_2 : Int).toNat (x6_2 : Int).toNat) ((a0.extract (x5_2 : Int).toNat (x6_2 : Int).toNat).toList == ([46] : List UInt8))))) else (none)) else (none)) else (none)) = some (r1, r2) := by rw [if_neg (show ¬ (false = true) by decide)] at H; exact H
                      clear H
                      have H := H1
                      clear H1
                      by_cases c15 : 0 ≤ x5_2
                      · rw [if_pos c15] at H
                        have c15b0 := eq_true c15
                        have c15b1 : decide (0 ≤ x5_2) = true := decide_eq_true c15
                        clear c15
                        by_cases c16 : x5_2 ≤ x6_2
                        · rw [if_pos c16] at H
                          have c16b0 := eq_true c16
                          have c16b1 : decide (x5_2 ≤ x6_2) = true := decide_eq_true c16
                          clear c16
                          by_cases c17 : x6_2 ≤ (a0.size : Int)
                          · rw [if_pos c17] at H
                            have c17b0 := eq_true c17
                            have c17b1 : decide (x6_2 ≤ (a0.size : Int)) = true := decide_eq_true c17
                            clear c17
                            by_cases c18 : (a0.extract (x5_2 : Int).toNat (x6_2 : Int).toNat).toList = ([46, 46] : List UInt8)
                            · rw [if_pos c18] at H
                              have c18b0 : ((a0.extract (x5_2 : Int).toNat (x6_2 : Int).toNat).toList == ([46, 46] : List UInt8)) = true := beq_iff_eq.mpr c18
                              have c18b1 : ((a0.extract (x5_2 : Int).toNat (x6_2 : Int).toNat).toList != ([46, 46] : List UInt8)) = false := bne_eq_false_iff_eq.mpr c18
                              clear c18
                              simp only [Option.some.injEq, Prod.mk.injEq] at H
                              obtain ⟨rfl, rfl⟩ := H
                              go_wp2
                              go_ret2
                              exact ⟨by first | rfl | (simp; done) | (simp [*]; done), by repeat (first | exact Drawn0.refl _ | apply Drawn0.step)⟩
                            · rw [if_neg c18] at H
                              have c18b0 : ((a0.extract (x5_2 : Int).toNat (x6_2 : Int).toNat).toList == ([46, 46] : List UInt8)) = false := beq_eq_false_iff_ne.mpr c18
                              have c18b1 : ((a0.extract (x5_2 : Int).toNat (x6_2 : Int).toNat).toList != ([46, 46] : List UInt8)) = true := bne_iff_ne.mpr c18
                              have HC19 := Aside0.mk H
                              clear H
                              go_upto_region 15 with (fail)
                              go_cut [47] (fun v47 wc => ∃ (kq : Nat) (x47_18 : Bool), v47 = .bool x47_18 ∧ Aside0 (bindleref01_Clean.j3 kq a0 x4_2 (wrap64 (x6_2 + 1)) x6_2 (a0.extract (x5_2 : Int).toNat (x6_2 : Int).toNat) x47_18 = some (r1, r2)) ∧ Aside0 (kq ≤ kj9) ∧ Drawn0 w wc)
                              case first =>
                                have H := HC19.out
                                clear HC19
                                by_cases c20 : (a0.extract (x5_2 : Int).toNat (x6_2 : Int).toNat).toList = ([] : List UInt8)
                                · rw [if_pos c20] at H
                                  have c20b0 : ((a0.extract (x5_2 : Int).toNat (x6_2 : Int).toNat).toList == ([] : List UInt8)) = true := beq_iff_eq.mpr c20
                                  have c20b1 : ((a0.extract (x5_2 : Int).toNat (x6_2 : Int).toNat).toList != ([] : List UInt8)) = false := bne_eq_false_iff_eq.mpr c20
                                  clear c20
                                  (first | rw [c20b0] | (simp only [i64_w, i32_w]; rw [c20b0]) | skip)
                                  have H' := Aside0.mk H
                                  clear H
                                  go_wp2
                                  go_meet
                                  case rel => exact ⟨_, (true), (by first | rfl | (simp; done) | (simp [*]; done)), H', ⟨by have := HJ3.out; have := HK2.out; have := HJ9.out; first | omega | exact Nat.le_refl _⟩, by repeat (first | exact Drawn0.refl _ | apply Drawn0.step)⟩
                                · rw [if_neg c20] at H
                                  have c20b0 : ((a0.extract (x5_2 : Int).toNat (x6_2 : Int).toNat).toList == ([] : List UInt8)) = false := beq_eq_false_iff_ne.mpr c20
                                  have c20b1 : ((a0.extract (x5_2 : Int).toNat (x6_2 : Int).toNat).toList != ([] : List UInt8)) = true := bne_iff_ne.mpr c20
                                  (first | rw [c20b0] | (simp only [i64_w, i32_w]; rw [c20b0]) | skip)
                                  have H' := Aside0.mk H
                                  clear H
                                  go_wp2
                                  go_meet
                                  case rel => exact ⟨_, (((a0.extract (x5_2 : Int).toNat (x6_2 : Int).toNat).toList == ([46] : List UInt8))), (by first | rfl | (simp; done) | (simp [*]; done)), H', ⟨by have := HJ3.out; have := HK2.out; have := HJ9.out; first | omega | exact Nat.le_refl _⟩, by repeat (first | exact Drawn0.refl _ | apply Drawn0.step)⟩
                              case rest =>
                                clear HC19
                                try clear c1
                                try clear p1
                                try clear q1
                                try clear hx1
                                try clear c2
                                try clear p2
                                try clear c3
                                try clear c5
                                try clear c5b0
                                try clear c5b1
                                try clear c6
                                try clear c6b0
                                try clear c6b1
                                try clear p6
                                try clear c7
                                try clear p7
                                try clear q7
                                try clear hx7
                                try clear qi7
                                try clear c8
                                try clear c9
                                try clear c9b0
                                try clear c11
                                try clear c11b0
                                try clear c12
                                try clear c12b0
                                try clear p13
                                try clear q13
                                try clear hx13
                                try clear c14
                                try clear c15
                                try clear c15b0
                                try clear c15b1
                                try clear c16
                                try clear c16b0
                                try clear c16b1
                                try clear c17
                                try clear c17b0
                                try clear c17b1
                                try clear c18
                                try clear c18b0
                                try clear c18b1
                                try clear c20
                                try clear c20b0
                                try clear c20b1
                                try clear p1
                                try clear p13
                                try clear p2
                                try clear p7
                                try clear q1
                                try clear q13
                                try clear q7
                                obtain ⟨kq, x47_18, rfl, HA, HJ18, ⟨mc18, rfl⟩⟩ := hcut
                                cases kq with
                                | zero => exact absurd HA.out (by simp [bindleref01_Clean.j3])
                                | succ kj18 =>
                                  have H := HA.out
                                  clear HA
                                  simp only [bindleref01_Clean.j3] at H
                                  by_cases c21 : x47_18 = true
                                  · subst c21
                                    have H1 : (bindleref01_Clean.l0 kj18 a0 x4_2 (wrap64 (x6_2 + 1)) (wrap64 (x6_2 + 1))) = some (r1, r2) := by rw [if_pos rfl] at H; exact H
                                    clear H
                                    have H := H1
                                    clear H1
                                    have H' := Aside0.mk H
                                    clear H
                                    go_wp2
                                    go_roundg kj18
                                    case measure => have := HJ3.out; have := HK2.out; have := HJ9.out; have := HJ18.out; omega
                                    case rel => exact ⟨(x4_2), ((wrap64 (x6_2 + 1))), (wrap64 (x6_2 + 1)), (by first | rfl | (simp; done) | (simp [*]; done)), (by first | rfl | (simp; done) | (simp [*]; done)), (by first | rfl | (simp; done) | (simp [*]; done)), H', ⟨by have := HJ3.out; have := HK2.out; have := HJ9.out; have := HJ18.out; omega⟩, by repeat (first | exact Drawn0.refl _ | apply Drawn0.step)⟩
                                  · replace c21 := Bool.eq_false_iff.mpr c21
                                    subst c21
                                    have H1 : (if x4_2.toList = ([] : List UInt8) then (if x4_2.size + (a0.extract (x5_2 : Int).toNat (x6_2 : Int).toNat).size ≤ 9223372036854775807 then (bindleref01_Clean.l0 kj18 a0 (x4_2 ++ (a0.extract (x5_2 : Int).toNat (x6_2 : Int).toNat)) (wrap64 (x6_2 + 1)) (wrap64 (x6_2 + 1))) else (none)) else (if x4_2.size + 1 ≤ 9223372036854775807 then (if (x4_2 ++ (⟨#[47]⟩ : ByteArray)).size + (a0.extract (x5_2 : Int).toNat (x6_2 : Int).toNat).size ≤ 9223372036854775807 then (bindleref01_Clean.l0 kj18 a0 ((x4_2 ++ (⟨#[47]⟩ : ByteArray)) ++ (a0.extract (x5_2 : Int).toNat (x6_2 : Int).toNat)) (wrap64 (x6_2 + 1)) (wrap64 (x6_2 + 1))) else (none)) else (none))) = some (r1, r2) := by rw [if_neg (show ¬ (false = true) by decide)] at H; exact H
                                    clear H
                                    have H := H1
                                    clear H1
                                    by_cases c22 : x4_2.toList = ([] : List UInt8)
                                    · rw [if_pos c22] at H
                                      have c22b0 : (x4_2.toList == ([] : List UInt8)) = true := beq_iff_eq.mpr c22
                                      have c22b1 : (x4_2.toList != ([] : List UInt8)) = false := bne_eq_false_iff_eq.mpr c22
                                      clear c22
                                      by_cases c23 : x4_2.size + (a0.extract (x5_2 : Int).toNat (x6_2 : Int).toNat).size ≤ 9223372036854775807
                                      · rw [if_pos c23] at H
                                        have c23b0 := eq_true c23
                                        try (have c23b8 := c23b0; simp only [ByteArray.size_extract] at c23b8)
                                        have c23b1 : decide (x4_2.size + (a0.extract (x5_2 : Int).toNat (x6_2 : Int).toNat).size ≤ 9223372036854775807) = true := decide_eq_true c23
                                        try (have c23b7 := c23b1; simp only [ByteArray.size_extract] at c23b7)
                                        try have c23b2 : (9223372036854775807 < x4_2.size + (a0.extract (x5_2 : Int).toNat (x6_2 : Int).toNat).size) = False := eq_false (Nat.not_lt.2 c23)
                                        try (have c23b6 := c23b2; simp only [ByteArray.size_extract] at c23b6)
                                        have H' := Aside0.mk H
                                        clear H
                                        go_wp2
                                        go_roundg kj18
                                        case measure => have := HJ3.out; have := HK2.out; have := HJ9.out; have := HJ18.out; omega
                                        case rel => exact ⟨(x4_2 ++ (a0.extract (x5_2 : Int).toNat (x6_2 : Int).toNat)), ((wrap64 (x6_2 + 1))), (wrap64 (x6_2 + 1)), (by first | rfl | (simp; done) | (simp [*]; done)), (by first | rfl | (simp; done) | (simp [*]; done)), (by first | rfl | (simp; done) | (simp [*]; done)), H', ⟨by have := HJ3.out; have := HK2.out; have := HJ9.out; have := HJ18.out; omega⟩, by repeat (first | exact Drawn0.refl _ | apply Drawn0.step)⟩
                                      · rw [if_neg c23] at H
                                        exact absurd H (by simp)
                                    · rw [if_neg c22] at H
                                      have c22b0 : (x4_2.toList == ([] : List UInt8)) = false := beq_eq_false_iff_ne.mpr c22
                                      have c22b1 : (x4_2.toList != ([] : List UInt8)) = true := bne_iff_ne.mpr c22
                                      by_cases c24 : x4_2.size + 1 ≤ 9223372036854775807
                                      · rw [if_pos c24] at H
                                        have c24b0 := eq_true c24
                                        have c24b1 : decide (x4_2.size + 1 ≤ 9223372036854775807) = true := decide_eq_true c24
                                        try have c24b2 : (9223372036854775807 < x4_2.size + 1) = False := eq_false (Nat.not_lt.2 c24)
                                        by_cases c25 : (x4_2 ++ (⟨#[47]⟩ : ByteArray)).size + (a0.extract (x5_2 : Int).toNat (x6_2 : Int).toNat).size ≤ 9223372036854775807
                                        · rw [if_pos c25] at H
                                          have c25b0 := eq_true c25
                                          try (have c25b8 := c25b0; simp only [ByteArray.size_extract] at c25b8)
                                          have c25b1 : decide ((x4_2 ++ (⟨#[47]⟩ : ByteArray)).size + (a0.extract (x5_2 : Int).toNat (x6_2 : Int).toNat).size ≤ 9223372036854775807) = true := decide_eq_true c25
                                          try (have c25b7 := c25b1; simp only [ByteArray.size_extract] at c25b7)
                                          try (have c25b1s := c25b1; simp only [ByteArray.size_append, Int.natCast_add, show (((⟨#[47]⟩ : ByteArray).size : Nat) : Int) = 1 from rfl] at c25b1s)
                                          try have c25b2 : (9223372036854775807 < (x4_2 ++ (⟨#[47]⟩ : ByteArray)).size + (a0.extract (x5_2 : Int).toNat (x6_2 : Int).toNat).size) = False := eq_false (Nat.not_lt.2 c25)
                                          try (have c25b6 := c25b2; simp only [ByteArray.size_extract] at c25b6)
                                          try (have c25b2s := c25b2; simp only [ByteArray.size_append, Int.natCast_add, show (((⟨#[47]⟩ : ByteArray).size : Nat) : Int) = 1 from rfl] at c25b2s)
                                          have H' := Aside0.mk H
                                          clear H
                                          go_wp2
                                          go_roundg kj18
                                          case measure => have := HJ3.out; have := HK2.out; have := HJ9.out; have := HJ18.out; omega
                                          case rel => exact ⟨((x4_2 ++ (⟨#[47]⟩ : ByteArray)) ++ (a0.extract (x5_2 : Int).toNat (x6_2 : Int).toNat)), ((wrap64 (x6_2 + 1))), (wrap64 (x6_2 + 1)), (by first | rfl | (simp; done) | (simp [*]; done)), (by first | rfl | (simp; done) | (simp [*]; done)), (by first | rfl | (simp; done) | (simp [*]; done)), H', ⟨by have := HJ3.out; have := HK2.out; have := HJ9.out; have := HJ18.out; omega⟩, by repeat (first | exact Drawn0.refl _ | apply Drawn0.step)⟩
                                        · rw [if_neg c25] at H
                                          exact absurd H (by simp)
                                      · rw [if_neg c24] at H
                                        exact absurd H (by simp)
                          · rw [if_neg c17] at H
                            exact absurd H (by simp)
                        · rw [if_neg c16] at H
                          exact absurd H (by simp)
                      · rw [if_neg c15] at H
                        exact absurd H (by simp)
              · rw [if_neg c9] at H
                have c9b0 : decide (x6_2 ≤ (a0.size : Int)) = false := decide_eq_false c9
                clear c9
                by_cases c26 : x4_2.toList = ([] : List UInt8)
                · rw [if_pos c26] at H
                  have c26b0 : (x4_2.toList == ([] : List UInt8)) = true := beq_iff_eq.mpr c26
                  have c26b1 : (x4_2.toList != ([] : List UInt8)) = false := bne_eq_false_iff_eq.mpr c26
                  clear c26
                  simp only [Option.some.injEq, Prod.mk.injEq] at H
                  obtain ⟨rfl, rfl⟩ := H
                  go_wp2
                  go_ret2
                  exact ⟨by first | rfl | (simp; done) | (simp [*]; done), by repeat (first | exact Drawn0.refl _ | apply Drawn0.step)⟩
                · rw [if_neg c26] at H
                  have c26b0 : (x4_2.toList == ([] : List UInt8)) = false := beq_eq_false_iff_ne.mpr c26
                  have c26b1 : (x4_2.toList != ([] : List UInt8)) = true := bne_iff_ne.mpr c26
                  by_cases c27 : (x4_2.size : Int) > 200
                  · rw [if_pos c27] at H
                    have c27b0 : decide (200 < (x4_2.size : Int)) = true := decide_eq_true c27
                    have c27b1 : decide (200 < x4_2.size) = true := decide_eq_true (by omega)
                    clear c27
                    simp only [Option.some.injEq, Prod.mk.injEq] at H
                    obtain ⟨rfl, rfl⟩ := H
                    go_wp2
                    go_ret2
                    exact ⟨by first | rfl | (simp; done) | (simp [*]; done), by repeat (first | exact Drawn0.refl _ | apply Drawn0.step)⟩
                  · rw [if_neg c27] at H
                    have c27b0 : decide (200 < (x4_2.size : Int)) = false := decide_eq_false c27
                    have c27b1 : decide (200 < x4_2.size) = false := decide_eq_false (by omega)
                    clear c27
                    simp only [Option.some.injEq, Prod.mk.injEq] at H
                    obtain ⟨rfl, rfl⟩ := H
                    go_wp2
                    go_ret2
                    exact ⟨by first | rfl | (simp; done) | (simp [*]; done), by repeat (first | exact Drawn0.refl _ | apply Drawn0.step)⟩
  · replace c3 := Bool.eq_false_iff.mpr c3
    subst c3
    have H1 : (some ((⟨#[]⟩ : ByteArray), 9)) = some (r1, r2) := by rw [if_neg (show ¬ (false = true) by decide)] at H; exact H
    clear H
    have H := H1
    clear H1
    simp only [Option.some.injEq, Prod.mk.injEq] at H
    obtain ⟨rfl, rfl⟩ := H
    go_enter Tryd.func69, Tryd.ntmps69
    go_wp2_with (first | ((with_reducible refine gate_callee (f := 70) rfl ?_); refine goesL_ (some 9) rfl rfl Tryd.func70 (by kernel_rfl) rfl #[.string a0] rfl (by (try simp only [List.map_toArray, List.map_cons, List.map_nil]); first | done | rfl | (simp only [List.length_drop, List.length_take]; rfl)) ?_; (with_reducible refine (bindleref01_Text.calls k a0 false _ A2.out).mono ?_); rintro e w' ⟨rfl, ⟨nd, rfl⟩⟩; refine ⟨_, rfl, ?_⟩))
    go_ret2
    exact ⟨by first | rfl | (simp; done) | (simp [*]; done), by repeat (first | exact Drawn0.refl _ | apply Drawn0.step)⟩

end Go.Proofs.YtfljbidecljlcaaDoor.Print
