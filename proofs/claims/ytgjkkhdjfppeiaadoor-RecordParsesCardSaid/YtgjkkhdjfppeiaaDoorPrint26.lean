-- PRINTED by wip/hprint.py, this project's driver over the kit's print (hand contracts beside it). Not trusted: Lean checks it.
import Derived.Test.YtgjkkhdjfppeiaaDoorPrint0
import Derived.Test.YtgjkkhdjfppeiaaDoorPrint12
import Derived.Test.YtgjkkhdjfppeiaaDoorPrint25
namespace Go.Proofs.YtgjkkhdjfppeiaaDoor.Print
open Go.RowKit Go.Proofs.YtgjkkhdjfppeiaaDoorW.PrintWords Go.Proofs.YtgjkkhdjfppeiaaDoorW.PrintLast Go.Proofs.YtgjkkhdjfppeiaaDoorW.PrintMore
attribute [local go_sem] max2_int min2_int max_two min_two max_three min_three max_four min_four   -- for this text's walks alone
set_option linter.unusedVariables false
set_option linter.unusedSimpArgs false

/-! ### bindleref01_Records: function 22 -/
mutual
def bindleref01_Records.l0 : Nat → List (S42) → ByteArray → Option ((List (S42)) × Int)
  | 0, _, _ => none
  | k + 1, x4, x5 => if (x5.size : Int) > 0 then (bindleref01_Records.l1 k x4 x5 0) else (some (x4, 0))
def bindleref01_Records.j2 : Nat → List (S42) → ByteArray → Int → Option ((List (S42)) × Int)
  | 0, _, _, _ => none
  | k + 1, x4, x5, x6 => if x6 < 1 then (bindleref01_Records.j3 k x4 x5 x6 true) else (if x6 > 7 then (bindleref01_Records.j3 k x4 x5 x6 true) else (if 0 < (x5.size : Int) then (if (bt x5 0) = 48 then (bindleref01_Records.j3 k x4 x5 x6 true) else (if x6 = (x5.size : Int) then (bindleref01_Records.j3 k x4 x5 x6 true) else (if 0 ≤ x6 then (if x6 < (x5.size : Int) then (bindleref01_Records.j3 k x4 x5 x6 ((bt x5 x6) != 32)) else (none)) else (none)))) else (none)))
def bindleref01_Records.j3 : Nat → List (S42) → ByteArray → Int → Bool → Option ((List (S42)) × Int)
  | 0, _, _, _, _ => none
  | k + 1, x4, x5, x6, x57 => if x57 = true then (some (([] : List (S42)), 5)) else (if 0 ≤ x6 then (if x6 ≤ (x5.size : Int) then ((bindleref01_Whole.f k (x5.extract 0 (x6 : Int).toNat)).bind fun bt164 => (if bt164.1 > (x5.size : Int) then (bindleref01_Records.j4 k x4 x5 x6 bt164.1 true) else (if bt164.1 < (wrap64 (x6 + 4)) then (bindleref01_Records.j4 k x4 x5 x6 bt164.1 true) else (if 0 ≤ (wrap64 (bt164.1 - 1)) then (if (wrap64 (bt164.1 - 1)) < (x5.size : Int) then (bindleref01_Records.j4 k x4 x5 x6 bt164.1 ((bt x5 (wrap64 (bt164.1 - 1))) != 10)) else (none)) else (none))))) else (none)) else (none))
def bindleref01_Records.j4 : Nat → List (S42) → ByteArray → Int → Int → Bool → Option ((List (S42)) × Int)
  | 0, _, _, _, _, _ => none
  | k + 1, x4, x5, x6, x7, x81 => if x81 = true then (some (([] : List (S42)), 5)) else (if 0 ≤ (wrap64 (x6 + 1)) then (if (wrap64 (x6 + 1)) ≤ (wrap64 (x7 - 1)) then (if (wrap64 (x7 - 1)) ≤ (x5.size : Int) then (bindleref01_Records.l2 k x4 x5 x7 (x5.extract ((wrap64 (x6 + 1)) : Int).toNat ((wrap64 (x7 - 1)) : Int).toNat) (-1) 0) else (none)) else (none)) else (none))
def bindleref01_Records.j6 : Nat → List (S42) → ByteArray → Int → ByteArray → Int → Option ((List (S42)) × Int)
  | 0, _, _, _, _, _ => none
  | k + 1, x4, x5, x7, x9, x10 => if x10 < 1 then (some (([] : List (S42)), 5)) else ((bindleref01_Text.f k x9).bind fun t166 => (if t166 = true then (if 0 ≤ x10 then (if x10 ≤ (x9.size : Int) then (if 0 ≤ (wrap64 (x10 + 1)) then (if (wrap64 (x10 + 1)) ≤ (x9.size : Int) then (if x4.length < 4398046511104 then (if 0 ≤ x7 then (if x7 ≤ (x5.size : Int) then (bindleref01_Records.l0 k (x4 ++ [(⟨x9.extract 0 (x10 : Int).toNat, x9.extract ((wrap64 (x10 + 1)) : Int).toNat x9.size⟩ : S42)]) (x5.extract (x7 : Int).toNat x5.size)) else (none)) else (none)) else (none)) else (none)) else (none)) else (none)) else (none)) else (some (([] : List (S42)), 9))))
def bindleref01_Records.l2 : Nat → List (S42) → ByteArray → Int → ByteArray → Int → Int → Option ((List (S42)) × Int)
  | 0, _, _, _, _, _, _ => none
  | k + 1, x4, x5, x7, x9, x10, x11 => if x11 < (x9.size : Int) then (if 0 ≤ x11 then (if (bt x9 x11) = 61 then (bindleref01_Records.j6 k x4 x5 x7 x9 x11) else (bindleref01_Records.l2 k x4 x5 x7 x9 x10 (wrap64 (x11 + 1)))) else (none)) else (bindleref01_Records.j6 k x4 x5 x7 x9 x10)
def bindleref01_Records.l1 : Nat → List (S42) → ByteArray → Int → Option ((List (S42)) × Int)
  | 0, _, _, _ => none
  | k + 1, x4, x5, x6 => if x6 < (x5.size : Int) then (if 0 ≤ x6 then (if (bt x5 x6) ≥ 48 then (if (bt x5 x6) ≤ 57 then (bindleref01_Records.l1 k x4 x5 (wrap64 (x6 + 1))) else (bindleref01_Records.j2 k x4 x5 x6)) else (bindleref01_Records.j2 k x4 x5 x6)) else (none)) else (bindleref01_Records.j2 k x4 x5 x6)
end
def bindleref01_Records.f (k : Nat) (l0 : List Int) : Option ((List (S42)) × Int) := bindleref01_Records.l0 k ([] : List (S42)) (strOfNums l0)
theorem bindleref01_Records.mono_l : ∀ k, (∀ y0 y1, LeO (bindleref01_Records.l0 k y0 y1) (bindleref01_Records.l0 (k + 1) y0 y1)) ∧ (∀ y0 y1 y2, LeO (bindleref01_Records.j2 k y0 y1 y2) (bindleref01_Records.j2 (k + 1) y0 y1 y2)) ∧ (∀ y0 y1 y2 y3, LeO (bindleref01_Records.j3 k y0 y1 y2 y3) (bindleref01_Records.j3 (k + 1) y0 y1 y2 y3)) ∧ (∀ y0 y1 y2 y3 y4, LeO (bindleref01_Records.j4 k y0 y1 y2 y3 y4) (bindleref01_Records.j4 (k + 1) y0 y1 y2 y3 y4)) ∧ (∀ y0 y1 y2 y3 y4, LeO (bindleref01_Records.j6 k y0 y1 y2 y3 y4) (bindleref01_Records.j6 (k + 1) y0 y1 y2 y3 y4)) ∧ (∀ y0 y1 y2 y3 y4 y5, LeO (bindleref01_Records.l2 k y0 y1 y2 y3 y4 y5) (bindleref01_Records.l2 (k + 1) y0 y1 y2 y3 y4 y5)) ∧ (∀ y0 y1 y2, LeO (bindleref01_Records.l1 k y0 y1 y2) (bindleref01_Records.l1 (k + 1) y0 y1 y2))
  | 0 => ⟨fun _ _ r h => by simp [bindleref01_Records.l0] at h, fun _ _ _ r h => by simp [bindleref01_Records.j2] at h, fun _ _ _ _ r h => by simp [bindleref01_Records.j3] at h, fun _ _ _ _ _ r h => by simp [bindleref01_Records.j4] at h, fun _ _ _ _ _ r h => by simp [bindleref01_Records.j6] at h, fun _ _ _ _ _ _ r h => by simp [bindleref01_Records.l2] at h, fun _ _ _ r h => by simp [bindleref01_Records.l1] at h⟩
  | k + 1 => by
    obtain ⟨ih0, ih1, ih2, ih3, ih4, ih5, ih6⟩ := bindleref01_Records.mono_l k
    refine ⟨?_, ?_, ?_, ?_, ?_, ?_, ?_⟩
    · intro y0 y1
      unfold bindleref01_Records.l0
      repeat' first
      | (with_reducible exact ih0 _ _)
      | (with_reducible exact ih1 _ _ _)
      | (with_reducible exact ih2 _ _ _ _)
      | (with_reducible exact ih3 _ _ _ _ _)
      | (with_reducible exact ih4 _ _ _ _ _)
      | (with_reducible exact ih5 _ _ _ _ _ _)
      | (with_reducible exact ih6 _ _ _)
      | (with_reducible exact bindleref01_Text.mono _ _)
      | (with_reducible exact bindleref01_Whole.mono _ _)
      | (with_reducible exact LeO.refl _)
      | (with_reducible exact LeO.none _)
      | (with_reducible refine LeO.ite ?_ ?_)
      | (with_reducible refine LeO.bind ?_ (fun _ => ?_))
      | exact ih0 _ _
      | exact ih1 _ _ _
      | exact ih2 _ _ _ _
      | exact ih3 _ _ _ _ _
      | exact ih4 _ _ _ _ _
      | exact ih5 _ _ _ _ _ _
      | exact ih6 _ _ _
      | exact bindleref01_Text.mono _ _
      | exact bindleref01_Whole.mono _ _
      | exact LeO.none _
      | refine LeO.ite ?_ ?_
      | refine LeO.bind ?_ (fun _ => ?_)
    · intro y0 y1 y2
      unfold bindleref01_Records.j2
      repeat' first
      | (with_reducible exact ih0 _ _)
      | (with_reducible exact ih1 _ _ _)
      | (with_reducible exact ih2 _ _ _ _)
      | (with_reducible exact ih3 _ _ _ _ _)
      | (with_reducible exact ih4 _ _ _ _ _)
      | (with_reducible exact ih5 _ _ _ _ _ _)
      | (with_reducible exact ih6 _ _ _)
      | (with_reducible exact bindleref01_Text.mono _ _)
      | (with_reducible exact bindleref01_Whole.mono _ _)
      | (with_reducible exact LeO.refl _)
      | (with_reducible exact LeO.none _)
      | (with_reducible refine LeO.ite ?_ ?_)
      | (with_reducible refine LeO.bind ?_ (fun _ => ?_))
      | exact ih0 _ _
      | exact ih1 _ _ _
      | exact ih2 _ _ _ _
      | exact ih3 _ _ _ _ _
      | exact ih4 _ _ _ _ _
      | exact ih5 _ _ _ _ _ _
      | exact ih6 _ _ _
      | exact bindleref01_Text.mono _ _
      | exact bindleref01_Whole.mono _ _
      | exact LeO.none _
      | refine LeO.ite ?_ ?_
      | refine LeO.bind ?_ (fun _ => ?_)
    · intro y0 y1 y2 y3
      unfold bindleref01_Records.j3
      repeat' first
      | (with_reducible exact ih0 _ _)
      | (with_reducible exact ih1 _ _ _)
      | (with_reducible exact ih2 _ _ _ _)
      | (with_reducible exact ih3 _ _ _ _ _)
      | (with_reducible exact ih4 _ _ _ _ _)
      | (with_reducible exact ih5 _ _ _ _ _ _)
      | (with_reducible exact ih6 _ _ _)
      | (with_reducible exact bindleref01_Text.mono _ _)
      | (with_reducible exact bindleref01_Whole.mono _ _)
      | (with_reducible exact LeO.refl _)
      | (with_reducible exact LeO.none _)
      | (with_reducible refine LeO.ite ?_ ?_)
      | (with_reducible refine LeO.bind ?_ (fun _ => ?_))
      | exact ih0 _ _
      | exact ih1 _ _ _
      | exact ih2 _ _ _ _
      | exact ih3 _ _ _ _ _
      | exact ih4 _ _ _ _ _
      | exact ih5 _ _ _ _ _ _
      | exact ih6 _ _ _
      | exact bindleref01_Text.mono _ _
      | exact bindleref01_Whole.mono _ _
      | exact LeO.none _
      | refine LeO.ite ?_ ?_
      | refine LeO.bind ?_ (fun _ => ?_)
    · intro y0 y1 y2 y3 y4
      unfold bindleref01_Records.j4
      repeat' first
      | (with_reducible exact ih0 _ _)
      | (with_reducible exact ih1 _ _ _)
      | (with_reducible exact ih2 _ _ _ _)
      | (with_reducible exact ih3 _ _ _ _ _)
      | (with_reducible exact ih4 _ _ _ _ _)
      | (with_reducible exact ih5 _ _ _ _ _ _)
      | (with_reducible exact ih6 _ _ _)
      | (with_reducible exact bindleref01_Text.mono _ _)
      | (with_reducible exact bindleref01_Whole.mono _ _)
      | (with_reducible exact LeO.refl _)
      | (with_reducible exact LeO.none _)
      | (with_reducible refine LeO.ite ?_ ?_)
      | (with_reducible refine LeO.bind ?_ (fun _ => ?_))
      | exact ih0 _ _
      | exact ih1 _ _ _
      | exact ih2 _ _ _ _
      | exact ih3 _ _ _ _ _
      | exact ih4 _ _ _ _ _
      | exact ih5 _ _ _ _ _ _
      | exact ih6 _ _ _
      | exact bindleref01_Text.mono _ _
      | exact bindleref01_Whole.mono _ _
      | exact LeO.none _
      | refine LeO.ite ?_ ?_
      | refine LeO.bind ?_ (fun _ => ?_)
    · intro y0 y1 y2 y3 y4
      unfold bindleref01_Records.j6
      repeat' first
      | (with_reducible exact ih0 _ _)
      | (with_reducible exact ih1 _ _ _)
      | (with_reducible exact ih2 _ _ _ _)
      | (with_reducible exact ih3 _ _ _ _ _)
      | (with_reducible exact ih4 _ _ _ _ _)
      | (with_reducible exact ih5 _ _ _ _ _ _)
      | (with_reducible exact ih6 _ _ _)
      | (with_reducible exact bindleref01_Text.mono _ _)
      | (with_reducible exact bindleref01_Whole.mono _ _)
      | (with_reducible exact LeO.refl _)
      | (with_reducible exact LeO.none _)
      | (with_reducible refine LeO.ite ?_ ?_)
      | (with_reducible refine LeO.bind ?_ (fun _ => ?_))
      | exact ih0 _ _
      | exact ih1 _ _ _
      | exact ih2 _ _ _ _
      | exact ih3 _ _ _ _ _
      | exact ih4 _ _ _ _ _
      | exact ih5 _ _ _ _ _ _
      | exact ih6 _ _ _
      | exact bindleref01_Text.mono _ _
      | exact bindleref01_Whole.mono _ _
      | exact LeO.none _
      | refine LeO.ite ?_ ?_
      | refine LeO.bind ?_ (fun _ => ?_)
    · intro y0 y1 y2 y3 y4 y5
      unfold bindleref01_Records.l2
      repeat' first
      | (with_reducible exact ih0 _ _)
      | (with_reducible exact ih1 _ _ _)
      | (with_reducible exact ih2 _ _ _ _)
      | (with_reducible exact ih3 _ _ _ _ _)
      | (with_reducible exact ih4 _ _ _ _ _)
      | (with_reducible exact ih5 _ _ _ _ _ _)
      | (with_reducible exact ih6 _ _ _)
      | (with_reducible exact bindleref01_Text.mono _ _)
      | (with_reducible exact bindleref01_Whole.mono _ _)
      | (with_reducible exact LeO.refl _)
      | (with_reducible exact LeO.none _)
      | (with_reducible refine LeO.ite ?_ ?_)
      | (with_reducible refine LeO.bind ?_ (fun _ => ?_))
      | exact ih0 _ _
      | exact ih1 _ _ _
      | exact ih2 _ _ _ _
      | exact ih3 _ _ _ _ _
      | exact ih4 _ _ _ _ _
      | exact ih5 _ _ _ _ _ _
      | exact ih6 _ _ _
      | exact bindleref01_Text.mono _ _
      | exact bindleref01_Whole.mono _ _
      | exact LeO.none _
      | refine LeO.ite ?_ ?_
      | refine LeO.bind ?_ (fun _ => ?_)
    · intro y0 y1 y2
      unfold bindleref01_Records.l1
      repeat' first
      | (with_reducible exact ih0 _ _)
      | (with_reducible exact ih1 _ _ _)
      | (with_reducible exact ih2 _ _ _ _)
      | (with_reducible exact ih3 _ _ _ _ _)
      | (with_reducible exact ih4 _ _ _ _ _)
      | (with_reducible exact ih5 _ _ _ _ _ _)
      | (with_reducible exact ih6 _ _ _)
      | (with_reducible exact bindleref01_Text.mono _ _)
      | (with_reducible exact bindleref01_Whole.mono _ _)
      | (with_reducible exact LeO.refl _)
      | (with_reducible exact LeO.none _)
      | (with_reducible refine LeO.ite ?_ ?_)
      | (with_reducible refine LeO.bind ?_ (fun _ => ?_))
      | exact ih0 _ _
      | exact ih1 _ _ _
      | exact ih2 _ _ _ _
      | exact ih3 _ _ _ _ _
      | exact ih4 _ _ _ _ _
      | exact ih5 _ _ _ _ _ _
      | exact ih6 _ _ _
      | exact bindleref01_Text.mono _ _
      | exact bindleref01_Whole.mono _ _
      | exact LeO.none _
      | refine LeO.ite ?_ ?_
      | refine LeO.bind ?_ (fun _ => ?_)
theorem bindleref01_Records.mono : ∀ a0 k, LeO (bindleref01_Records.f k a0) (bindleref01_Records.f (k + 1) a0) := by
  intro a0 k
  obtain ⟨ih0, ih1, ih2, ih3, ih4, ih5, ih6⟩ := bindleref01_Records.mono_l k
  unfold bindleref01_Records.f
  repeat' first
      | (with_reducible exact ih0 _ _)
      | (with_reducible exact ih1 _ _ _)
      | (with_reducible exact ih2 _ _ _ _)
      | (with_reducible exact ih3 _ _ _ _ _)
      | (with_reducible exact ih4 _ _ _ _ _)
      | (with_reducible exact ih5 _ _ _ _ _ _)
      | (with_reducible exact ih6 _ _ _)
      | (with_reducible exact bindleref01_Text.mono _ _)
      | (with_reducible exact bindleref01_Whole.mono _ _)
      | (with_reducible exact LeO.refl _)
      | (with_reducible exact LeO.none _)
      | (with_reducible refine LeO.ite ?_ ?_)
      | (with_reducible refine LeO.bind ?_ (fun _ => ?_))
      | exact ih0 _ _
      | exact ih1 _ _ _
      | exact ih2 _ _ _ _
      | exact ih3 _ _ _ _ _
      | exact ih4 _ _ _ _ _
      | exact ih5 _ _ _ _ _ _
      | exact ih6 _ _ _
      | exact bindleref01_Text.mono _ _
      | exact bindleref01_Whole.mono _ _
      | exact LeO.none _
      | refine LeO.ite ?_ ?_
      | refine LeO.bind ?_ (fun _ => ?_)
def bindleref01_Records.T23 : Bool × List (List Nat × List Nat) := (true, [([], []), ([], []), ([], []), ([1, 2], [1, 2]), ([], []), ([], []), ([5], [5]), ([4, 6], [4, 6]), ([3, 7], [3, 7]), ([8], [8]), ([0, 9], [0, 9]), ([10, 10, 0, 1, 2, 3, 4, 5, 6, 7, 8, 9, 10], [0, 10])])
def bindleref01_Records.B23 : List Nat := [0, 0, 0, 6, 0, 0, 32, 112, 254, 510, 1023, 2047]
theorem bindleref01_Records.tab23 : rtab .any (opsOf Tryd.f22 23) = bindleref01_Records.T23 := by kernel_rfl
theorem bindleref01_Records.bits23 : waitsOk bindleref01_Records.T23.2 bindleref01_Records.B23 = true := by kernel_rfl
set_option maxHeartbeats 8000000 in
set_option maxRecDepth 100000 in
theorem bindleref01_Records.calls (k : Nat) (A0 : Option Addr) (c0 : Nat) (l0 : List Int) (r1 : List (S42)) (r2 : Int) (w : World) (hr0 : Kd.C (Kd.int .u8) w A0 l0.length l0) (hc0 : l0.length ≤ c0) (h : bindleref01_Records.f k l0 = some (r1, r2)) :
    Calls Tryd.prog 22 #[.slice A0 l0.length c0] w fun e w' => ∃ v0_ : Value, e = .returned (.tuple #[v0_, .int .i64 r2]) ∧ Kd.R k42 42 w' w.heap.size (fun _ => True) v0_ r1 ∧ Below w.heap.size w w' := by
  have hu42 := Tryd.underlying42
  have HR0 := Aside0.mk hr0
  have HC0 := Aside0.mk hc0
  clear hr0 hc0
  have HB := Aside0.mk (Below.refl w.heap.size w)
  have H : (bindleref01_Records.l0 k ([] : List (S42)) (strOfNums l0)) = some (r1, r2) := h
  clear h
  have H' := Aside0.mk H
  clear H
  have hcv2 := Kd.C_string (P := Tryd.prog) (A := A0) (c := c0) Tryd.underlying46 Tryd.underlying5 Tryd.underlying9 HR0.out
  go_enter Tryd.func22, Tryd.ntmps22
  go_wp2
  go_loopg [4, 5] k (fun kq v4 v5 w' => ∃ (x4_1 : List (S42)) (x5_1 : ByteArray), v5 = .string x5_1 ∧ Aside0 (bindleref01_Records.l0 kq x4_1 x5_1 = some (r1, r2)) ∧ Aside0 (kq ≤ k) ∧ Aside0 (Kd.R k42 42 w' w.heap.size (fun _ => True) v4 x4_1) ∧ Aside0 (Below w.heap.size w w'))
  case atStart => exact ⟨(([] : List (S42))), (strOfNums l0), (by first | rfl | (simp; done) | (simp [*]; done)), H', ⟨Nat.le_refl _⟩, ⟨by first | exact Kd.R_nil _ _ _ _ _ | exact Kd.N_nil _ _ _ _ _ | exact Kd.V_nil _ _ _ _ _ | exact Kd.Q_nil _ _ _ _ _ | exact Kd.S_nil _ _ _ _ _⟩, ⟨by repeat (first | (with_reducible first | exact HB.out | apply below_alloc | apply pw_below_drewN | apply below_drew1) | exact HB.out)⟩⟩
  case round =>
    clear H'
    try clear c2
    try clear p2
    try clear hcv2
    obtain ⟨x4_1, x5_1, rfl, HA, HK1, HO_4, HB⟩ := hrel
    cases gk with
    | zero => exact absurd HA.out (by simp [bindleref01_Records.l0])
    | succ k1 =>
      have H := HA.out
      clear HA
      simp only [bindleref01_Records.l0] at H
      by_cases c3 : (x5_1.size : Int) > 0
      · rw [if_pos c3] at H
        have c3b0 : decide (0 < (x5_1.size : Int)) = true := decide_eq_true c3
        have c3b1 : decide (0 < x5_1.size) = true := decide_eq_true (by omega)
        clear c3
        have HC4 := Aside0.mk H
        clear H
        go_upto_block 2 with (fail)
        go_cut [6] (fun v6 wc => ∃ (kq : Nat) (x6_3 : Int), v6 = .int .i64 x6_3 ∧ Aside0 (bindleref01_Records.j2 kq x4_1 x5_1 x6_3 = some (r1, r2)) ∧ Aside0 (kq ≤ k1) ∧ Aside0 (Kd.R k42 42 wc w.heap.size (fun _ => True) u4 x4_1) ∧ Aside0 (Below w.heap.size w wc))
        case first =>
          have H := HC4.out
          clear HC4
          have H' := Aside0.mk H
          clear H
          go_wp2
          go_loopg [6] k1 (fun kq v6 w' => ∃ (x6_2 : Int), v6 = .int .i64 x6_2 ∧ Aside0 (bindleref01_Records.l1 kq x4_1 x5_1 x6_2 = some (r1, r2)) ∧ Aside0 (kq ≤ k1) ∧ Aside0 (Kd.R k42 42 w' w.heap.size (fun _ => True) u4 x4_1) ∧ Aside0 (Below w.heap.size w w'))
          case atStart => exact ⟨(0), (by first | rfl | (simp; done) | (simp [*]; done)), H', ⟨Nat.le_refl _⟩, ⟨by (with_reducible repeat (first | apply Kd.R_alloc | apply Kd.R_drewN | apply Kd.R_drew)); exact HO_4.out⟩, ⟨by repeat (first | (with_reducible first | exact HB.out | apply below_alloc | apply pw_below_drewN | apply below_drew1) | exact HB.out)⟩⟩
          case round =>
            clear H'
            try clear c2
            try clear p2
            try clear hcv2
            try clear c3
            try clear c3b0
            try clear c3b1
            try clear p2
            obtain ⟨x6_2, rfl, HA, HK2, HO_4, HB⟩ := hrel
            cases gk with
            | zero => exact absurd HA.out (by simp [bindleref01_Records.l1])
            | succ k2 =>
              have H := HA.out
              clear HA
              simp only [bindleref01_Records.l1] at H
              by_cases c5 : x6_2 < (x5_1.size : Int)
              · rw [if_pos c5] at H
                have c5b0 : decide (x6_2 < (x5_1.size : Int)) = true := decide_eq_true c5
                clear c5
                (first | rw [c5b0] | (simp only [i64_w, i32_w]; rw [c5b0]) | skip)
                by_cases c6 : 0 ≤ x6_2
                · rw [if_pos c6] at H
                  have c6b0 : decide (0 ≤ x6_2) = true := decide_eq_true c6
                  clear c6
                  by_cases c8 : (bt x5_1 x6_2) ≥ 48
                  · rw [if_pos c8] at H
                    have c8b0 : decide (48 ≤ (bt x5_1 x6_2)) = true := decide_eq_true c8
                    clear c8
                    by_cases c10 : (bt x5_1 x6_2) ≤ 57
                    · rw [if_pos c10] at H
                      have c10b0 : decide ((bt x5_1 x6_2) ≤ 57) = true := decide_eq_true c10
                      clear c10
                      have H' := Aside0.mk H
                      clear H
                      have p7 : 0 ≤ (x6_2 : Int) := of_decide_eq_true (by first | (with_reducible assumption) | assumption)
                      have q7 : x6_2 < (x5_1.size : Int) := of_decide_eq_true (by first | (with_reducible assumption) | assumption)
                      have hx7 := bt_at x5_1 x6_2
                      replace p7 := eq_true p7
                      replace q7 := eq_true q7
                      have p9 : 0 ≤ (x6_2 : Int) := of_decide_eq_true (by first | (with_reducible assumption) | assumption)
                      have q9 : x6_2 < (x5_1.size : Int) := of_decide_eq_true (by first | (with_reducible assumption) | assumption)
                      have hx9 := bt_at x5_1 x6_2
                      replace p9 := eq_true p9
                      replace q9 := eq_true q9
                      go_wp2
                      go_roundg k2
                      case measure => have := HK1.out; have := HK2.out; omega
                      case rel => exact ⟨(wrap64 (x6_2 + 1)), (by first | rfl | (simp; done) | (simp [*]; done)), H', ⟨by have := HK1.out; have := HK2.out; omega⟩, ⟨by (with_reducible repeat (first | apply Kd.R_alloc | apply Kd.R_drewN | apply Kd.R_drew)); exact HO_4.out⟩, ⟨by repeat (first | (with_reducible first | exact HB.out | apply below_alloc | apply pw_below_drewN | apply below_drew1) | exact HB.out)⟩⟩
                    · rw [if_neg c10] at H
                      have c10b0 : decide ((bt x5_1 x6_2) ≤ 57) = false := decide_eq_false c10
                      clear c10
                      have H' := Aside0.mk H
                      clear H
                      have p7 : 0 ≤ (x6_2 : Int) := of_decide_eq_true (by first | (with_reducible assumption) | assumption)
                      have q7 : x6_2 < (x5_1.size : Int) := of_decide_eq_true (by first | (with_reducible assumption) | assumption)
                      have hx7 := bt_at x5_1 x6_2
                      replace p7 := eq_true p7
                      replace q7 := eq_true q7
                      have p9 : 0 ≤ (x6_2 : Int) := of_decide_eq_true (by first | (with_reducible assumption) | assumption)
                      have q9 : x6_2 < (x5_1.size : Int) := of_decide_eq_true (by first | (with_reducible assumption) | assumption)
                      have hx9 := bt_at x5_1 x6_2
                      replace p9 := eq_true p9
                      replace q9 := eq_true q9
                      go_wp2
                      go_meet
                      case rel => exact ⟨_, (x6_2), (by first | rfl | (simp; done) | (simp [*]; done)), H', ⟨by have := HK1.out; have := HK2.out; first | omega | exact Nat.le_refl _⟩, ⟨by (with_reducible repeat (first | apply Kd.R_alloc | apply Kd.R_drewN | apply Kd.R_drew)); exact HO_4.out⟩, ⟨by repeat (first | (with_reducible first | exact HB.out | apply below_alloc | apply pw_below_drewN | apply below_drew1) | exact HB.out)⟩⟩
                  · rw [if_neg c8] at H
                    have c8b0 : decide (48 ≤ (bt x5_1 x6_2)) = false := decide_eq_false c8
                    clear c8
                    have H' := Aside0.mk H
                    clear H
                    have p7 : 0 ≤ (x6_2 : Int) := of_decide_eq_true (by first | (with_reducible assumption) | assumption)
                    have q7 : x6_2 < (x5_1.size : Int) := of_decide_eq_true (by first | (with_reducible assumption) | assumption)
                    have hx7 := bt_at x5_1 x6_2
                    replace p7 := eq_true p7
                    replace q7 := eq_true q7
                    go_wp2
                    go_meet
                    case rel => exact ⟨_, (x6_2), (by first | rfl | (simp; done) | (simp [*]; done)), H', ⟨by have := HK1.out; have := HK2.out; first | omega | exact Nat.le_refl _⟩, ⟨by (with_reducible repeat (first | apply Kd.R_alloc | apply Kd.R_drewN | apply Kd.R_drew)); exact HO_4.out⟩, ⟨by repeat (first | (with_reducible first | exact HB.out | apply below_alloc | apply pw_below_drewN | apply below_drew1) | exact HB.out)⟩⟩
                · rw [if_neg c6] at H
                  exact absurd H (by simp)
              · rw [if_neg c5] at H
                have c5b0 : decide (x6_2 < (x5_1.size : Int)) = false := decide_eq_false c5
                clear c5
                (first | rw [c5b0] | (simp only [i64_w, i32_w]; rw [c5b0]) | skip)
                have H' := Aside0.mk H
                clear H
                go_wp2
                go_meet
                case rel => exact ⟨_, (x6_2), (by first | rfl | (simp; done) | (simp [*]; done)), H', ⟨by have := HK1.out; have := HK2.out; first | omega | exact Nat.le_refl _⟩, ⟨by (with_reducible repeat (first | apply Kd.R_alloc | apply Kd.R_drewN | apply Kd.R_drew)); exact HO_4.out⟩, ⟨by repeat (first | (with_reducible first | exact HB.out | apply below_alloc | apply pw_below_drewN | apply below_drew1) | exact HB.out)⟩⟩
        case rest =>
          clear HC4
          try clear c1
          try clear c2
          try clear p2
          try clear hcv2
          try clear c3
          try clear c3b0
          try clear c3b1
          try clear c5
          try clear c5b0
          try clear c6
          try clear c6b0
          try clear p6
          try clear p7
          try clear q7
          try clear hx7
          try clear c8
          try clear c8b0
          try clear p9
          try clear q9
          try clear hx9
          try clear c10
          try clear c10b0
          try clear p2
          try clear p7
          try clear p9
          try clear q7
          try clear q9
          obtain ⟨kq, x6_3, rfl, HA, HJ3, HO_4, HB⟩ := hcut
          cases kq with
          | zero => exact absurd HA.out (by simp [bindleref01_Records.j2])
          | succ kj3 =>
            have H := HA.out
            clear HA
            simp only [bindleref01_Records.j2] at H
            have HC11 := Aside0.mk H
            clear H
            go_upto_region 7 with (fail)
            go_cut [57] (fun v57 wc => ∃ (kq : Nat) (x57_10 : Bool), v57 = .bool x57_10 ∧ Aside0 (bindleref01_Records.j3 kq x4_1 x5_1 x6_3 x57_10 = some (r1, r2)) ∧ Aside0 (kq ≤ kj3) ∧ Aside0 (Kd.R k42 42 wc w.heap.size (fun _ => True) u4 x4_1) ∧ Aside0 (Below w.heap.size w wc))
            case first =>
              have H := HC11.out
              clear HC11
              by_cases c12 : x6_3 < 1
              · rw [if_pos c12] at H
                have c12b0 : decide (x6_3 < 1) = true := decide_eq_true c12
                clear c12
                (first | rw [c12b0] | (simp only [i64_w, i32_w]; rw [c12b0]) | skip)
                have H' := Aside0.mk H
                clear H
                go_wp2
                go_meet
                case rel => exact ⟨_, (true), (by first | rfl | (simp; done) | (simp [*]; done)), H', ⟨by have := HK1.out; have := HJ3.out; first | omega | exact Nat.le_refl _⟩, ⟨by (with_reducible repeat (first | apply Kd.R_alloc | apply Kd.R_drewN | apply Kd.R_drew)); exact HO_4.out⟩, ⟨by repeat (first | (with_reducible first | exact HB.out | apply below_alloc | apply pw_below_drewN | apply below_drew1) | exact HB.out)⟩⟩
              · rw [if_neg c12] at H
                have c12b0 : decide (x6_3 < 1) = false := decide_eq_false c12
                clear c12
                (first | rw [c12b0] | (simp only [i64_w, i32_w]; rw [c12b0]) | skip)
                by_cases c13 : x6_3 > 7
                · rw [if_pos c13] at H
                  have c13b0 : decide (7 < x6_3) = true := decide_eq_true c13
                  clear c13
                  have H' := Aside0.mk H
                  clear H
                  go_wp2
                  go_meet
                  case rel => exact ⟨_, (true), (by first | rfl | (simp; done) | (simp [*]; done)), H', ⟨by have := HK1.out; have := HJ3.out; first | omega | exact Nat.le_refl _⟩, ⟨by (with_reducible repeat (first | apply Kd.R_alloc | apply Kd.R_drewN | apply Kd.R_drew)); exact HO_4.out⟩, ⟨by repeat (first | (with_reducible first | exact HB.out | apply below_alloc | apply pw_below_drewN | apply below_drew1) | exact HB.out)⟩⟩
                · rw [if_neg c13] at H
                  have c13b0 : decide (7 < x6_3) = false := decide_eq_false c13
                  clear c13
                  by_cases c14 : 0 < (x5_1.size : Int)
                  · rw [if_pos c14] at H
                    have c14b0 : decide (0 < (x5_1.size : Int)) = true := decide_eq_true c14
                    have c14b1 : decide (0 < x5_1.size) = true := decide_eq_true (by omega)
                    clear c14
                    by_cases c16 : (bt x5_1 0) = 48
                    · rw [if_pos c16] at H
                      have c16b0 : ((bt x5_1 0) == 48) = true := beq_iff_eq.mpr c16
                      have c16b1 : ((bt x5_1 0) != 48) = false := bne_eq_false_iff_eq.mpr c16
                      clear c16
                      have H' := Aside0.mk H
                      clear H
                      have p15 : 0 ≤ (0 : Int) := (by omega)
                      have q15 : 0 < x5_1.size := (by have : (0 : Int) < (x5_1.size : Int) := of_decide_eq_true (by first | (with_reducible assumption) | assumption); omega)
                      have hx15 : ∀ h : 0 < x5_1.size, ((x5_1[0]'h).toNat : Int) = bt x5_1 0 := bt_at x5_1 0
                      clear p15
                      have qi15 : (0 < (x5_1.size : Int)) = True := eq_true (of_decide_eq_true (by first | (with_reducible assumption) | assumption))
                      replace q15 := eq_true q15
                      go_wp2
                      go_meet
                      case rel => exact ⟨_, (true), (by first | rfl | (simp; done) | (simp [*]; done)), H', ⟨by have := HK1.out; have := HJ3.out; first | omega | exact Nat.le_refl _⟩, ⟨by (with_reducible repeat (first | apply Kd.R_alloc | apply Kd.R_drewN | apply Kd.R_drew)); exact HO_4.out⟩, ⟨by repeat (first | (with_reducible first | exact HB.out | apply below_alloc | apply pw_below_drewN | apply below_drew1) | exact HB.out)⟩⟩
                    · rw [if_neg c16] at H
                      have c16b0 : ((bt x5_1 0) == 48) = false := beq_eq_false_iff_ne.mpr c16
                      have c16b1 : ((bt x5_1 0) != 48) = true := bne_iff_ne.mpr c16
                      by_cases c17 : x6_3 = (x5_1.size : Int)
                      · rw [if_pos c17] at H
                        have c17b0 : (x6_3 == (x5_1.size : Int)) = true := beq_iff_eq.mpr c17
                        have c17b1 : (x6_3 != (x5_1.size : Int)) = false := bne_eq_false_iff_eq.mpr c17
                        clear c17
                        have H' := Aside0.mk H
                        clear H
                        have p15 : 0 ≤ (0 : Int) := (by omega)
                        have q15 : 0 < x5_1.size := (by have : (0 : Int) < (x5_1.size : Int) := of_decide_eq_true (by first | (with_reducible assumption) | assumption); omega)
                        have hx15 : ∀ h : 0 < x5_1.size, ((x5_1[0]'h).toNat : Int) = bt x5_1 0 := bt_at x5_1 0
                        clear p15
                        have qi15 : (0 < (x5_1.size : Int)) = True := eq_true (of_decide_eq_true (by first | (with_reducible assumption) | assumption))
                        replace q15 := eq_true q15
                        go_wp2
                        go_meet
                        case rel => exact ⟨_, (true), (by first | rfl | (simp; done) | (simp [*]; done)), H', ⟨by have := HK1.out; have := HJ3.out; first | omega | exact Nat.le_refl _⟩, ⟨by (with_reducible repeat (first | apply Kd.R_alloc | apply Kd.R_drewN | apply Kd.R_drew)); exact HO_4.out⟩, ⟨by repeat (first | (with_reducible first | exact HB.out | apply below_alloc | apply pw_below_drewN | apply below_drew1) | exact HB.out)⟩⟩
                      · rw [if_neg c17] at H
                        have c17b0 : (x6_3 == (x5_1.size : Int)) = false := beq_eq_false_iff_ne.mpr c17
                        have c17b1 : (x6_3 != (x5_1.size : Int)) = true := bne_iff_ne.mpr c17
                        by_cases c18 : 0 ≤ x6_3
                        · rw [if_pos c18] at H
                          have c18b0 : decide (0 ≤ x6_3) = true := decide_eq_true c18
                          clear c18
                          by_cases c19 : x6_3 < (x5_1.size : Int)
                          · rw [if_pos c19] at H
                            have c19b0 : decide (x6_3 < (x5_1.size : Int)) = true := decide_eq_true c19
                            clear c19
                            have H' := Aside0.mk H
                            clear H
                            have p15 : 0 ≤ (0 : Int) := (by omega)
                            have q15 : 0 < x5_1.size := (by have : (0 : Int) < (x5_1.size : Int) := of_decide_eq_true (by first | (with_reducible assumption) | assumption); omega)
                            have hx15 : ∀ h : 0 < x5_1.size, ((x5_1[0]'h).toNat : Int) = bt x5_1 0 := bt_at x5_1 0
                            clear p15
                            have qi15 : (0 < (x5_1.size : Int)) = True := eq_true (of_decide_eq_true (by first | (with_reducible assumption) | assumption))
                            replace q15 := eq_true q15
                            have p20 : 0 ≤ (x6_3 : Int) := of_decide_eq_true (by first | (with_reducible assumption) | assumption)
                            have q20 : x6_3 < (x5_1.size : Int) := of_decide_eq_true (by first | (with_reducible assumption) | assumption)
                            have hx20 := bt_at x5_1 x6_3
                            replace p20 := eq_true p20
                            replace q20 := eq_true q20
                            go_wp2
                            go_meet
                            case rel => exact ⟨_, (((bt x5_1 x6_3) != 32)), (by first | rfl | (simp; done) | (simp [*]; done)), H', ⟨by have := HK1.out; have := HJ3.out; first | omega | exact Nat.le_refl _⟩, ⟨by (with_reducible repeat (first | apply Kd.R_alloc | apply Kd.R_drewN | apply Kd.R_drew)); exact HO_4.out⟩, ⟨by repeat (first | (with_reducible first | exact HB.out | apply below_alloc | apply pw_below_drewN | apply below_drew1) | exact HB.out)⟩⟩
                          · rw [if_neg c19] at H
                            exact absurd H (by simp)
                        · rw [if_neg c18] at H
                          exact absurd H (by simp)
                  · rw [if_neg c14] at H
                    exact absurd H (by simp)
            case rest =>
              clear HC11
              try clear c1
              try clear p1
              try clear q1
              try clear hx1
              try clear qi1
              try clear c2
              try clear p2
              try clear q2
              try clear hx2
              try clear hcv2
              try clear c3
              try clear c3b0
              try clear c3b1
              try clear c5
              try clear c5b0
              try clear c6
              try clear c6b0
              try clear p6
              try clear p7
              try clear q7
              try clear hx7
              try clear c8
              try clear c8b0
              try clear p9
              try clear q9
              try clear hx9
              try clear c10
              try clear c10b0
              try clear c12
              try clear c12b0
              try clear c13
              try clear c13b0
              try clear c14
              try clear c14b0
              try clear c14b1
              try clear p15
              try clear q15
              try clear hx15
              try clear qi15
              try clear c16
              try clear c16b0
              try clear c16b1
              try clear c17
              try clear c17b0
              try clear c17b1
              try clear c18
              try clear c18b0
              try clear c19
              try clear c19b0
              try clear p20
              try clear q20
              try clear hx20
              try clear p15
              try clear p2
              try clear p20
              try clear p6
              try clear p7
              try clear p9
              try clear q15
              try clear q20
              try clear q7
              try clear q9
              obtain ⟨kq, x57_10, rfl, HA, HJ10, HO_4, HB⟩ := hcut
              cases kq with
              | zero => exact absurd HA.out (by simp [bindleref01_Records.j3])
              | succ kj10 =>
                have H := HA.out
                clear HA
                simp only [bindleref01_Records.j3] at H
                by_cases c21 : x57_10 = true
                · subst c21
                  have H1 : (some (([] : List (S42)), 5)) = some (r1, r2) := by rw [if_pos rfl] at H; exact H
                  clear H
                  have H := H1
                  clear H1
                  simp only [Option.some.injEq, Prod.mk.injEq] at H
                  obtain ⟨rfl, rfl⟩ := H
                  go_wp2
                  go_ret2
                  exact ⟨_, by first | rfl | (simp [errW_none, errW_some] <;> rfl) | (simp [*, errW_none, errW_some] <;> rfl), by first | exact Kd.R_nil _ _ _ _ _ | exact Kd.N_nil _ _ _ _ _ | exact Kd.V_nil _ _ _ _ _ | exact Kd.Q_nil _ _ _ _ _ | exact Kd.S_nil _ _ _ _ _, by repeat (first | (with_reducible first | exact HB.out | apply below_alloc | apply pw_below_drewN | apply below_drew1) | exact HB.out)⟩
                · replace c21 := Bool.eq_false_iff.mpr c21
                  subst c21
                  have H1 : (if 0 ≤ x6_3 then (if x6_3 ≤ (x5_1.size : Int) then ((bindleref01_Whole.f kj10 (x5_1.extract 0 (x6_3 : Int).toNat)).bind fun bt164 => (if bt164.1 > (x5_1.size : Int) then (bindleref01_Records.j4 kj10 x4_1 x5_1 x6_3 bt164.1 true) else (if bt164.1 < (wrap64 (x6_3 + 4)) then (bindleref01_Records.j4 kj10 x4_1 x5_1 x6_3 bt164.1 true) else (if 0 ≤ (wrap64 (bt164.1 - 1)) then (if (wrap64 (bt164.1 - 1)) < (x5_1.size : Int) then (bindleref01_Records.j4 kj10 x4_1 x5_1 x6_3 bt164.1 ((bt x5_1 (wrap64 (bt164.1 - 1))) != 10)) else (none)) else (none))))) else (none)) else (none)) = some (r1, r2) := by rw [if_neg (show ¬ (false = true) by decide)] at H; exact H
                  clear H
                  have H := H1
                  clear H1
                  by_cases c22 : 0 ≤ x6_3
                  · rw [if_pos c22] at H
                    have c22b0 := eq_true c22
                    have c22b1 : decide (0 ≤ x6_3) = true := decide_eq_true c22
                    clear c22
                    by_cases c23 : x6_3 ≤ (x5_1.size : Int)
                    · rw [if_pos c23] at H
                      have c23b0 := eq_true c23
                      have c23b1 : decide (x6_3 ≤ (x5_1.size : Int)) = true := decide_eq_true c23
                      clear c23
                      replace H := Option.bind_eq_some_iff.mp H
                      obtain ⟨⟨t164, t165⟩, A240, H⟩ := H
                      replace H : (if t164 > (x5_1.size : Int) then (bindleref01_Records.j4 kj10 x4_1 x5_1 x6_3 t164 true) else (if t164 < (wrap64 (x6_3 + 4)) then (bindleref01_Records.j4 kj10 x4_1 x5_1 x6_3 t164 true) else (if 0 ≤ (wrap64 (t164 - 1)) then (if (wrap64 (t164 - 1)) < (x5_1.size : Int) then (bindleref01_Records.j4 kj10 x4_1 x5_1 x6_3 t164 ((bt x5_1 (wrap64 (t164 - 1))) != 10)) else (none)) else (none)))) = some (r1, r2) := H
                      have A24 := Aside0.mk A240
                      clear A240
                      have HC25 := Aside0.mk H
                      clear H
                      go_upto_region 10 with (first | ((with_reducible refine gate_callee (f := 27) rfl ?_); refine goesL_ (some 62) rfl rfl Tryd.func27 (by kernel_rfl) rfl #[.string (x5_1.extract 0 (x6_3 : Int).toNat)] rfl (by (try simp only [List.map_toArray, List.map_cons, List.map_nil]); first | done | rfl | (simp only [List.length_drop, List.length_take]; rfl)) ?_; (with_reducible refine (bindleref01_Whole.calls kj10 (x5_1.extract 0 (x6_3 : Int).toNat) t164 t165 _ A24.out).mono ?_); rintro e w' ⟨rfl, ⟨nd, rfl⟩⟩; refine ⟨_, rfl, ?_⟩))
                      (try simp only [Act.put, List.setIfInBounds_toArray, List.set_cons_zero, List.set_cons_succ])
                      go_cut [81] (fun v81 wc => ∃ (kq : Nat) (x81_24 : Bool), v81 = .bool x81_24 ∧ Aside0 (bindleref01_Records.j4 kq x4_1 x5_1 x6_3 t164 x81_24 = some (r1, r2)) ∧ Aside0 (kq ≤ kj10) ∧ Aside0 (Kd.R k42 42 wc w.heap.size (fun _ => True) u4 x4_1) ∧ Aside0 (Below w.heap.size w wc))
                      case first =>
                        have H := HC25.out
                        clear HC25
                        by_cases c26 : t164 > (x5_1.size : Int)
                        · rw [if_pos c26] at H
                          have c26b0 : decide ((x5_1.size : Int) < t164) = true := decide_eq_true c26
                          clear c26
                          (first | rw [c26b0] | (simp only [i64_w, i32_w]; rw [c26b0]) | skip)
                          have H' := Aside0.mk H
                          clear H
                          go_wp2
                          go_meet
                          case rel => exact ⟨_, (true), (by first | rfl | (simp; done) | (simp [*]; done)), H', ⟨by have := HK1.out; have := HJ3.out; have := HJ10.out; first | omega | exact Nat.le_refl _⟩, ⟨by (with_reducible repeat (first | apply Kd.R_alloc | apply Kd.R_drewN | apply Kd.R_drew)); exact HO_4.out⟩, ⟨by repeat (first | (with_reducible first | exact HB.out | apply below_alloc | apply pw_below_drewN | apply below_drew1) | exact HB.out)⟩⟩
                        · rw [if_neg c26] at H
                          have c26b0 : decide ((x5_1.size : Int) < t164) = false := decide_eq_false c26
                          clear c26
                          (first | rw [c26b0] | (simp only [i64_w, i32_w]; rw [c26b0]) | skip)
                          by_cases c27 : t164 < (wrap64 (x6_3 + 4))
                          · rw [if_pos c27] at H
                            have c27b0 : decide (t164 < (wrap64 (x6_3 + 4))) = true := decide_eq_true c27
                            clear c27
                            have H' := Aside0.mk H
                            clear H
                            go_wp2
                            go_meet
                            case rel => exact ⟨_, (true), (by first | rfl | (simp; done) | (simp [*]; done)), H', ⟨by have := HK1.out; have := HJ3.out; have := HJ10.out; first | omega | exact Nat.le_refl _⟩, ⟨by (with_reducible repeat (first | apply Kd.R_alloc | apply Kd.R_drewN | apply Kd.R_drew)); exact HO_4.out⟩, ⟨by repeat (first | (with_reducible first | exact HB.out | apply below_alloc | apply pw_below_drewN | apply below_drew1) | exact HB.out)⟩⟩
                          · rw [if_neg c27] at H
                            have c27b0 : decide (t164 < (wrap64 (x6_3 + 4))) = false := decide_eq_false c27
                            clear c27
                            obtain ⟨ji28, hji28⟩ : ∃ j_ : Int, (wrap64 (t164 - 1)) = j_ := ⟨_, rfl⟩
                            replace H : (if 0 ≤ (ji28) then (if (ji28) < (x5_1.size : Int) then (bindleref01_Records.j4 kj10 x4_1 x5_1 x6_3 t164 ((bt x5_1 (ji28)) != 10)) else (none)) else (none)) = some (r1, r2) := by first | (rw [hji28] at H; exact H) | (simp only [hji28] at H ⊢; exact H)
                            have hji28w : (IntKind.i64.wrap (t164 - 1)) = ji28 := (i64_w _).trans hji28
                            by_cases c29 : 0 ≤ (ji28)
                            · rw [if_pos c29] at H
                              have c29b0 : decide (0 ≤ (ji28)) = true := decide_eq_true c29
                              clear c29
                              by_cases c30 : (ji28) < (x5_1.size : Int)
                              · rw [if_pos c30] at H
                                have c30b0 : decide ((ji28) < (x5_1.size : Int)) = true := decide_eq_true c30
                                clear c30
                                have H' := Aside0.mk H
                                clear H
                                have p31 : 0 ≤ ((ji28) : Int) := of_decide_eq_true (by first | (with_reducible assumption) | assumption)
                                have q31 : (ji28) < (x5_1.size : Int) := of_decide_eq_true (by first | (with_reducible assumption) | assumption)
                                have hx31 := bt_at x5_1 (ji28)
                                replace p31 := eq_true p31
                                replace q31 := eq_true q31
                                go_wp2
                                go_meet
                                case rel => exact ⟨_, (((bt x5_1 (ji28)) != 10)), (by first | rfl | (simp; done) | (simp only [← hji28] <;> (first | rfl | simp)) | (simp [*]; done)), H', ⟨by have := HK1.out; have := HJ3.out; have := HJ10.out; first | omega | exact Nat.le_refl _⟩, ⟨by (with_reducible repeat (first | apply Kd.R_alloc | apply Kd.R_drewN | apply Kd.R_drew)); exact HO_4.out⟩, ⟨by repeat (first | (with_reducible first | exact HB.out | apply below_alloc | apply pw_below_drewN | apply below_drew1) | exact HB.out)⟩⟩
                              · rw [if_neg c30] at H
                                exact absurd H (by simp)
                            · rw [if_neg c29] at H
                              exact absurd H (by simp)
                      case rest =>
                        clear HC25
                        try clear c1
                        try clear p1
                        try clear q1
                        try clear hx1
                        try clear qi1
                        try clear c2
                        try clear p2
                        try clear q2
                        try clear hx2
                        try clear hcv2
                        try clear c3
                        try clear c3b0
                        try clear c3b1
                        try clear p3
                        try clear q3
                        try clear hx3
                        try clear c5
                        try clear c5b0
                        try clear c6
                        try clear c6b0
                        try clear p6
                        try clear p7
                        try clear q7
                        try clear hx7
                        try clear c8
                        try clear c8b0
                        try clear p9
                        try clear q9
                        try clear hx9
                        try clear c10
                        try clear c10b0
                        try clear c12
                        try clear c12b0
                        try clear c13
                        try clear c13b0
                        try clear c14
                        try clear c14b0
                        try clear c14b1
                        try clear p15
                        try clear q15
                        try clear hx15
                        try clear qi15
                        try clear c16
                        try clear c16b0
                        try clear c16b1
                        try clear c17
                        try clear c17b0
                        try clear c17b1
                        try clear c18
                        try clear c18b0
                        try clear c19
                        try clear c19b0
                        try clear p20
                        try clear q20
                        try clear hx20
                        try clear c21
                        try clear c22
                        try clear c22b0
                        try clear c22b1
                        try clear c23
                        try clear c23b0
                        try clear c23b1
                        try clear c26
                        try clear c26b0
                        try clear c27
                        try clear c27b0
                        try clear c29
                        try clear c29b0
                        try clear c30
                        try clear c30b0
                        try clear p31
                        try clear q31
                        try clear hx31
                        try clear p1
                        try clear p15
                        try clear p2
                        try clear p20
                        try clear p31
                        try clear p6
                        try clear p7
                        try clear p9
                        try clear q1
                        try clear q15
                        try clear q2
                        try clear q20
                        try clear q31
                        try clear q7
                        try clear q9
                        obtain ⟨kq, x81_24, rfl, HA, HJ24, HO_4, HB⟩ := hcut
                        cases kq with
                        | zero => exact absurd HA.out (by simp [bindleref01_Records.j4])
                        | succ kj24 =>
                          have H := HA.out
                          clear HA
                          simp only [bindleref01_Records.j4] at H
                          by_cases c32 : x81_24 = true
                          · subst c32
                            have H1 : (some (([] : List (S42)), 5)) = some (r1, r2) := by rw [if_pos rfl] at H; exact H
                            clear H
                            have H := H1
                            clear H1
                            simp only [Option.some.injEq, Prod.mk.injEq] at H
                            obtain ⟨rfl, rfl⟩ := H
                            go_wp2
                            go_ret2
                            exact ⟨_, by first | rfl | (simp [errW_none, errW_some] <;> rfl) | (simp [*, errW_none, errW_some] <;> rfl), by first | exact Kd.R_nil _ _ _ _ _ | exact Kd.N_nil _ _ _ _ _ | exact Kd.V_nil _ _ _ _ _ | exact Kd.Q_nil _ _ _ _ _ | exact Kd.S_nil _ _ _ _ _, by repeat (first | (with_reducible first | exact HB.out | apply below_alloc | apply pw_below_drewN | apply below_drew1) | exact HB.out)⟩
                          · replace c32 := Bool.eq_false_iff.mpr c32
                            subst c32
                            have H1 : (if 0 ≤ (wrap64 (x6_3 + 1)) then (if (wrap64 (x6_3 + 1)) ≤ (wrap64 (t164 - 1)) then (if (wrap64 (t164 - 1)) ≤ (x5_1.size : Int) then (bindleref01_Records.l2 kj24 x4_1 x5_1 t164 (x5_1.extract ((wrap64 (x6_3 + 1)) : Int).toNat ((wrap64 (t164 - 1)) : Int).toNat) (-1) 0) else (none)) else (none)) else (none)) = some (r1, r2) := by rw [if_neg (show ¬ (false = true) by decide)] at H; exact H
                            clear H
                            have H := H1
                            clear H1
                            obtain ⟨ji33, hji33⟩ : ∃ j_ : Int, (wrap64 (x6_3 + 1)) = j_ := ⟨_, rfl⟩
                            replace H : (if 0 ≤ (ji33) then (if (ji33) ≤ (wrap64 (t164 - 1)) then (if (wrap64 (t164 - 1)) ≤ (x5_1.size : Int) then (bindleref01_Records.l2 kj24 x4_1 x5_1 t164 (x5_1.extract ((ji33) : Int).toNat ((wrap64 (t164 - 1)) : Int).toNat) (-1) 0) else (none)) else (none)) else (none)) = some (r1, r2) := by first | (rw [hji33] at H; exact H) | (simp only [hji33] at H ⊢; exact H)
                            have hji33w : (IntKind.i64.wrap (x6_3 + 1)) = ji33 := (i64_w _).trans hji33
                            by_cases c34 : 0 ≤ (ji33)
                            · rw [if_pos c34] at H
                              have c34b0 := eq_true c34
                              have c34b1 : decide (0 ≤ (ji33)) = true := decide_eq_true c34
                              clear c34
                              by_cases c35 : (ji33) ≤ (wrap64 (t164 - 1))
                              · rw [if_pos c35] at H
                                have c35b0 := eq_true c35
                                have c35b1 : decide ((ji33) ≤ (wrap64 (t164 - 1))) = true := decide_eq_true c35
                                clear c35
                                by_cases c36 : (wrap64 (t164 - 1)) ≤ (x5_1.size : Int)
                                · rw [if_pos c36] at H
                                  have c36b0 := eq_true c36
                                  have c36b1 : decide ((wrap64 (t164 - 1)) ≤ (x5_1.size : Int)) = true := decide_eq_true c36
                                  clear c36
                                  have HC37 := Aside0.mk H
                                  clear H
                                  go_upto_block 4 with (fail)
                                  go_cut [10] (fun v10 wc => ∃ (kq : Nat) (x10_36 : Int), v10 = .int .i64 x10_36 ∧ Aside0 (bindleref01_Records.j6 kq x4_1 x5_1 t164 (x5_1.extract ((ji33) : Int).toNat ((wrap64 (t164 - 1)) : Int).toNat) x10_36 = some (r1, r2)) ∧ Aside0 (kq ≤ kj24) ∧ Aside0 (Kd.R k42 42 wc w.heap.size (fun _ => True) u4 x4_1) ∧ Aside0 (Below w.heap.size w wc))
                                  case first =>
                                    have H := HC37.out
                                    clear HC37
                                    have H' := Aside0.mk H
                                    clear H
                                    go_wp2
                                    go_loopg [10, 11] kj24 (fun kq v10 v11 w' => ∃ (x10_5 : Int) (x11_5 : Int), v10 = .int .i64 x10_5 ∧ v11 = .int .i64 x11_5 ∧ Aside0 (bindleref01_Records.l2 kq x4_1 x5_1 t164 (x5_1.extract ((ji33) : Int).toNat ((wrap64 (t164 - 1)) : Int).toNat) x10_5 x11_5 = some (r1, r2)) ∧ Aside0 (kq ≤ kj24) ∧ Aside0 (Kd.R k42 42 w' w.heap.size (fun _ => True) u4 x4_1) ∧ Aside0 (Below w.heap.size w w'))
                                    case atStart => exact ⟨((-1)), (0), (by first | rfl | (simp; done) | (simp [*]; done)), (by first | rfl | (simp; done) | (simp [*]; done)), H', ⟨Nat.le_refl _⟩, ⟨by (with_reducible repeat (first | apply Kd.R_alloc | apply Kd.R_drewN | apply Kd.R_drew)); exact HO_4.out⟩, ⟨by repeat (first | (with_reducible first | exact HB.out | apply below_alloc | apply pw_below_drewN | apply below_drew1) | exact HB.out)⟩⟩
                                    case round =>
                                      clear H'
                                      try clear c1
                                      try clear p1
                                      try clear q1
                                      try clear hx1
                                      try clear qi1
                                      try clear c2
                                      try clear p2
                                      try clear q2
                                      try clear hx2
                                      try clear hcv2
                                      try clear c3
                                      try clear c3b0
                                      try clear c3b1
                                      try clear p3
                                      try clear q3
                                      try clear hx3
                                      try clear c5
                                      try clear c5b0
                                      try clear c6
                                      try clear c6b0
                                      try clear p6
                                      try clear p7
                                      try clear q7
                                      try clear hx7
                                      try clear c8
                                      try clear c8b0
                                      try clear p9
                                      try clear q9
                                      try clear hx9
                                      try clear c10
                                      try clear c10b0
                                      try clear c12
                                      try clear c12b0
                                      try clear c13
                                      try clear c13b0
                                      try clear c14
                                      try clear c14b0
                                      try clear c14b1
                                      try clear p15
                                      try clear q15
                                      try clear hx15
                                      try clear qi15
                                      try clear c16
                                      try clear c16b0
                                      try clear c16b1
                                      try clear c17
                                      try clear c17b0
                                      try clear c17b1
                                      try clear c18
                                      try clear c18b0
                                      try clear c19
                                      try clear c19b0
                                      try clear p20
                                      try clear q20
                                      try clear hx20
                                      try clear c21
                                      try clear c22
                                      try clear c22b0
                                      try clear c22b1
                                      try clear c23
                                      try clear c23b0
                                      try clear c23b1
                                      try clear c26
                                      try clear c26b0
                                      try clear c27
                                      try clear c27b0
                                      try clear c29
                                      try clear c29b0
                                      try clear c30
                                      try clear c30b0
                                      try clear p31
                                      try clear q31
                                      try clear hx31
                                      try clear c32
                                      try clear c34
                                      try clear c34b0
                                      try clear c34b1
                                      try clear c35
                                      try clear c35b0
                                      try clear c35b1
                                      try clear c36
                                      try clear c36b0
                                      try clear c36b1
                                      try clear p1
                                      try clear p15
                                      try clear p2
                                      try clear p20
                                      try clear p3
                                      try clear p31
                                      try clear p6
                                      try clear p7
                                      try clear p9
                                      try clear q1
                                      try clear q15
                                      try clear q2
                                      try clear q20
                                      try clear q3
                                      try clear q31
                                      try clear q7
                                      try clear q9
                                      obtain ⟨x10_5, x11_5, rfl, rfl, HA, HK5, HO_4, HB⟩ := hrel
                                      cases gk with
                                      | zero => exact absurd HA.out (by simp [bindleref01_Records.l2])
                                      | succ k5 =>
                                        have H := HA.out
                                        clear HA
                                        simp only [bindleref01_Records.l2] at H
                                        by_cases c38 : x11_5 < ((x5_1.extract ((ji33) : Int).toNat ((wrap64 (t164 - 1)) : Int).toNat).size : Int)
                                        · rw [if_pos c38] at H
                                          have c38b0 : decide (x11_5 < ((x5_1.extract ((ji33) : Int).toNat ((wrap64 (t164 - 1)) : Int).toNat).size : Int)) = true := decide_eq_true c38
                                          try (have c38b8 := c38b0; simp only [ByteArray.size_extract] at c38b8)
                                          clear c38
                                          (first | rw [c38b0] | (simp only [i64_w, i32_w]; rw [c38b0]) | rw [c38b8] | (simp only [i64_w, i32_w]; rw [c38b8]) | skip)
                                          by_cases c39 : 0 ≤ x11_5
                                          · rw [if_pos c39] at H
                                            have c39b0 : decide (0 ≤ x11_5) = true := decide_eq_true c39
                                            clear c39
                                            by_cases c41 : (bt (x5_1.extract ((ji33) : Int).toNat ((wrap64 (t164 - 1)) : Int).toNat) x11_5) = 61
                                            · rw [if_pos c41] at H
                                              have c41b0 : ((bt (x5_1.extract ((ji33) : Int).toNat ((wrap64 (t164 - 1)) : Int).toNat) x11_5) == 61) = true := beq_iff_eq.mpr c41
                                              have c41b1 : ((bt (x5_1.extract ((ji33) : Int).toNat ((wrap64 (t164 - 1)) : Int).toNat) x11_5) != 61) = false := bne_eq_false_iff_eq.mpr c41
                                              clear c41
                                              have H' := Aside0.mk H
                                              clear H
                                              have p40 : 0 ≤ (x11_5 : Int) := of_decide_eq_true (by first | (with_reducible assumption) | assumption)
                                              have q40 : x11_5 < ((x5_1.extract ((ji33) : Int).toNat ((wrap64 (t164 - 1)) : Int).toNat).size : Int) := of_decide_eq_true (by first | (with_reducible assumption) | assumption)
                                              have hx40 := bt_at (x5_1.extract ((ji33) : Int).toNat ((wrap64 (t164 - 1)) : Int).toNat) x11_5
                                              replace p40 := eq_true p40
                                              replace q40 := eq_true q40
                                              try (have q40b8 := q40; simp only [ByteArray.size_extract] at q40b8)
                                              go_wp2
                                              go_meet
                                              case rel => exact ⟨_, (x11_5), (by first | rfl | (simp; done) | (simp [*]; done)), H', ⟨by have := HK1.out; have := HJ3.out; have := HJ10.out; have := HJ24.out; have := HK5.out; first | omega | exact Nat.le_refl _⟩, ⟨by (with_reducible repeat (first | apply Kd.R_alloc | apply Kd.R_drewN | apply Kd.R_drew)); exact HO_4.out⟩, ⟨by repeat (first | (with_reducible first | exact HB.out | apply below_alloc | apply pw_below_drewN | apply below_drew1) | exact HB.out)⟩⟩
                                            · rw [if_neg c41] at H
                                              have c41b0 : ((bt (x5_1.extract ((ji33) : Int).toNat ((wrap64 (t164 - 1)) : Int).toNat) x11_5) == 61) = false := beq_eq_false_iff_ne.mpr c41
                                              have c41b1 : ((bt (x5_1.extract ((ji33) : Int).toNat ((wrap64 (t164 - 1)) : Int).toNat) x11_5) != 61) = true := bne_iff_ne.mpr c41
                                              have H' := Aside0.mk H
                                              clear H
                                              have p40 : 0 ≤ (x11_5 : Int) := of_decide_eq_true (by first | (with_reducible assumption) | assumption)
                                              have q40 : x11_5 < ((x5_1.extract ((ji33) : Int).toNat ((wrap64 (t164 - 1)) : Int).toNat).size : Int) := of_decide_eq_true (by first | (with_reducible assumption) | assumption)
                                              have hx40 := bt_at (x5_1.extract ((ji33) : Int).toNat ((wrap64 (t164 - 1)) : Int).toNat) x11_5
                                              replace p40 := eq_true p40
                                              replace q40 := eq_true q40
                                              try (have q40b8 := q40; simp only [ByteArray.size_extract] at q40b8)
                                              go_wp2
                                              go_roundg k5
                                              case measure => have := HK1.out; have := HJ3.out; have := HJ10.out; have := HJ24.out; have := HK5.out; omega
                                              case rel => exact ⟨(x10_5), (wrap64 (x11_5 + 1)), (by first | rfl | (simp; done) | (simp [*]; done)), (by first | rfl | (simp; done) | (simp [*]; done)), H', ⟨by have := HK1.out; have := HJ3.out; have := HJ10.out; have := HJ24.out; have := HK5.out; omega⟩, ⟨by (with_reducible repeat (first | apply Kd.R_alloc | apply Kd.R_drewN | apply Kd.R_drew)); exact HO_4.out⟩, ⟨by repeat (first | (with_reducible first | exact HB.out | apply below_alloc | apply pw_below_drewN | apply below_drew1) | exact HB.out)⟩⟩
                                          · rw [if_neg c39] at H
                                            exact absurd H (by simp)
                                        · rw [if_neg c38] at H
                                          have c38b0 : decide (x11_5 < ((x5_1.extract ((ji33) : Int).toNat ((wrap64 (t164 - 1)) : Int).toNat).size : Int)) = false := decide_eq_false c38
                                          try (have c38b8 := c38b0; simp only [ByteArray.size_extract] at c38b8)
                                          clear c38
                                          (first | rw [c38b0] | (simp only [i64_w, i32_w]; rw [c38b0]) | rw [c38b8] | (simp only [i64_w, i32_w]; rw [c38b8]) | skip)
                                          have H' := Aside0.mk H
                                          clear H
                                          go_wp2
                                          go_meet
                                          case rel => exact ⟨_, (x10_5), (by first | rfl | (simp; done) | (simp [*]; done)), H', ⟨by have := HK1.out; have := HJ3.out; have := HJ10.out; have := HJ24.out; have := HK5.out; first | omega | exact Nat.le_refl _⟩, ⟨by (with_reducible repeat (first | apply Kd.R_alloc | apply Kd.R_drewN | apply Kd.R_drew)); exact HO_4.out⟩, ⟨by repeat (first | (with_reducible first | exact HB.out | apply below_alloc | apply pw_below_drewN | apply below_drew1) | exact HB.out)⟩⟩
                                  case rest =>
                                    clear HC37
                                    try clear c1
                                    try clear p1
                                    try clear q1
                                    try clear hx1
                                    try clear qi1
                                    try clear c2
                                    try clear p2
                                    try clear q2
                                    try clear hx2
                                    try clear hcv2
                                    try clear c3
                                    try clear c3b0
                                    try clear c3b1
                                    try clear p3
                                    try clear q3
                                    try clear hx3
                                    try clear c4
                                    try clear p4
                                    try clear q4
                                    try clear hx4
                                    try clear c5
                                    try clear c5b0
                                    try clear c6
                                    try clear c6b0
                                    try clear p6
                                    try clear p7
                                    try clear q7
                                    try clear hx7
                                    try clear c8
                                    try clear c8b0
                                    try clear p9
                                    try clear q9
                                    try clear hx9
                                    try clear c10
                                    try clear c10b0
                                    try clear c12
                                    try clear c12b0
                                    try clear c13
                                    try clear c13b0
                                    try clear c14
                                    try clear c14b0
                                    try clear c14b1
                                    try clear p15
                                    try clear q15
                                    try clear hx15
                                    try clear qi15
                                    try clear c16
                                    try clear c16b0
                                    try clear c16b1
                                    try clear c17
                                    try clear c17b0
                                    try clear c17b1
                                    try clear c18
                                    try clear c18b0
                                    try clear c19
                                    try clear c19b0
                                    try clear p20
                                    try clear q20
                                    try clear hx20
                                    try clear c21
                                    try clear c22
                                    try clear c22b0
                                    try clear c22b1
                                    try clear c23
                                    try clear c23b0
                                    try clear c23b1
                                    try clear c26
                                    try clear c26b0
                                    try clear c27
                                    try clear c27b0
                                    try clear c29
                                    try clear c29b0
                                    try clear c30
                                    try clear c30b0
                                    try clear p31
                                    try clear q31
                                    try clear hx31
                                    try clear c32
                                    try clear c34
                                    try clear c34b0
                                    try clear c34b1
                                    try clear c35
                                    try clear c35b0
                                    try clear c35b1
                                    try clear c36
                                    try clear c36b0
                                    try clear c36b1
                                    try clear c38
                                    try clear c38b0
                                    try clear c39
                                    try clear c39b0
                                    try clear p40
                                    try clear q40
                                    try clear hx40
                                    try clear c41
                                    try clear c41b0
                                    try clear c41b1
                                    try clear p1
                                    try clear p15
                                    try clear p2
                                    try clear p20
                                    try clear p3
                                    try clear p31
                                    try clear p40
                                    try clear p6
                                    try clear p7
                                    try clear p9
                                    try clear q1
                                    try clear q15
                                    try clear q2
                                    try clear q20
                                    try clear q3
                                    try clear q31
                                    try clear q40
                                    try clear q7
                                    try clear q9
                                    obtain ⟨kq, x10_36, rfl, HA, HJ36, HO_4, HB⟩ := hcut
                                    cases kq with
                                    | zero => exact absurd HA.out (by simp [bindleref01_Records.j6])
                                    | succ kj36 =>
                                      have H := HA.out
                                      clear HA
                                      simp only [bindleref01_Records.j6] at H
                                      by_cases c42 : x10_36 < 1
                                      · rw [if_pos c42] at H
                                        have c42b0 : decide (x10_36 < 1) = true := decide_eq_true c42
                                        clear c42
                                        simp only [Option.some.injEq, Prod.mk.injEq] at H
                                        obtain ⟨rfl, rfl⟩ := H
                                        go_wp2
                                        go_ret2
                                        exact ⟨_, by first | rfl | (simp [errW_none, errW_some] <;> rfl) | (simp only [← hji33]; first | rfl | (simp [errW_none, errW_some] <;> rfl)) | (simp [*, errW_none, errW_some] <;> rfl), by first | exact Kd.R_nil _ _ _ _ _ | exact Kd.N_nil _ _ _ _ _ | exact Kd.V_nil _ _ _ _ _ | exact Kd.Q_nil _ _ _ _ _ | exact Kd.S_nil _ _ _ _ _, by repeat (first | (with_reducible first | exact HB.out | apply below_alloc | apply pw_below_drewN | apply below_drew1) | exact HB.out)⟩
                                      · rw [if_neg c42] at H
                                        have c42b0 : decide (x10_36 < 1) = false := decide_eq_false c42
                                        clear c42
                                        replace H := Option.bind_eq_some_iff.mp H
                                        obtain ⟨t166, A430, H⟩ := H
                                        replace H : (if t166 = true then (if 0 ≤ x10_36 then (if x10_36 ≤ ((x5_1.extract ((ji33) : Int).toNat ((wrap64 (t164 - 1)) : Int).toNat).size : Int) then (if 0 ≤ (wrap64 (x10_36 + 1)) then (if (wrap64 (x10_36 + 1)) ≤ ((x5_1.extract ((ji33) : Int).toNat ((wrap64 (t164 - 1)) : Int).toNat).size : Int) then (if x4_1.length < 4398046511104 then (if 0 ≤ t164 then (if t164 ≤ (x5_1.size : Int) then (bindleref01_Records.l0 kj36 (x4_1 ++ [(⟨(x5_1.extract ((ji33) : Int).toNat ((wrap64 (t164 - 1)) : Int).toNat).extract 0 (x10_36 : Int).toNat, (x5_1.extract ((ji33) : Int).toNat ((wrap64 (t164 - 1)) : Int).toNat).extract ((wrap64 (x10_36 + 1)) : Int).toNat (x5_1.extract ((ji33) : Int).toNat ((wrap64 (t164 - 1)) : Int).toNat).size⟩ : S42)]) (x5_1.extract (t164 : Int).toNat x5_1.size)) else (none)) else (none)) else (none)) else (none)) else (none)) else (none)) else (none)) else (some (([] : List (S42)), 9))) = some (r1, r2) := H
                                        have A43 := Aside0.mk A430
                                        clear A430
                                        by_cases c44 : t166 = true
                                        · subst c44
                                          have H1 : (if 0 ≤ x10_36 then (if x10_36 ≤ ((x5_1.extract ((ji33) : Int).toNat ((wrap64 (t164 - 1)) : Int).toNat).size : Int) then (if 0 ≤ (wrap64 (x10_36 + 1)) then (if (wrap64 (x10_36 + 1)) ≤ ((x5_1.extract ((ji33) : Int).toNat ((wrap64 (t164 - 1)) : Int).toNat).size : Int) then (if x4_1.length < 4398046511104 then (if 0 ≤ t164 then (if t164 ≤ (x5_1.size : Int) then (bindleref01_Records.l0 kj36 (x4_1 ++ [(⟨(x5_1.extract ((ji33) : Int).toNat ((wrap64 (t164 - 1)) : Int).toNat).extract 0 (x10_36 : Int).toNat, (x5_1.extract ((ji33) : Int).toNat ((wrap64 (t164 - 1)) : Int).toNat).extract ((wrap64 (x10_36 + 1)) : Int).toNat (x5_1.extract ((ji33) : Int).toNat ((wrap64 (t164 - 1)) : Int).toNat).size⟩ : S42)]) (x5_1.extract (t164 : Int).toNat x5_1.size)) else (none)) else (none)) else (none)) else (none)) else (none)) else (none)) else (none)) = some (r1, r2) := by rw [if_pos rfl] at H; exact H
                                          clear H
                                          have H := H1
                                          clear H1
                                          by_cases c45 : 0 ≤ x10_36
                                          · rw [if_pos c45] at H
                                            have c45b0 := eq_true c45
                                            have c45b1 : decide (0 ≤ x10_36) = true := decide_eq_true c45
                                            clear c45
                                            by_cases c46 : x10_36 ≤ ((x5_1.extract ((ji33) : Int).toNat ((wrap64 (t164 - 1)) : Int).toNat).size : Int)
                                            · rw [if_pos c46] at H
                                              have c46b0 := eq_true c46
                                              try (have c46b8 := c46b0; simp only [ByteArray.size_extract] at c46b8)
                                              have c46b1 : decide (x10_36 ≤ ((x5_1.extract ((ji33) : Int).toNat ((wrap64 (t164 - 1)) : Int).toNat).size : Int)) = true := decide_eq_true c46
                                              try (have c46b7 := c46b1; simp only [ByteArray.size_extract] at c46b7)
                                              clear c46
                                              obtain ⟨ji47, hji47⟩ : ∃ j_ : Int, (wrap64 (x10_36 + 1)) = j_ := ⟨_, rfl⟩
                                              replace H : (if 0 ≤ (ji47) then (if (ji47) ≤ ((x5_1.extract ((ji33) : Int).toNat ((wrap64 (t164 - 1)) : Int).toNat).size : Int) then (if x4_1.length < 4398046511104 then (if 0 ≤ t164 then (if t164 ≤ (x5_1.size : Int) then (bindleref01_Records.l0 kj36 (x4_1 ++ [(⟨(x5_1.extract ((ji33) : Int).toNat ((wrap64 (t164 - 1)) : Int).toNat).extract 0 (x10_36 : Int).toNat, (x5_1.extract ((ji33) : Int).toNat ((wrap64 (t164 - 1)) : Int).toNat).extract ((ji47) : Int).toNat (x5_1.extract ((ji33) : Int).toNat ((wrap64 (t164 - 1)) : Int).toNat).size⟩ : S42)]) (x5_1.extract (t164 : Int).toNat x5_1.size)) else (none)) else (none)) else (none)) else (none)) else (none)) = some (r1, r2) := by first | (rw [hji47] at H; exact H) | (simp only [hji47] at H ⊢; exact H)
                                              (try rw [hji47] at A43)
                                              have hji47w : (IntKind.i64.wrap (x10_36 + 1)) = ji47 := (i64_w _).trans hji47
                                              by_cases c48 : 0 ≤ (ji47)
                                              · rw [if_pos c48] at H
                                                have c48b0 := eq_true c48
                                                have c48b1 : decide (0 ≤ (ji47)) = true := decide_eq_true c48
                                                clear c48
                                                by_cases c49 : (ji47) ≤ ((x5_1.extract ((ji33) : Int).toNat ((wrap64 (t164 - 1)) : Int).toNat).size : Int)
                                                · rw [if_pos c49] at H
                                                  have c49b0 := eq_true c49
                                                  try (have c49b8 := c49b0; simp only [ByteArray.size_extract] at c49b8)
                                                  have c49b1 : decide ((ji47) ≤ ((x5_1.extract ((ji33) : Int).toNat ((wrap64 (t164 - 1)) : Int).toNat).size : Int)) = true := decide_eq_true c49
                                                  try (have c49b7 := c49b1; simp only [ByteArray.size_extract] at c49b7)
                                                  clear c49
                                                  by_cases c50 : x4_1.length < 4398046511104
                                                  · rw [if_pos c50] at H
                                                    have LMc50 := Aside0.mk c50
                                                    clear c50
                                                    obtain ⟨y167, hy167⟩ : ∃ y_ : List (S42), y_ = (x4_1 ++ [(⟨(x5_1.extract ((ji33) : Int).toNat ((wrap64 (t164 - 1)) : Int).toNat).extract 0 (x10_36 : Int).toNat, (x5_1.extract ((ji33) : Int).toNat ((wrap64 (t164 - 1)) : Int).toNat).extract ((ji47) : Int).toNat (x5_1.extract ((ji33) : Int).toNat ((wrap64 (t164 - 1)) : Int).toNat).size⟩ : S42)]) := ⟨_, rfl⟩
                                                    replace H : (if 0 ≤ t164 then (if t164 ≤ (x5_1.size : Int) then (bindleref01_Records.l0 kj36 y167 (x5_1.extract (t164 : Int).toNat x5_1.size)) else (none)) else (none)) = some (r1, r2) := by first | (rw [hy167]; with_reducible exact H) | (have H2_ := (Option.bind_some _ _).symm.trans H; rw [hy167]; with_reducible exact H2_) | (have H2_ := (Option.bind_some _ _).symm.trans H; with_reducible exact H2_) | with_reducible exact H | (rw [hy167]; exact H) | exact H
                                                    have Ny167 := Aside0.mk hy167
                                                    clear hy167
                                                    by_cases c51 : 0 ≤ t164
                                                    · rw [if_pos c51] at H
                                                      have c51b0 := eq_true c51
                                                      have c51b1 : decide (0 ≤ t164) = true := decide_eq_true c51
                                                      clear c51
                                                      by_cases c52 : t164 ≤ (x5_1.size : Int)
                                                      · rw [if_pos c52] at H
                                                        have c52b0 := eq_true c52
                                                        have c52b1 : decide (t164 ≤ (x5_1.size : Int)) = true := decide_eq_true c52
                                                        clear c52
                                                        have H' := Aside0.mk H
                                                        clear H
                                                        try go_wp2_with (first | ((with_reducible refine gate_callee (f := 35) rfl ?_); refine goesL_ (some 102) rfl rfl Tryd.func35 (by kernel_rfl) rfl #[.string (x5_1.extract ((ji33) : Int).toNat ((wrap64 (t164 - 1)) : Int).toNat)] rfl (by (try simp only [List.map_toArray, List.map_cons, List.map_nil]); first | done | (simp only [hji33]; rfl) | rfl | (simp only [List.length_drop, List.length_take]; rfl)) ?_; (with_reducible refine (bindleref01_Text.calls kj36 (x5_1.extract ((ji33) : Int).toNat ((wrap64 (t164 - 1)) : Int).toNat) true _ A43.out).mono ?_); rintro e w' ⟨rfl, ⟨nd, rfl⟩⟩; refine ⟨_, rfl, ?_⟩))
                                                        (try (rw [drewN_self wc]; generalize hq_ : World.drewN wc _ = wc; have n0_ : Aside0 (Kd.R k42 42 wc w.heap.size (fun _ => True) u4 x4_1) := ⟨by rw [← hq_]; exact (by (with_reducible repeat (first | apply Kd.R_alloc | apply Kd.R_drewN | apply Kd.R_drew)); exact HO_4.out)⟩; have n1_ : Aside0 (Below w.heap.size w wc) := ⟨by rw [← hq_]; exact (by repeat (first | (with_reducible first | exact HB.out | apply below_alloc | apply pw_below_drewN | apply below_drew1) | exact HB.out))⟩; clear HO_4 HB hq_; have HO_4 := n0_; have HB := n1_; clear n0_ n1_))
                                                        have n0_ := Aside0.mk (Kd.R_drew HO_4.out)
                                                        have n1_ := Aside0.mk (below_drew1 HB.out)
                                                        clear HO_4
                                                        clear HB
                                                        have HO_4 := n0_
                                                        have HB := n1_
                                                        clear n0_ n1_
                                                        refine start_ (n := 12) (S := fun w' => True) (ds := []) #[false, false, false, false, false, false, false, false, false, false, false, false] (by kernel_rfl) rfl rfl trivial (fun hHeld => ?_); refine with_tabW bindleref01_Records.tab23 bindleref01_Records.bits23 (fun HT_ HW_ => ?_)
                                                        generalize wc.drew = w53 at HO_4 HB hHeld ⊢
                                                        refine pure_ (i := 0) (N := some 104) (v := ?_) (a' := ?_) #[true, false, false, false, false, false, false, false, false, false, false, false] rfl rfl (any_of HT_.out (by kernel_rfl)) (fun _ _ _ h => h) (Or.inl ⟨by rfl, ?_⟩) ?_ ?_
                                                        rotate_left
                                                        · intro w'
                                                          go_simp
                                                          with_reducible rfl
                                                        rotate_left
                                                        · simp only [Act.put, List.setIfInBounds_toArray, List.set_cons_zero, List.set_cons_succ, i64_w, i32_w]
                                                          rfl
                                                        refine pure_ (i := 1) (N := some 105) (v := ?_) (a' := ?_) #[true, true, false, false, false, false, false, false, false, false, false, false] rfl rfl (any_of HT_.out (by kernel_rfl)) (fun _ _ _ h => h) (Or.inl ⟨by rfl, ?_⟩) ?_ ?_
                                                        rotate_left
                                                        · intro w'
                                                          go_simp
                                                          with_reducible rfl
                                                        rotate_left
                                                        · simp only [Act.put, List.setIfInBounds_toArray, List.set_cons_zero, List.set_cons_succ, i64_w, i32_w]
                                                          rfl
                                                        refine pure_ (i := 2) (N := some 106) (v := ?_) (a' := ?_) #[true, true, true, false, false, false, false, false, false, false, false, false] rfl rfl (any_of HT_.out (by kernel_rfl)) (fun _ _ _ h => h) (Or.inl ⟨by rfl, ?_⟩) ?_ ?_
                                                        rotate_left
                                                        · intro w'
                                                          go_simp
                                                          with_reducible rfl
                                                        rotate_left
                                                        · simp only [Act.put, List.setIfInBounds_toArray, List.set_cons_zero, List.set_cons_succ, i64_w, i32_w]
                                                          rfl
                                                        refine pure_ (i := 3) (N := some 107) (v := ?_) (a' := ?_) #[true, true, true, true, false, false, false, false, false, false, false, false] rfl rfl (any_of HT_.out (by kernel_rfl)) (fun _ _ _ h => h) (Or.inl ⟨by rfl, ?_⟩) ?_ ?_
                                                        rotate_left
                                                        · intro w'
                                                          go_simp
                                                          with_reducible rfl
                                                        rotate_left
                                                        · simp only [Act.put, List.setIfInBounds_toArray, List.set_cons_zero, List.set_cons_succ, i64_w, i32_w]
                                                          rfl
                                                        refine pure_ (i := 4) (N := some 108) (v := ?_) (a' := ?_) #[true, true, true, true, true, false, false, false, false, false, false, false] rfl rfl (any_of HT_.out (by kernel_rfl)) (fun _ _ _ h => h) (Or.inl ⟨by rfl, ?_⟩) ?_ ?_
                                                        rotate_left
                                                        · intro w'
                                                          go_simp
                                                          with_reducible rfl
                                                        rotate_left
                                                        · simp only [Act.put, List.setIfInBounds_toArray, List.set_cons_zero, List.set_cons_succ, i64_w, i32_w]
                                                          rfl
                                                        refine pure_ (i := 5) (N := some 109) (v := ?_) (a' := ?_) #[true, true, true, true, true, true, false, false, false, false, false, false] rfl rfl (any_of HT_.out (by kernel_rfl)) (fun _ _ _ h => h) (Or.inl ⟨by rfl, ?_⟩) ?_ ?_
                                                        rotate_left
                                                        · intro w'
                                                          go_simp
                                                          with_reducible rfl
                                                        rotate_left
                                                        · simp only [Act.put, List.setIfInBounds_toArray, List.set_cons_zero, List.set_cons_succ, i64_w, i32_w]
                                                          rfl
                                                        refine pure_ (i := 6) (N := some 110) (v := ?_) (a' := ?_) #[true, true, true, true, true, true, true, false, false, false, false, false] rfl rfl (any_of HT_.out (by kernel_rfl)) (fun _ _ _ h => h) (Or.inl ⟨by rfl, ?_⟩) ?_ ?_
                                                        rotate_left
                                                        · intro w'
                                                          go_simp
                                                          with_reducible rfl
                                                        rotate_left
                                                        · simp only [Act.put, List.setIfInBounds_toArray, List.set_cons_zero, List.set_cons_succ, i64_w, i32_w]
                                                          rfl
                                                        refine pure_ (i := 7) (N := some 111) (v := ?_) (a' := ?_) #[true, true, true, true, true, true, true, true, false, false, false, false] rfl rfl (any_of HT_.out (by kernel_rfl)) (fun _ _ _ h => h) (Or.inl ⟨by rfl, ?_⟩) ?_ ?_
                                                        rotate_left
                                                        · intro w'
                                                          go_simp
                                                          with_reducible rfl
                                                        rotate_left
                                                        · simp only [Act.put, List.setIfInBounds_toArray, List.set_cons_zero, List.set_cons_succ, i64_w, i32_w]
                                                          rfl
                                                        refine pure_ (i := 8) (N := some 112) (v := ?_) (a' := ?_) #[true, true, true, true, true, true, true, true, true, false, false, false] rfl rfl (any_of HT_.out (by kernel_rfl)) (fun _ _ _ h => h) (Or.inl ⟨by rfl, ?_⟩) ?_ ?_
                                                        rotate_left
                                                        · intro w'
                                                          go_simp
                                                          with_reducible rfl
                                                        rotate_left
                                                        · simp only [Act.put, List.setIfInBounds_toArray, List.set_cons_zero, List.set_cons_succ, i64_w, i32_w]
                                                          rfl
                                                        refine one_ (i := 9) (N := some 113) #[true, true, true, true, true, true, true, true, true, true, false, false] rfl rfl (one_of HT_.out (by kernel_rfl)) (by decide) (fun K hK => ?_)
                                                        refine value_ (w1 := ?_) (v := ?_) (by rfl) rfl ?_ ?_
                                                        rotate_left 2
                                                        · go_simp
                                                          constructor
                                                          · rfl
                                                          · rfl
                                                        refine hK.out _ _ trivial (fun hHeld => ?_)
                                                        clear hK K
                                                        refine norm_ (a' := ?_) ?_ ?_
                                                        rotate_left
                                                        · show Act.put _ (some 113) _ = _
                                                          simp only [Act.put, List.setIfInBounds_toArray, List.set_cons_zero, List.set_cons_succ, i64_w, i32_w]
                                                          rfl
                                                        refine one_ (i := 10) (N := some 114) #[true, true, true, true, true, true, true, true, true, true, true, false] rfl rfl (one_of HT_.out (by kernel_rfl)) (by decide) (fun K hK => ?_)
                                                        try rw [← ByteArray.size_extract]
                                                        refine Kd.R_append_step k42 (w0 := w) w.heap.size (by rfl) (.tmp 104) (.tmp 113) 27 42 (.agg #[(.string ⟨#[]⟩), (.string ⟨#[]⟩)]) 32 rfl Tryd.underlying27 info42 rfl (by decide) (by omega) u4 x4_1 (⟨(x5_1.extract ((ji33) : Int).toNat ((wrap64 (t164 - 1)) : Int).toNat).extract 0 (x10_36 : Int).toNat, (x5_1.extract ((ji33) : Int).toNat ((wrap64 (t164 - 1)) : Int).toNat).extract ((ji47) : Int).toNat (x5_1.extract ((ji33) : Int).toNat ((wrap64 (t164 - 1)) : Int).toNat).size⟩ : S42) [.string ((x5_1.extract ((ji33) : Int).toNat ((wrap64 (t164 - 1)) : Int).toNat).extract 0 (x10_36 : Int).toNat), .string ((x5_1.extract ((ji33) : Int).toNat ((wrap64 (t164 - 1)) : Int).toNat).extract ((ji47) : Int).toNat (x5_1.extract ((ji33) : Int).toNat ((wrap64 (t164 - 1)) : Int).toNat).size)] (fun _ => True) (fun _ => False) rfl rfl ?aP (fun _ hk => hk.elim) ?aF ?aO ?aB ?aS ?aL ?_
                                                        (case aP => exact k42_mkM _ _ _ (⟨(x5_1.extract ((ji33) : Int).toNat ((wrap64 (t164 - 1)) : Int).toNat).extract 0 (x10_36 : Int).toNat, (x5_1.extract ((ji33) : Int).toNat ((wrap64 (t164 - 1)) : Int).toNat).extract ((ji47) : Int).toNat (x5_1.extract ((ji33) : Int).toNat ((wrap64 (t164 - 1)) : Int).toNat).size⟩ : S42))
                                                        (case aB => exact (by repeat (first | (with_reducible first | exact HB.out | apply below_alloc | apply pw_below_drewN | apply below_drew1) | exact HB.out)))
                                                        (case aF => exact (fun _ _ => trivial))
                                                        (case aO => exact (by (with_reducible repeat (first | apply Kd.R_alloc | apply Kd.R_drewN | apply Kd.R_drew)); exact HO_4.out))
                                                        (case aS => exact (below_size (by repeat (first | (with_reducible first | exact HB.out | apply below_alloc | apply pw_below_drewN | apply below_drew1) | exact HB.out))))
                                                        (case aL => have := LMc50.out; omega)
                                                        intro v168 w54 ho hb hg hat
                                                        rw [← Ny167.out] at ho
                                                        have n0_ := Aside0.mk (hb)
                                                        have n1_ := Aside0.mk (ho)
                                                        clear HB
                                                        clear HO_4
                                                        have HB := n0_
                                                        have HO169 := n1_
                                                        clear n0_ n1_
                                                        clear ho hb hg hat
                                                        refine hK.out _ _ trivial (fun hHeld => ?_)
                                                        clear hK K
                                                        refine norm_ (a' := ?_) ?_ ?_
                                                        rotate_left
                                                        · show Act.put _ (some 114) _ = _
                                                          simp only [Act.put, List.setIfInBounds_toArray, List.set_cons_zero, List.set_cons_succ, i64_w, i32_w]
                                                          rfl
                                                        refine pure_ (i := 11) (N := some 4) (v := ?_) (a' := ?_) #[true, true, true, true, true, true, true, true, true, true, true, true] rfl rfl (any_of HT_.out (by kernel_rfl)) (fun _ _ _ h => h) (Or.inl ⟨by rfl, ?_⟩) ?_ ?_
                                                        rotate_left
                                                        · intro w'
                                                          go_simp
                                                          with_reducible rfl
                                                        rotate_left
                                                        · simp only [Act.put, List.setIfInBounds_toArray, List.set_cons_zero, List.set_cons_succ, i64_w, i32_w]
                                                          rfl
                                                        refine done_ (done_of HT_.out (by kernel_rfl)) ?_
                                                        try go_wp2
                                                        go_roundg kj36
                                                        case measure => have := HK1.out; have := HJ3.out; have := HJ10.out; have := HJ24.out; have := HJ36.out; omega
                                                        case rel => exact ⟨(y167), (x5_1.extract (t164 : Int).toNat x5_1.size), (by first | rfl | (simp; done) | (simp [*]; done)), H', ⟨by have := HK1.out; have := HJ3.out; have := HJ10.out; have := HJ24.out; have := HJ36.out; omega⟩, ⟨by (with_reducible repeat (first | apply Kd.R_alloc | apply Kd.R_drewN | apply Kd.R_drew)); exact HO169.out⟩, ⟨by repeat (first | (with_reducible first | exact HB.out | apply below_alloc | apply pw_below_drewN | apply below_drew1) | exact HB.out)⟩⟩
                                                      · rw [if_neg c52] at H
                                                        exact absurd H (by simp)
                                                    · rw [if_neg c51] at H
                                                      exact absurd H (by simp)
                                                  · rw [if_neg c50] at H
                                                    exact absurd H (by simp)
                                                · rw [if_neg c49] at H
                                                  exact absurd H (by simp)
                                              · rw [if_neg c48] at H
                                                exact absurd H (by simp)
                                            · rw [if_neg c46] at H
                                              exact absurd H (by simp)
                                          · rw [if_neg c45] at H
                                            exact absurd H (by simp)
                                        · replace c44 := Bool.eq_false_iff.mpr c44
                                          subst c44
                                          have H1 : (some (([] : List (S42)), 9)) = some (r1, r2) := by rw [if_neg (show ¬ (false = true) by decide)] at H; exact H
                                          clear H
                                          have H := H1
                                          clear H1
                                          simp only [Option.some.injEq, Prod.mk.injEq] at H
                                          obtain ⟨rfl, rfl⟩ := H
                                          go_wp2_with (first | ((with_reducible refine gate_callee (f := 35) rfl ?_); refine goesL_ (some 102) rfl rfl Tryd.func35 (by kernel_rfl) rfl #[.string (x5_1.extract ((ji33) : Int).toNat ((wrap64 (t164 - 1)) : Int).toNat)] rfl (by (try simp only [List.map_toArray, List.map_cons, List.map_nil]); first | done | (simp only [hji33]; rfl) | rfl | (simp only [List.length_drop, List.length_take]; rfl)) ?_; (with_reducible refine (bindleref01_Text.calls kj36 (x5_1.extract ((ji33) : Int).toNat ((wrap64 (t164 - 1)) : Int).toNat) false _ A43.out).mono ?_); rintro e w' ⟨rfl, ⟨nd, rfl⟩⟩; refine ⟨_, rfl, ?_⟩))
                                          go_ret2
                                          exact ⟨_, by first | rfl | (simp [errW_none, errW_some] <;> rfl) | (simp only [← hji33]; first | rfl | (simp [errW_none, errW_some] <;> rfl)) | (simp [*, errW_none, errW_some] <;> rfl), by first | exact Kd.R_nil _ _ _ _ _ | exact Kd.N_nil _ _ _ _ _ | exact Kd.V_nil _ _ _ _ _ | exact Kd.Q_nil _ _ _ _ _ | exact Kd.S_nil _ _ _ _ _, by repeat (first | (with_reducible first | exact HB.out | apply below_alloc | apply pw_below_drewN | apply below_drew1) | exact HB.out)⟩
                                · rw [if_neg c36] at H
                                  exact absurd H (by simp)
                              · rw [if_neg c35] at H
                                exact absurd H (by simp)
                            · rw [if_neg c34] at H
                              exact absurd H (by simp)
                    · rw [if_neg c23] at H
                      exact absurd H (by simp)
                  · rw [if_neg c22] at H
                    exact absurd H (by simp)
      · rw [if_neg c3] at H
        have c3b0 : decide (0 < (x5_1.size : Int)) = false := decide_eq_false c3
        have c3b1 : decide (0 < x5_1.size) = false := decide_eq_false (by omega)
        clear c3
        simp only [Option.some.injEq, Prod.mk.injEq] at H
        obtain ⟨rfl, rfl⟩ := H
        go_wp2
        go_ret2
        exact ⟨_, by first | rfl | (simp [errW_none, errW_some] <;> rfl) | (simp [*, errW_none, errW_some] <;> rfl), by (with_reducible repeat (first | apply Kd.R_alloc | apply Kd.R_drewN | apply Kd.R_drew)); exact HO_4.out, by repeat (first | (with_reducible first | exact HB.out | apply below_alloc | apply pw_below_drewN | apply below_drew1) | exact HB.out)⟩

end Go.Proofs.YtgjkkhdjfppeiaaDoor.Print
