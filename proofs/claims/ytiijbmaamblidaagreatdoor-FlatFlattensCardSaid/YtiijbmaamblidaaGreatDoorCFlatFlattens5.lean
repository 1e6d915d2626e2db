/-
  Part of the proof that FlatFlattens answers true: texts put together (wip/bundle.py).
-/
import Derived.Test.YtiijbmaamblidaaGreatDoorCFlatFlattens4
namespace Go.Proofs.YtiijbmaamblidaaGreatDoor.Print
open Go.RowKit Go.Proofs.YtiijbmaamblidaaGreatDoorW.PrintWords Go.Proofs.YtiijbmaamblidaaGreatDoorW.PrintLast Go.Proofs.YtiijbmaamblidaaGreatDoorW.PrintMore
attribute [local go_sem] max2_int min2_int max_two min_two max_three min_three max_four min_four   -- for this text's walks alone
set_option linter.unusedVariables false
set_option linter.unusedSimpArgs false
abbrev q13_0 : Array Bool := #[false, false, false, false, false, false, false, false, false, false, false, false, false]
abbrev q13_1 : Array Bool := #[true, false, false, false, false, false, false, false, false, false, false, false, false]
abbrev q13_2 : Array Bool := #[true, true, false, false, false, false, false, false, false, false, false, false, false]
abbrev q13_3 : Array Bool := #[true, true, true, false, false, false, false, false, false, false, false, false, false]
abbrev q13_4 : Array Bool := #[true, true, true, true, false, false, false, false, false, false, false, false, false]
abbrev q13_5 : Array Bool := #[true, true, true, true, true, false, false, false, false, false, false, false, false]
abbrev q13_6 : Array Bool := #[true, true, true, true, true, true, false, false, false, false, false, false, false]
abbrev q13_7 : Array Bool := #[true, true, true, true, true, true, true, false, false, false, false, false, false]
abbrev q13_8 : Array Bool := #[true, true, true, true, true, true, true, true, false, false, false, false, false]
abbrev q13_9 : Array Bool := #[true, true, true, true, true, true, true, true, false, true, false, false, false]
abbrev q13_10 : Array Bool := #[true, true, true, true, true, true, true, true, true, true, false, false, false]
abbrev q13_11 : Array Bool := #[true, true, true, true, true, true, true, true, true, true, true, false, false]
abbrev q13_12 : Array Bool := #[true, true, true, true, true, true, true, true, true, true, true, true, false]
abbrev q13_13 : Array Bool := #[true, true, true, true, true, true, true, true, true, true, true, true, true]
abbrev q13_14 : Array Bool := #[false, false, false, false, false, false, false, false, false, false]
abbrev q13_15 : Array Bool := #[true, false, false, false, false, false, false, false, false, false]
abbrev q13_16 : Array Bool := #[true, true, false, false, false, false, false, false, false, false]
abbrev q13_17 : Array Bool := #[true, true, true, false, false, false, false, false, false, false]
abbrev q13_18 : Array Bool := #[true, true, true, false, true, false, false, false, false, false]
abbrev q13_19 : Array Bool := #[true, true, true, true, true, false, false, false, false, false]
abbrev q13_20 : Array Bool := #[true, true, true, true, true, true, false, false, false, false]
abbrev q13_21 : Array Bool := #[true, true, true, true, true, true, true, false, false, false]
abbrev q13_22 : Array Bool := #[true, true, true, true, true, true, true, true, false, false]
abbrev q13_23 : Array Bool := #[true, true, true, true, true, true, true, true, true, false]
abbrev q13_24 : Array Bool := #[true, true, true, true, true, true, true, true, true, true]
abbrev q13_25 : Array Bool := #[true, true, true, true, true, true, true, true, true, false, false, false, false]
abbrev q13_26 : Array Bool := #[false, false, false, false, false, false, false, false, false, false, false, false]
abbrev q13_27 : Array Bool := #[true, false, false, false, false, false, false, false, false, false, false, false]
abbrev q13_28 : Array Bool := #[true, true, false, false, false, false, false, false, false, false, false, false]
abbrev q13_29 : Array Bool := #[true, true, false, false, false, true, false, false, false, false, false, false]
abbrev q13_30 : Array Bool := #[true, true, false, false, false, true, true, false, false, false, false, false]
abbrev q13_31 : Array Bool := #[true, true, true, false, false, true, true, false, false, false, false, false]
abbrev q13_32 : Array Bool := #[true, true, true, false, false, true, true, true, false, false, false, false]
abbrev q13_33 : Array Bool := #[true, true, true, true, true, true, true, true, true, false, false, false]
abbrev q13_34 : Array Bool := #[true, true, true, true, false, true, true, true, false, false, false, false]
abbrev q13_35 : Array Bool := #[true, true, true, false, false, true, true, true, true, false, false, false]
abbrev q13_36 : Array Bool := #[true, true, true, true, false, true, true, true, true, false, false, false]
abbrev q13_37 : Array Bool := #[true, true, true, true, true, true, true, true, false, false, false, false]
abbrev q13_38 : Array Bool := #[true, true, true, true, true, true, true, true, true, true, false, false]
abbrev q13_39 : Array Bool := #[true, true, true, true, true, true, true, true, true, true, true, false]
abbrev q13_40 : Array Bool := #[true, true, true, true, true, true, true, true, true, true, true, true]
mutual
def bindleref08_Members.l0 : Nat → List (S49) → List ByteArray → List (S43) → List ByteArray → List ByteArray → Int → Option ((List (S43)))
 | 0, _, _, _, _, _, _ => none
 | k + 1, x0, x1, x5, x6, x7, x8 => if x8 < (x1.length : Int) then (if 0 ≤ x8 then ((bindleref08_Find.f k x0 (rdOf ByteArray.empty x1 x8)).bind fun bt223 => (if bt223.2.2.2.1 = 48 then (bindleref08_Members.l1 k x0 x1 x5 x6 x7 x8 0 bt223.1 bt223.2.1 bt223.2.2.1 bt223.2.2.2.1 bt223.2.2.2.2.1 bt223.2.2.2.2.2.1 bt223.2.2.2.2.2.2.1 bt223.2.2.2.2.2.2.2.1 bt223.2.2.2.2.2.2.2.2.1 bt223.1 bt223.2.1 bt223.2.2.2.1 bt223.2.2.2.2.1 bt223.2.2.2.2.2.1 bt223.2.2.2.2.2.2.1 bt223.2.2.2.2.2.2.2.1 bt223.2.2.2.2.2.2.2.2.1) else ((some (([(⟨bt223.1, bt223.2.1, bt223.2.2.2.1, (⟨bt223.2.2.2.2.1, bt223.2.2.2.2.2.1, bt223.2.2.2.2.2.2.1, bt223.2.2.2.2.2.2.2.1⟩ : S40), bt223.2.2.2.2.2.2.2.2.1⟩ : S43)] : List (S43)) : List (S43))).bind fun y263 => (if x5.length + y263.length < 1466015503701 then (bindleref08_Members.l0 k x0 x1 (x5 ++ y263) x6 x7 (wrap64 (x8 + 1))) else (none))))) else (none)) else (some x5)
def bindleref08_Members.l1 : Nat → List (S49) → List ByteArray → List (S43) → List ByteArray → List ByteArray → Int → Int → ByteArray → ByteArray → ByteArray → Int → Int → Int → Int → Int → List Int → ByteArray → ByteArray → Int → Int → Int → Int → Int → List Int → Option ((List (S43)))
 | 0, _, _, _, _, _, _, _, _, _, _, _, _, _, _, _, _, _, _, _, _, _, _, _, _ => none
 | k + 1, x0, x1, x5, x6, x7, x8, x12, x236000, x236001, x236002, x236003, x236004, x236005, x236006, x236007, x236008, x237000, x237001, x237002, x237003, x237004, x237005, x237006, x237007 => if x12 < (x6.length : Int) then (if 0 ≤ x12 then (if (rdOf ByteArray.empty x6 x12).toList = x236002.toList then (if x12 < (x7.length : Int) then ((some (([(⟨x237000, rdOf ByteArray.empty x7 x12, 49, (⟨x237003, x237004, x237005, x237006⟩ : S40), ([] : List Int)⟩ : S43)] : List (S43)) : List (S43))).bind fun y239 => (if x5.length + y239.length < 1466015503701 then (bindleref08_Members.l0 k x0 x1 (x5 ++ y239) x6 x7 (wrap64 (x8 + 1))) else (none))) else (none)) else (bindleref08_Members.l1 k x0 x1 x5 x6 x7 x8 (wrap64 (x12 + 1)) x236000 x236001 x236002 x236003 x236004 x236005 x236006 x236007 x236008 x237000 x237001 x237002 x237003 x237004 x237005 x237006 x237007)) else (none)) else ((some (([x236002] : List ByteArray) : List ByteArray)).bind fun y245 => (if x6.length + y245.length < 8796093022208 then ((some (([x236000] : List ByteArray) : List ByteArray)).bind fun y251 => (if x7.length + y251.length < 8796093022208 then ((some (([(⟨x237000, x237001, x237002, (⟨x237003, x237004, x237005, x237006⟩ : S40), x237007⟩ : S43)] : List (S43)) : List (S43))).bind fun y257 => (if x5.length + y257.length < 1466015503701 then (bindleref08_Members.l0 k x0 x1 (x5 ++ y257) (x6 ++ y245) (x7 ++ y251) (wrap64 (x8 + 1))) else (none))) else (none))) else (none)))
end
def bindleref08_Members.f (k : Nat) (l0 : List (S49)) (l1 : List ByteArray) : Option ((List (S43))) := bindleref08_Members.l0 k l0 l1 ([] : List (S43)) ([] : List ByteArray) ([] : List ByteArray) 0
def bindleref08_Members.T10 : Bool × List (List Nat × List Nat) := (true, [([], []), ([], []), ([1], [1]), ([0, 2], [0, 2]), ([3], [3]), ([4], [4]), ([4], [4]), ([5, 6, 4], [4, 5, 6]), ([7, 4], [4, 7]), ([4], [4]), ([9, 4], [4, 9]), ([8, 10, 4], [4, 8, 10]), ([4, 11], [4, 11])])
def bindleref08_Members.B10 : List Nat := [0, 0, 2, 7, 15, 31, 31, 127, 255, 31, 543, 2047, 4095]
theorem bindleref08_Members.tab10 : rtab .any (opsOf Tryz.f13 10) = bindleref08_Members.T10 := by kernel_rfl
theorem bindleref08_Members.bits10 : waitsOk bindleref08_Members.T10.2 bindleref08_Members.B10 = true := by kernel_rfl
def bindleref08_Members.T13 : Bool × List (List Nat × List Nat) := (true, [([], []), ([], []), ([0, 1], [0, 1]), ([2], [2]), ([], []), ([4], [4]), ([0, 1, 2, 3, 4, 5], []), ([6, 3, 5, 0, 1, 2, 3, 4, 5], [3, 6]), ([0, 1, 2, 3, 4, 5, 6, 7], []), ([8, 7, 0, 1, 2, 3, 4, 5, 6, 7], [8])])
def bindleref08_Members.B13 : List Nat := [0, 0, 3, 7, 0, 16, 63, 127, 255, 511]
theorem bindleref08_Members.tab13 : rtab .any (opsOf Tryz.f13 13) = bindleref08_Members.T13 := by kernel_rfl
theorem bindleref08_Members.bits13 : waitsOk bindleref08_Members.T13.2 bindleref08_Members.B13 = true := by kernel_rfl
def bindleref08_Members.T14 : Bool × List (List Nat × List Nat) := (true, [([], []), ([], []), ([1], [1]), ([2], [2]), ([0, 3], [0, 3]), ([], []), ([], []), ([6], [6]), ([7], [7]), ([5, 8, 4], [5, 8]), ([4, 9, 0, 1, 2, 3, 4], [0, 4]), ([9, 10, 0, 1, 2, 3, 4, 5, 6, 7, 8, 9, 10], [5, 9])])
def bindleref08_Members.B14 : List Nat := [0, 0, 2, 6, 15, 0, 0, 64, 192, 511, 1023, 2047]
theorem bindleref08_Members.tab14 : rtab .any (opsOf Tryz.f13 14) = bindleref08_Members.T14 := by kernel_rfl
theorem bindleref08_Members.bits14 : waitsOk bindleref08_Members.T14.2 bindleref08_Members.B14 = true := by kernel_rfl
set_option maxHeartbeats 8000000 in
set_option maxRecDepth 100000 in
theorem bindleref08_Members.calls (k : Nat) (P0_ : Nat → Prop) (A0 : Option Addr) (c0 : Nat) (l0 : List (S49)) (A1 : Option Addr) (c1 : Nat) (l1 : List ByteArray) (r : List (S43)) (w : World) (hs0 : Kd.V k49 49 w w.heap.size (fun k_ => P0_ k_) (.slice A0 l0.length c0) l0) (hr1 : Kd.C Kd.string w A1 l1.length l1) (hc1 : l1.length ≤ c1) (h : bindleref08_Members.f k l0 l1 = some r) :
  Calls Tryz.prog 13 #[.slice A0 l0.length c0, .slice A1 l1.length c1] w fun e w' => ∃ v0_ : Value, e = .returned (v0_) ∧ Kd.N k43 43 w' w.heap.size (fun k_ => (P0_ k_ ∨ w.heap.size ≤ k_)) v0_ r ∧ Below w.heap.size w w' := by
 have hu49 := Tryz.underlying49
 have hu40 := Tryz.underlying40
 have hu43 := Tryz.underlying43
 have HO0 := A0_ (show Kd.V k49 49 w w.heap.size (fun k_ => (P0_ k_ ∨ w.heap.size ≤ k_)) (.slice A0 l0.length c0) l0 from Kd.V_mono hs0 (fun k_ hk => .inl hk))
 have HR1 := A0_ hr1
 have HC1 := A0_ hc1
 clear hr1 hc1
 have HB := A0_ (Below.refl w.heap.size w)
 have H : (bindleref08_Members.l0 k l0 l1 ([] : List (S43)) ([] : List ByteArray) ([] : List ByteArray) 0) = some r := h
 clear h
 have H' := A0_ H
 clear H
 go_enter Tryz.func13, Tryz.ntmps13
 go_wp2
 go_loopg [5, 6, 7, 8] k (fun kq v5 v6 v7 v8 w' => ∃ (x5_1 : List (S43)) (x6_1 : List ByteArray) (x7_1 : List ByteArray) (x8_1 : Int), v8 = .int .i64 x8_1 ∧ Aside0 (bindleref08_Members.l0 kq l0 l1 x5_1 x6_1 x7_1 x8_1 = some r) ∧ Aside0 (kq ≤ k) ∧ Aside0 (Kd.V k49 49 w' w.heap.size (fun k_ => (P0_ k_ ∨ w.heap.size ≤ k_) ∧ some k_ ≠ (v5 : Value).ownBlock ∧ some k_ ≠ (v6 : Value).ownBlock ∧ some k_ ≠ (v7 : Value).ownBlock) (.slice A0 l0.length c0) l0) ∧ Aside0 (Kd.N k43 43 w' w.heap.size (fun k_ => (P0_ k_ ∨ w.heap.size ≤ k_) ∧ some k_ ≠ (v6 : Value).ownBlock ∧ some k_ ≠ (v7 : Value).ownBlock) v5 x5_1) ∧ Aside0 (Kd.R Kd.string 9 w' w.heap.size (fun k_ => (w.heap.size ≤ k_) ∧ some k_ ≠ (v7 : Value).ownBlock) v6 x6_1) ∧ Aside0 (Kd.R Kd.string 9 w' w.heap.size (fun k_ => (w.heap.size ≤ k_) ∧ some k_ ≠ (v6 : Value).ownBlock) v7 x7_1) ∧ Aside0 (Below w.heap.size w w'))
 case atStart => exact ⟨(([] : List (S43))), (([] : List ByteArray)), (([] : List ByteArray)), (0), wr_, H', ⟨Nat.le_refl _⟩, ⟨by (with_reducible repeat (first | apply Va_ | apply VN_ | apply V1_)); exact Kd.V_mono HO0.out (fun _ hk => ⟨hk, ⟨(by simp [Value.ownBlock]), ⟨(by simp [Value.ownBlock]), (by simp [Value.ownBlock])⟩⟩⟩)⟩, ⟨by first | exact Kd.S_nil _ _ _ _ _ | exact Kd.N_nil _ _ _ _ _ | exact Kd.V_nil _ _ _ _ _ | exact Kd.Q_nil _ _ _ _ _ | exact Kd.R_nil _ _ _ _ _⟩, ⟨by first | exact Kd.R_nil _ _ _ _ _ | exact Kd.N_nil _ _ _ _ _ | exact Kd.V_nil _ _ _ _ _ | exact Kd.Q_nil _ _ _ _ _ | exact Kd.S_nil _ _ _ _ _⟩, ⟨by first | exact Kd.R_nil _ _ _ _ _ | exact Kd.N_nil _ _ _ _ _ | exact Kd.V_nil _ _ _ _ _ | exact Kd.Q_nil _ _ _ _ _ | exact Kd.S_nil _ _ _ _ _⟩, ⟨wb_ HB.out⟩⟩
 case round =>
  clear H'
  try clear c1
  try clear p2
  obtain ⟨x5_1, x6_1, x7_1, x8_1, rfl, HA, HK1, HO_0, HO_5, HO_6, HO_7, HB⟩ := hrel
  cases gk with
  | zero => exact absurd HA.out (by simp [bindleref08_Members.l0])
  | succ k1 =>
   have H := HA.out
   clear HA
   simp only [bindleref08_Members.l0] at H
   by_cases c3 : x8_1 < (l1.length : Int)
   rotate_left
   ·rw [if_neg c3] at H
    have c3b0 : decide (x8_1 < (l1.length : Int)) = false := decide_eq_false c3
    clear c3
    obtain rfl := Option.some.inj H
    go_wp2
    go_ret
    exact ⟨_, we_, by (with_reducible repeat (first | apply Kd.N_alloc | apply Kd.N_drewN | apply Kd.N_drew)); exact Kd.N_mono HO_5.out (fun _ hk => hk.1), wb_ HB.out⟩
   rw [if_pos c3] at H
   have c3b0 : decide (x8_1 < (l1.length : Int)) = true := decide_eq_true c3
   clear c3
   by_cases c4 : 0 ≤ x8_1
   rotate_left
   ·rw [if_neg c4] at H
    exact absurd H (by simp)
   rw [if_pos c4] at H
   have c4b0 : decide (0 ≤ x8_1) = true := decide_eq_true c4
   clear c4
   replace H := Option.bind_eq_some_iff.mp H
   obtain ⟨⟨t223, t224, t225, t226, t227, t228, t229, t230, t231, t234⟩, A50, H⟩ := H
   replace H : (if t226 = 48 then (bindleref08_Members.l1 k1 l0 l1 x5_1 x6_1 x7_1 x8_1 0 t223 t224 t225 t226 t227 t228 t229 t230 t231 t223 t224 t226 t227 t228 t229 t230 t231) else ((some (([(⟨t223, t224, t226, (⟨t227, t228, t229, t230⟩ : S40), t231⟩ : S43)] : List (S43)) : List (S43))).bind fun y263 => (if x5_1.length + y263.length < 1466015503701 then (bindleref08_Members.l0 k1 l0 l1 (x5_1 ++ y263) x6_1 x7_1 (wrap64 (x8_1 + 1))) else (none)))) = some r := H
   have A5 := A0_ A50
   clear A50
   by_cases c6 : t226 = 48
   rotate_left
   ·rw [if_neg c6] at H
    have c6b0 : (t226 == 48) = false := beq_eq_false_iff_ne.mpr c6
    have c6b1 : (t226 != 48) = true := bne_iff_ne.mpr c6
    obtain ⟨y263, hy263⟩ : ∃ y_ : List (S43), y_ = (([(⟨t223, t224, t226, (⟨t227, t228, t229, t230⟩ : S40), t231⟩ : S43)] : List (S43))) := ⟨_, rfl⟩
    replace H : (if x5_1.length + y263.length < 1466015503701 then (bindleref08_Members.l0 k1 l0 l1 (x5_1 ++ y263) x6_1 x7_1 (wrap64 (x8_1 + 1))) else (none)) = some r := by first | (rw [hy263]; with_reducible exact H) | (have H2_ := (Option.bind_some _ _).symm.trans H; rw [hy263]; with_reducible exact H2_) | (have H2_ := (Option.bind_some _ _).symm.trans H; with_reducible exact H2_) | with_reducible exact H | (rw [hy263]; exact H) | exact H
    have Ny263 := A0_ hy263
    clear hy263
    by_cases c58 : x5_1.length + y263.length < 1466015503701
    rotate_left
    ·rw [if_neg c58] at H
     exact absurd H (by simp)
    rw [if_pos c58] at H
    have LMc58 := A0_ c58
    clear c58
    obtain ⟨y266, hy266⟩ : ∃ y_ : List (S43), y_ = (x5_1 ++ y263) := ⟨_, rfl⟩
    replace H : (bindleref08_Members.l0 k1 l0 l1 y266 x6_1 x7_1 (wrap64 (x8_1 + 1))) = some r := by first | (rw [hy266]; with_reducible exact H) | (have H2_ := (Option.bind_some _ _).symm.trans H; rw [hy266]; with_reducible exact H2_) | (have H2_ := (Option.bind_some _ _).symm.trans H; with_reducible exact H2_) | with_reducible exact H | (rw [hy266]; exact H) | exact H
    have Ny266 := A0_ hy266
    clear hy266
    have H' := A0_ H
    clear H
    have p222 : 0 ≤ (x8_1 : Int) := wd_
    have q222 : x8_1 < (l1.length : Int) := wd_
    obtain ⟨ad222, e222, hx222_0⟩ := Kd.at_string HR1.out x8_1 p222 q222
    cases e222
    replace hx222_0 := (HB.out.cell (World.block_lt_of_cell? w _ hx222_0)).trans hx222_0
    replace p222 := eq_true p222
    replace q222 := eq_true q222
    go_wp2_with (first | ((with_reducible refine gate_callee (f := 23) rfl ?_); refine goesL_ (some 25) rfl rfl Tryz.func23 (by kernel_rfl) rfl #[.slice A0 l0.length c0, .string (rdOf ByteArray.empty l1 x8_1)] rfl wm_ ?_; (with_reducible refine (bindleref08_Find.calls k1 (fun k_ => ((P0_ k_ ∨ w.heap.size ≤ k_) ∧ (some k_ ≠ (u5 : Value).ownBlock ∧ (some k_ ≠ (u6 : Value).ownBlock ∧ some k_ ≠ (u7 : Value).ownBlock)))) _ _ l0 (rdOf ByteArray.empty l1 x8_1) t223 t224 t225 t226 t227 t228 t229 t230 t231 t234 _ ?side1 A5.out).mono ?_); (case side1 => exact HO_0.out); rintro e w59 ⟨v232, rfl, ho0, hb⟩; refine ⟨_, rfl, ?_⟩; have n0_ := A0_ (Vb_ (wV_ HO_0.out) hb); have n1_ := A0_ (Kd.N_below (wN_ HO_5.out) hb); have n2_ := A0_ (Rb_ (wR_ HO_6.out) hb); have n3_ := A0_ (Rb_ (wR_ HO_7.out) hb); have n4_ := A0_ (Kd.V_lower (Kd.V_mono (ok' := fun k_ => (P0_ k_ ∨ w.heap.size ≤ k_) ∧ some k_ ≠ (u5 : Value).ownBlock ∧ some k_ ≠ (u6 : Value).ownBlock ∧ some k_ ≠ (u7 : Value).ownBlock) ho0 (fun k_ hk_ => ⟨Or.elim hk_ (fun hs_ => hs_.1) (fun hn_ => (.inr (Nat.le_trans (below_size (wb_ HB.out)) hn_))), Or.elim hk_ (fun hs_ => hs_.2.1) (fun hn_ => (Kd.fresh' (Kd.N_lt (wN_ HO_5.out)) k_ hn_)), Or.elim hk_ (fun hs_ => hs_.2.2.1) (fun hn_ => (Kd.fresh' (Kd.R_lt (wR_ HO_6.out)) k_ hn_)), Or.elim hk_ (fun hs_ => hs_.2.2.2) (fun hn_ => (Kd.fresh' (Kd.R_lt (wR_ HO_7.out)) k_ hn_))⟩)) (below_size (wb_ HB.out))); have n5_ := A0_ (below_step (wb_ HB.out) hb); clear HO_0; clear HO_5; clear HO_6; clear HO_7; clear HB; have HO_0 := n0_; have HO_5 := n1_; have HO_6 := n2_; have HO_7 := n3_; have HO233 := n4_; have HB := n5_; clear n0_ n1_ n2_ n3_ n4_ n5_; (try clear hb); (try clear hb2); (try clear hk); (try clear hi); (try clear ho0)) | ((with_reducible refine gate_dst (N := 9) rfl ?_); refine box_event ?hg (N := 9) ?hd (cs := #[.string (⟨#[]⟩ : ByteArray), .string (⟨#[]⟩ : ByteArray), .string (⟨#[]⟩ : ByteArray), .int .u8 0, .int .i64 0, .int .i64 0, .int .i64 0, .int .i64 0, .slice none 0 0]) (t := 49) ?hr ?_; (case hd => rfl); (case hg => rfl); (case hr => first | (go_simp; done) | (go_simp; rfl)); intro gb235 hg w60 hbox hb; have n0_ := A0_ (Vb_ (Kd.V_elderB (wV_ HO_0.out) gb235 (Nat.le_of_eq hg.symm)) hb); have n1_ := A0_ (Kd.N_below (Kd.N_elderB (wN_ HO_5.out) gb235 (Nat.le_of_eq hg.symm)) hb); have n2_ := A0_ (Rb_ (wR_ HO_6.out) hb); have n3_ := A0_ (Rb_ (wR_ HO_7.out) hb); have n4_ := A0_ (Vb_ (Kd.V_elderB (wV_ HO233.out) gb235 (Nat.le_of_eq hg.symm)) hb); have n5_ := A0_ (below_step (wb_ HB.out) hb); have n6_ := A0_ (hbox); have n7_ := A0_ ((by rw [hg]; exact (below_size (wb_ HB.out)) : w.heap.size ≤ gb235)); have n8_ := A0_ ((by rw [hg]; exact (below_size (wb_ HB.out)) : w.heap.size ≤ gb235)); clear HO_0; clear HO_5; clear HO_6; clear HO_7; clear HO233; clear HB; have HO_0 := n0_; have HO_5 := n1_; have HO_6 := n2_; have HO_7 := n3_; have HO233 := n4_; have HB := n5_; have BK235 := n6_; have GW235 := n7_; have GE235 := n8_; clear n0_ n1_ n2_ n3_ n4_ n5_ n6_ n7_ n8_; clear hb hbox hg; have hcz61_0 : w60.cell? ⟨gb235, 0, none⟩ = some (.string (⟨#[]⟩ : ByteArray)) := (bc_ BK235.out 0).trans rfl; have hcz61_1 : w60.cell? ⟨gb235, 1, none⟩ = some (.string (⟨#[]⟩ : ByteArray)) := (bc_ BK235.out 1).trans rfl; have hcz61_2 : w60.cell? ⟨gb235, 2, none⟩ = some (.string (⟨#[]⟩ : ByteArray)) := (bc_ BK235.out 2).trans rfl; have hcz61_3 : w60.cell? ⟨gb235, 3, none⟩ = some (.int .u8 0) := (bc_ BK235.out 3).trans rfl; have hcz61_4 : w60.cell? ⟨gb235, 4, none⟩ = some (.int .i64 0) := (bc_ BK235.out 4).trans rfl; have hcz61_5 : w60.cell? ⟨gb235, 5, none⟩ = some (.int .i64 0) := (bc_ BK235.out 5).trans rfl; have hcz61_6 : w60.cell? ⟨gb235, 6, none⟩ = some (.int .i64 0) := (bc_ BK235.out 6).trans rfl; have hcz61_7 : w60.cell? ⟨gb235, 7, none⟩ = some (.int .i64 0) := (bc_ BK235.out 7).trans rfl; have hcz61_8 : w60.cell? ⟨gb235, 8, none⟩ = some (.slice none 0 0) := (bc_ BK235.out 8).trans rfl; have hfz61_0 := bf_ BK235.out 0; have hfz61_1 := bf_ BK235.out 1; have hfz61_2 := bf_ BK235.out 2; have hfz61_3 := bf_ BK235.out 3; have hfz61_4 := bf_ BK235.out 4; have hfz61_5 := bf_ BK235.out 5; have hfz61_6 := bf_ BK235.out 6; have hfz61_7 := bf_ BK235.out 7; have hfz61_8 := bf_ BK235.out 8; obtain ⟨Ao62, co62, eo62⟩ := Kd.V_slice HO233.out; subst eo62) | ((with_reducible refine gate_dst (N := 11) rfl ?_); refine box_event ?hg (N := 11) ?hd (cs := #[.string (⟨#[]⟩ : ByteArray), .string (⟨#[]⟩ : ByteArray), .int .u8 0, .int .i64 0, .int .i64 0, .int .i64 0, .int .i64 0, .slice none 0 0]) (t := 43) ?hr ?_; (case hd => rfl); (case hg => rfl); (case hr => first | (go_simp; done) | (go_simp; rfl)); intro gb236 hg w63 hbox hb; have n0_ := A0_ (Vb_ (Kd.V_elderB (by (with_reducible repeat (first | apply Va_ | apply VN_ | apply V1_)); exact (Kd.V_mono (Kd.V_far (p := ⟨gb235, 8, none⟩) (Kd.V_far (p := ⟨gb235, 7, none⟩) (Kd.V_far (p := ⟨gb235, 6, none⟩) (Kd.V_far (p := ⟨gb235, 5, none⟩) (Kd.V_far (p := ⟨gb235, 4, none⟩) (Kd.V_far (p := ⟨gb235, 3, none⟩) (Kd.V_far (p := ⟨gb235, 2, none⟩) (Kd.V_far (p := ⟨gb235, 1, none⟩) (Kd.V_far (p := ⟨gb235, 0, none⟩) (Kd.V_mono HO_0.out (fun k_ hk => (⟨hk, hk.2⟩ : _ ∧ k_ ≠ gb235))) (fun _ hk => hk.2) (.string t223)) (fun _ hk => hk.2) (.string t224)) (fun _ hk => hk.2) (.string t225)) (fun _ hk => hk.2) (.int .u8 t226)) (fun _ hk => hk.2) (.int .i64 t227)) (fun _ hk => hk.2) (.int .i64 t228)) (fun _ hk => hk.2) (.int .i64 t229)) (fun _ hk => hk.2) (.int .i64 t230)) (fun _ hk => hk.2) (.slice Ao62 t231.length co62)) (fun _ h_ => h_.1))) gb236 (Nat.le_of_eq hg.symm)) hb); have n1_ := A0_ (Kd.N_below (Kd.N_elderB (by (with_reducible repeat (first | apply Kd.N_alloc | apply Kd.N_drewN | apply Kd.N_drew)); exact (Kd.N_mono (Kd.N_far (p := ⟨gb235, 8, none⟩) (Kd.N_far (p := ⟨gb235, 7, none⟩) (Kd.N_far (p := ⟨gb235, 6, none⟩) (Kd.N_far (p := ⟨gb235, 5, none⟩) (Kd.N_far (p := ⟨gb235, 4, none⟩) (Kd.N_far (p := ⟨gb235, 3, none⟩) (Kd.N_far (p := ⟨gb235, 2, none⟩) (Kd.N_far (p := ⟨gb235, 1, none⟩) (Kd.N_far (p := ⟨gb235, 0, none⟩) (Kd.N_mono HO_5.out (fun k_ hk => (⟨hk, hk.2⟩ : _ ∧ k_ ≠ gb235))) (fun _ hk => hk.2) (.string t223)) (fun _ hk => hk.2) (.string t224)) (fun _ hk => hk.2) (.string t225)) (fun _ hk => hk.2) (.int .u8 t226)) (fun _ hk => hk.2) (.int .i64 t227)) (fun _ hk => hk.2) (.int .i64 t228)) (fun _ hk => hk.2) (.int .i64 t229)) (fun _ hk => hk.2) (.int .i64 t230)) (fun _ hk => hk.2) (.slice Ao62 t231.length co62)) (fun _ h_ => h_.1))) gb236 (Nat.le_of_eq hg.symm)) hb); have n2_ := A0_ (Rb_ (by (with_reducible repeat (first | apply Ra_ | apply RN_ | apply R1_)); exact (Kd.R_mono (Kd.R_far (p := ⟨gb235, 8, none⟩) (Kd.R_far (p := ⟨gb235, 7, none⟩) (Kd.R_far (p := ⟨gb235, 6, none⟩) (Kd.R_far (p := ⟨gb235, 5, none⟩) (Kd.R_far (p := ⟨gb235, 4, none⟩) (Kd.R_far (p := ⟨gb235, 3, none⟩) (Kd.R_far (p := ⟨gb235, 2, none⟩) (Kd.R_far (p := ⟨gb235, 1, none⟩) (Kd.R_far (p := ⟨gb235, 0, none⟩) (Kd.R_types HO_6.out BK235.out (by decide)) (fun _ hk => hk.2) (.string t223)) (fun _ hk => hk.2) (.string t224)) (fun _ hk => hk.2) (.string t225)) (fun _ hk => hk.2) (.int .u8 t226)) (fun _ hk => hk.2) (.int .i64 t227)) (fun _ hk => hk.2) (.int .i64 t228)) (fun _ hk => hk.2) (.int .i64 t229)) (fun _ hk => hk.2) (.int .i64 t230)) (fun _ hk => hk.2) (.slice Ao62 t231.length co62)) (fun _ h_ => h_.1))) hb); have n3_ := A0_ (Rb_ (by (with_reducible repeat (first | apply Ra_ | apply RN_ | apply R1_)); exact (Kd.R_mono (Kd.R_far (p := ⟨gb235, 8, none⟩) (Kd.R_far (p := ⟨gb235, 7, none⟩) (Kd.R_far (p := ⟨gb235, 6, none⟩) (Kd.R_far (p := ⟨gb235, 5, none⟩) (Kd.R_far (p := ⟨gb235, 4, none⟩) (Kd.R_far (p := ⟨gb235, 3, none⟩) (Kd.R_far (p := ⟨gb235, 2, none⟩) (Kd.R_far (p := ⟨gb235, 1, none⟩) (Kd.R_far (p := ⟨gb235, 0, none⟩) (Kd.R_types HO_7.out BK235.out (by decide)) (fun _ hk => hk.2) (.string t223)) (fun _ hk => hk.2) (.string t224)) (fun _ hk => hk.2) (.string t225)) (fun _ hk => hk.2) (.int .u8 t226)) (fun _ hk => hk.2) (.int .i64 t227)) (fun _ hk => hk.2) (.int .i64 t228)) (fun _ hk => hk.2) (.int .i64 t229)) (fun _ hk => hk.2) (.int .i64 t230)) (fun _ hk => hk.2) (.slice Ao62 t231.length co62)) (fun _ h_ => h_.1))) hb); have n4_ := A0_ (Vb_ (Kd.V_elderB (by (with_reducible repeat (first | apply Va_ | apply VN_ | apply V1_)); exact (Kd.V_mono (Kd.V_far (p := ⟨gb235, 8, none⟩) (Kd.V_far (p := ⟨gb235, 7, none⟩) (Kd.V_far (p := ⟨gb235, 6, none⟩) (Kd.V_far (p := ⟨gb235, 5, none⟩) (Kd.V_far (p := ⟨gb235, 4, none⟩) (Kd.V_far (p := ⟨gb235, 3, none⟩) (Kd.V_far (p := ⟨gb235, 2, none⟩) (Kd.V_far (p := ⟨gb235, 1, none⟩) (Kd.V_far (p := ⟨gb235, 0, none⟩) (Kd.V_mono HO233.out (fun k_ hk => (⟨hk, hk.2⟩ : _ ∧ k_ ≠ gb235))) (fun _ hk => hk.2) (.string t223)) (fun _ hk => hk.2) (.string t224)) (fun _ hk => hk.2) (.string t225)) (fun _ hk => hk.2) (.int .u8 t226)) (fun _ hk => hk.2) (.int .i64 t227)) (fun _ hk => hk.2) (.int .i64 t228)) (fun _ hk => hk.2) (.int .i64 t229)) (fun _ hk => hk.2) (.int .i64 t230)) (fun _ hk => hk.2) (.slice Ao62 t231.length co62)) (fun _ h_ => h_.1))) gb236 (Nat.le_of_eq hg.symm)) hb); have n5_ := A0_ (blk_below (g := gb235) (o := .cells #[.string t223, .string t224, .string t225, .int .u8 t226, .int .i64 t227, .int .i64 t228, .int .i64 t229, .int .i64 t230, .slice Ao62 t231.length co62] 49 (0, 0)) (by (with_reducible repeat (first | refine blk_drewN ?_ _ | refine blk_drew ?_ | refine blk_alloc ?_ _)); refine blk_put (cs := #[.string t223, .string t224, .string t225, .int .u8 t226, .int .i64 t227, .int .i64 t228, .int .i64 t229, .int .i64 t230, .slice none 0 0]) ?_ 8 _ rfl; (with_reducible repeat (first | refine blk_drewN ?_ _ | refine blk_drew ?_ | refine blk_alloc ?_ _)); refine blk_put (cs := #[.string t223, .string t224, .string t225, .int .u8 t226, .int .i64 t227, .int .i64 t228, .int .i64 t229, .int .i64 0, .slice none 0 0]) ?_ 7 _ rfl; (with_reducible repeat (first | refine blk_drewN ?_ _ | refine blk_drew ?_ | refine blk_alloc ?_ _)); refine blk_put (cs := #[.string t223, .string t224, .string t225, .int .u8 t226, .int .i64 t227, .int .i64 t228, .int .i64 0, .int .i64 0, .slice none 0 0]) ?_ 6 _ rfl; (with_reducible repeat (first | refine blk_drewN ?_ _ | refine blk_drew ?_ | refine blk_alloc ?_ _)); refine blk_put (cs := #[.string t223, .string t224, .string t225, .int .u8 t226, .int .i64 t227, .int .i64 0, .int .i64 0, .int .i64 0, .slice none 0 0]) ?_ 5 _ rfl; (with_reducible repeat (first | refine blk_drewN ?_ _ | refine blk_drew ?_ | refine blk_alloc ?_ _)); refine blk_put (cs := #[.string t223, .string t224, .string t225, .int .u8 t226, .int .i64 0, .int .i64 0, .int .i64 0, .int .i64 0, .slice none 0 0]) ?_ 4 _ rfl; (with_reducible repeat (first | refine blk_drewN ?_ _ | refine blk_drew ?_ | refine blk_alloc ?_ _)); refine blk_put (cs := #[.string t223, .string t224, .string t225, .int .u8 0, .int .i64 0, .int .i64 0, .int .i64 0, .int .i64 0, .slice none 0 0]) ?_ 3 _ rfl; (with_reducible repeat (first | refine blk_drewN ?_ _ | refine blk_drew ?_ | refine blk_alloc ?_ _)); refine blk_put (cs := #[.string t223, .string t224, .string (⟨#[]⟩ : ByteArray), .int .u8 0, .int .i64 0, .int .i64 0, .int .i64 0, .int .i64 0, .slice none 0 0]) ?_ 2 _ rfl; (with_reducible repeat (first | refine blk_drewN ?_ _ | refine blk_drew ?_ | refine blk_alloc ?_ _)); refine blk_put (cs := #[.string t223, .string (⟨#[]⟩ : ByteArray), .string (⟨#[]⟩ : ByteArray), .int .u8 0, .int .i64 0, .int .i64 0, .int .i64 0, .int .i64 0, .slice none 0 0]) ?_ 1 _ rfl; (with_reducible repeat (first | refine blk_drewN ?_ _ | refine blk_drew ?_ | refine blk_alloc ?_ _)); refine blk_put (cs := #[.string (⟨#[]⟩ : ByteArray), .string (⟨#[]⟩ : ByteArray), .string (⟨#[]⟩ : ByteArray), .int .u8 0, .int .i64 0, .int .i64 0, .int .i64 0, .int .i64 0, .slice none 0 0]) ?_ 0 _ rfl; (with_reducible repeat (first | refine blk_drewN ?_ _ | refine blk_drew ?_ | refine blk_alloc ?_ _)); exact BK235.out) hb); have n6_ := A0_ (below_step (wb1_ HB.out GE235.out) hb); have n7_ := A0_ (hbox); have n8_ := A0_ ((by rw [hg]; exact (below_size (wb1_ HB.out GE235.out)) : w.heap.size ≤ gb236)); have n9_ := A0_ ((by rw [hg]; exact (below_size (wb1_ HB.out GE235.out)) : w.heap.size ≤ gb236)); have n10_ := A0_ ((by rw [hg]; exact Nat.ne_of_lt (blk_lt (g := gb235) (o := .cells #[.string t223, .string t224, .string t225, .int .u8 t226, .int .i64 t227, .int .i64 t228, .int .i64 t229, .int .i64 t230, .slice Ao62 t231.length co62] 49 (0, 0)) (by (with_reducible repeat (first | refine blk_drewN ?_ _ | refine blk_drew ?_ | refine blk_alloc ?_ _)); refine blk_put (cs := #[.string t223, .string t224, .string t225, .int .u8 t226, .int .i64 t227, .int .i64 t228, .int .i64 t229, .int .i64 t230, .slice none 0 0]) ?_ 8 _ rfl; (with_reducible repeat (first | refine blk_drewN ?_ _ | refine blk_drew ?_ | refine blk_alloc ?_ _)); refine blk_put (cs := #[.string t223, .string t224, .string t225, .int .u8 t226, .int .i64 t227, .int .i64 t228, .int .i64 t229, .int .i64 0, .slice none 0 0]) ?_ 7 _ rfl; (with_reducible repeat (first | refine blk_drewN ?_ _ | refine blk_drew ?_ | refine blk_alloc ?_ _)); refine blk_put (cs := #[.string t223, .string t224, .string t225, .int .u8 t226, .int .i64 t227, .int .i64 t228, .int .i64 0, .int .i64 0, .slice none 0 0]) ?_ 6 _ rfl; (with_reducible repeat (first | refine blk_drewN ?_ _ | refine blk_drew ?_ | refine blk_alloc ?_ _)); refine blk_put (cs := #[.string t223, .string t224, .string t225, .int .u8 t226, .int .i64 t227, .int .i64 0, .int .i64 0, .int .i64 0, .slice none 0 0]) ?_ 5 _ rfl; (with_reducible repeat (first | refine blk_drewN ?_ _ | refine blk_drew ?_ | refine blk_alloc ?_ _)); refine blk_put (cs := #[.string t223, .string t224, .string t225, .int .u8 t226, .int .i64 0, .int .i64 0, .int .i64 0, .int .i64 0, .slice none 0 0]) ?_ 4 _ rfl; (with_reducible repeat (first | refine blk_drewN ?_ _ | refine blk_drew ?_ | refine blk_alloc ?_ _)); refine blk_put (cs := #[.string t223, .string t224, .string t225, .int .u8 0, .int .i64 0, .int .i64 0, .int .i64 0, .int .i64 0, .slice none 0 0]) ?_ 3 _ rfl; (with_reducible repeat (first | refine blk_drewN ?_ _ | refine blk_drew ?_ | refine blk_alloc ?_ _)); refine blk_put (cs := #[.string t223, .string t224, .string (⟨#[]⟩ : ByteArray), .int .u8 0, .int .i64 0, .int .i64 0, .int .i64 0, .int .i64 0, .slice none 0 0]) ?_ 2 _ rfl; (with_reducible repeat (first | refine blk_drewN ?_ _ | refine blk_drew ?_ | refine blk_alloc ?_ _)); refine blk_put (cs := #[.string t223, .string (⟨#[]⟩ : ByteArray), .string (⟨#[]⟩ : ByteArray), .int .u8 0, .int .i64 0, .int .i64 0, .int .i64 0, .int .i64 0, .slice none 0 0]) ?_ 1 _ rfl; (with_reducible repeat (first | refine blk_drewN ?_ _ | refine blk_drew ?_ | refine blk_alloc ?_ _)); refine blk_put (cs := #[.string (⟨#[]⟩ : ByteArray), .string (⟨#[]⟩ : ByteArray), .string (⟨#[]⟩ : ByteArray), .int .u8 0, .int .i64 0, .int .i64 0, .int .i64 0, .int .i64 0, .slice none 0 0]) ?_ 0 _ rfl; (with_reducible repeat (first | refine blk_drewN ?_ _ | refine blk_drew ?_ | refine blk_alloc ?_ _)); exact BK235.out)) : gb235 ≠ gb236)); have n11_ := A0_ ((by rw [hg]; exact Nat.ne_of_gt (blk_lt (g := gb235) (o := .cells #[.string t223, .string t224, .string t225, .int .u8 t226, .int .i64 t227, .int .i64 t228, .int .i64 t229, .int .i64 t230, .slice Ao62 t231.length co62] 49 (0, 0)) (by (with_reducible repeat (first | refine blk_drewN ?_ _ | refine blk_drew ?_ | refine blk_alloc ?_ _)); refine blk_put (cs := #[.string t223, .string t224, .string t225, .int .u8 t226, .int .i64 t227, .int .i64 t228, .int .i64 t229, .int .i64 t230, .slice none 0 0]) ?_ 8 _ rfl; (with_reducible repeat (first | refine blk_drewN ?_ _ | refine blk_drew ?_ | refine blk_alloc ?_ _)); refine blk_put (cs := #[.string t223, .string t224, .string t225, .int .u8 t226, .int .i64 t227, .int .i64 t228, .int .i64 t229, .int .i64 0, .slice none 0 0]) ?_ 7 _ rfl; (with_reducible repeat (first | refine blk_drewN ?_ _ | refine blk_drew ?_ | refine blk_alloc ?_ _)); refine blk_put (cs := #[.string t223, .string t224, .string t225, .int .u8 t226, .int .i64 t227, .int .i64 t228, .int .i64 0, .int .i64 0, .slice none 0 0]) ?_ 6 _ rfl; (with_reducible repeat (first | refine blk_drewN ?_ _ | refine blk_drew ?_ | refine blk_alloc ?_ _)); refine blk_put (cs := #[.string t223, .string t224, .string t225, .int .u8 t226, .int .i64 t227, .int .i64 0, .int .i64 0, .int .i64 0, .slice none 0 0]) ?_ 5 _ rfl; (with_reducible repeat (first | refine blk_drewN ?_ _ | refine blk_drew ?_ | refine blk_alloc ?_ _)); refine blk_put (cs := #[.string t223, .string t224, .string t225, .int .u8 t226, .int .i64 0, .int .i64 0, .int .i64 0, .int .i64 0, .slice none 0 0]) ?_ 4 _ rfl; (with_reducible repeat (first | refine blk_drewN ?_ _ | refine blk_drew ?_ | refine blk_alloc ?_ _)); refine blk_put (cs := #[.string t223, .string t224, .string t225, .int .u8 0, .int .i64 0, .int .i64 0, .int .i64 0, .int .i64 0, .slice none 0 0]) ?_ 3 _ rfl; (with_reducible repeat (first | refine blk_drewN ?_ _ | refine blk_drew ?_ | refine blk_alloc ?_ _)); refine blk_put (cs := #[.string t223, .string t224, .string (⟨#[]⟩ : ByteArray), .int .u8 0, .int .i64 0, .int .i64 0, .int .i64 0, .int .i64 0, .slice none 0 0]) ?_ 2 _ rfl; (with_reducible repeat (first | refine blk_drewN ?_ _ | refine blk_drew ?_ | refine blk_alloc ?_ _)); refine blk_put (cs := #[.string t223, .string (⟨#[]⟩ : ByteArray), .string (⟨#[]⟩ : ByteArray), .int .u8 0, .int .i64 0, .int .i64 0, .int .i64 0, .int .i64 0, .slice none 0 0]) ?_ 1 _ rfl; (with_reducible repeat (first | refine blk_drewN ?_ _ | refine blk_drew ?_ | refine blk_alloc ?_ _)); refine blk_put (cs := #[.string (⟨#[]⟩ : ByteArray), .string (⟨#[]⟩ : ByteArray), .string (⟨#[]⟩ : ByteArray), .int .u8 0, .int .i64 0, .int .i64 0, .int .i64 0, .int .i64 0, .slice none 0 0]) ?_ 0 _ rfl; (with_reducible repeat (first | refine blk_drewN ?_ _ | refine blk_drew ?_ | refine blk_alloc ?_ _)); exact BK235.out)) : gb236 ≠ gb235)); clear HO_0; clear HO_5; clear HO_6; clear HO_7; clear HO233; clear BK235; clear HB; have HO_0 := n0_; have HO_5 := n1_; have HO_6 := n2_; have HO_7 := n3_; have HO233 := n4_; have BK235 := n5_; have HB := n6_; have BK236 := n7_; have GW236 := n8_; have GE236 := n9_; have NB235_236 := n10_; have NB236_235 := n11_; clear n0_ n1_ n2_ n3_ n4_ n5_ n6_ n7_ n8_ n9_ n10_ n11_; clear hb hbox hg; have hnb64 := NB236_235.out; have hnc64 := NB235_236.out; have hcz65_0 : w63.cell? ⟨gb236, 0, none⟩ = some (.string (⟨#[]⟩ : ByteArray)) := (bc_ BK236.out 0).trans rfl; have hcz65_1 : w63.cell? ⟨gb236, 1, none⟩ = some (.string (⟨#[]⟩ : ByteArray)) := (bc_ BK236.out 1).trans rfl; have hcz65_2 : w63.cell? ⟨gb236, 2, none⟩ = some (.int .u8 0) := (bc_ BK236.out 2).trans rfl; have hcz65_3 : w63.cell? ⟨gb236, 3, none⟩ = some (.int .i64 0) := (bc_ BK236.out 3).trans rfl; have hcz65_4 : w63.cell? ⟨gb236, 4, none⟩ = some (.int .i64 0) := (bc_ BK236.out 4).trans rfl; have hcz65_5 : w63.cell? ⟨gb236, 5, none⟩ = some (.int .i64 0) := (bc_ BK236.out 5).trans rfl; have hcz65_6 : w63.cell? ⟨gb236, 6, none⟩ = some (.int .i64 0) := (bc_ BK236.out 6).trans rfl; have hcz65_7 : w63.cell? ⟨gb236, 7, none⟩ = some (.slice none 0 0) := (bc_ BK236.out 7).trans rfl; have hfz65_0 := bf_ BK236.out 0; have hfz65_1 := bf_ BK236.out 1; have hfz65_2 := bf_ BK236.out 2; have hfz65_3 := bf_ BK236.out 3; have hfz65_4 := bf_ BK236.out 4; have hfz65_5 := bf_ BK236.out 5; have hfz65_6 := bf_ BK236.out 6; have hfz65_7 := bf_ BK236.out 7) | ((with_reducible refine gate_store (t := 43) (p := 11) rfl ?_); refine store_event (t := 43) (p := 11) (v := ?vo_w66) (w1 := ((((((((w63.setCell ⟨gb236, 0, none⟩ (.string t223)).setCell ⟨gb236, 1, none⟩ (.string t224)).setCell ⟨gb236, 2, none⟩ (.int .u8 t226)).setCell ⟨gb236, 3, none⟩ (.int .i64 t227)).setCell ⟨gb236, 4, none⟩ (.int .i64 t228)).setCell ⟨gb236, 5, none⟩ (.int .i64 t229)).setCell ⟨gb236, 6, none⟩ (.int .i64 t230)).setCell ⟨gb236, 7, none⟩ (.slice Ao62 t231.length co62))) ?hg ?ho ?hn ?hr ?_; (case ho => rfl); (case hg => rfl); (case hn => rfl); (case hr => first | (go_simp; done) | (go_simp; rfl)); intro w66 hw; have n0_ : Aside0 (Kd.V k49 49 w66 w.heap.size (fun k_ => (P0_ k_ ∨ w.heap.size ≤ k_) ∧ some k_ ≠ (u5 : Value).ownBlock ∧ some k_ ≠ (u6 : Value).ownBlock ∧ some k_ ≠ (u7 : Value).ownBlock ∧ k_ ≠ gb235 ∧ k_ ≠ gb236) (.slice A0 l0.length c0) l0) := ⟨(by rw [hw]; exact (by (with_reducible repeat (first | apply Va_ | apply VN_ | apply V1_)); exact Kd.V_mono (Kd.V_far (p := ⟨gb236, 7, none⟩) (Kd.V_far (p := ⟨gb236, 6, none⟩) (Kd.V_far (p := ⟨gb236, 5, none⟩) (Kd.V_far (p := ⟨gb236, 4, none⟩) (Kd.V_far (p := ⟨gb236, 3, none⟩) (Kd.V_far (p := ⟨gb236, 2, none⟩) (Kd.V_far (p := ⟨gb236, 1, none⟩) (Kd.V_far (p := ⟨gb236, 0, none⟩) (Kd.V_mono HO_0.out (fun k_ hk => (⟨hk, hk.2⟩ : _ ∧ k_ ≠ gb236))) (fun _ hk => hk.2) (.string t223)) (fun _ hk => hk.2) (.string t224)) (fun _ hk => hk.2) (.int .u8 t226)) (fun _ hk => hk.2) (.int .i64 t227)) (fun _ hk => hk.2) (.int .i64 t228)) (fun _ hk => hk.2) (.int .i64 t229)) (fun _ hk => hk.2) (.int .i64 t230)) (fun _ hk => hk.2) (.slice Ao62 t231.length co62)) (fun _ hk => ⟨hk.1.1.1.1, ⟨hk.1.1.1.2.1, ⟨hk.1.1.1.2.2.1, ⟨hk.1.1.1.2.2.2, ⟨hk.1.1.2, hk.1.2⟩⟩⟩⟩⟩)))⟩; have n1_ : Aside0 (Kd.N k43 43 w66 w.heap.size (fun k_ => (P0_ k_ ∨ w.heap.size ≤ k_) ∧ some k_ ≠ (u6 : Value).ownBlock ∧ some k_ ≠ (u7 : Value).ownBlock ∧ k_ ≠ gb235 ∧ k_ ≠ gb236) u5 x5_1) := ⟨(by rw [hw]; exact (by (with_reducible repeat (first | apply Kd.N_alloc | apply Kd.N_drewN | apply Kd.N_drew)); exact Kd.N_mono (Kd.N_far (p := ⟨gb236, 7, none⟩) (Kd.N_far (p := ⟨gb236, 6, none⟩) (Kd.N_far (p := ⟨gb236, 5, none⟩) (Kd.N_far (p := ⟨gb236, 4, none⟩) (Kd.N_far (p := ⟨gb236, 3, none⟩) (Kd.N_far (p := ⟨gb236, 2, none⟩) (Kd.N_far (p := ⟨gb236, 1, none⟩) (Kd.N_far (p := ⟨gb236, 0, none⟩) (Kd.N_mono HO_5.out (fun k_ hk => (⟨hk, hk.2⟩ : _ ∧ k_ ≠ gb236))) (fun _ hk => hk.2) (.string t223)) (fun _ hk => hk.2) (.string t224)) (fun _ hk => hk.2) (.int .u8 t226)) (fun _ hk => hk.2) (.int .i64 t227)) (fun _ hk => hk.2) (.int .i64 t228)) (fun _ hk => hk.2) (.int .i64 t229)) (fun _ hk => hk.2) (.int .i64 t230)) (fun _ hk => hk.2) (.slice Ao62 t231.length co62)) (fun _ hk => ⟨hk.1.1.1.1, ⟨hk.1.1.1.2.1, ⟨hk.1.1.1.2.2, ⟨hk.1.1.2, hk.1.2⟩⟩⟩⟩)))⟩; have n2_ : Aside0 (Kd.R Kd.string 9 w66 w.heap.size (fun k_ => (w.heap.size ≤ k_) ∧ some k_ ≠ (u7 : Value).ownBlock) u6 x6_1) := ⟨(by rw [hw]; exact (by (with_reducible repeat (first | apply Ra_ | apply RN_ | apply R1_)); exact Kd.R_mono (Kd.R_far (p := ⟨gb236, 7, none⟩) (Kd.R_far (p := ⟨gb236, 6, none⟩) (Kd.R_far (p := ⟨gb236, 5, none⟩) (Kd.R_far (p := ⟨gb236, 4, none⟩) (Kd.R_far (p := ⟨gb236, 3, none⟩) (Kd.R_far (p := ⟨gb236, 2, none⟩) (Kd.R_far (p := ⟨gb236, 1, none⟩) (Kd.R_far (p := ⟨gb236, 0, none⟩) (Kd.R_types HO_6.out BK236.out (by decide)) (fun _ hk => hk.2) (.string t223)) (fun _ hk => hk.2) (.string t224)) (fun _ hk => hk.2) (.int .u8 t226)) (fun _ hk => hk.2) (.int .i64 t227)) (fun _ hk => hk.2) (.int .i64 t228)) (fun _ hk => hk.2) (.int .i64 t229)) (fun _ hk => hk.2) (.int .i64 t230)) (fun _ hk => hk.2) (.slice Ao62 t231.length co62)) (fun _ hk => ⟨hk.1.1, hk.1.2⟩)))⟩; have n3_ : Aside0 (Kd.R Kd.string 9 w66 w.heap.size (fun k_ => (w.heap.size ≤ k_) ∧ some k_ ≠ (u6 : Value).ownBlock) u7 x7_1) := ⟨(by rw [hw]; exact (by (with_reducible repeat (first | apply Ra_ | apply RN_ | apply R1_)); exact Kd.R_mono (Kd.R_far (p := ⟨gb236, 7, none⟩) (Kd.R_far (p := ⟨gb236, 6, none⟩) (Kd.R_far (p := ⟨gb236, 5, none⟩) (Kd.R_far (p := ⟨gb236, 4, none⟩) (Kd.R_far (p := ⟨gb236, 3, none⟩) (Kd.R_far (p := ⟨gb236, 2, none⟩) (Kd.R_far (p := ⟨gb236, 1, none⟩) (Kd.R_far (p := ⟨gb236, 0, none⟩) (Kd.R_types HO_7.out BK236.out (by decide)) (fun _ hk => hk.2) (.string t223)) (fun _ hk => hk.2) (.string t224)) (fun _ hk => hk.2) (.int .u8 t226)) (fun _ hk => hk.2) (.int .i64 t227)) (fun _ hk => hk.2) (.int .i64 t228)) (fun _ hk => hk.2) (.int .i64 t229)) (fun _ hk => hk.2) (.int .i64 t230)) (fun _ hk => hk.2) (.slice Ao62 t231.length co62)) (fun _ hk => ⟨hk.1.1, hk.1.2⟩)))⟩; have n4_ : Aside0 (Kd.V (Kd.int .u8) 5 w66 w.heap.size (fun k_ => (P0_ k_ ∨ w.heap.size ≤ k_) ∧ some k_ ≠ (u5 : Value).ownBlock ∧ some k_ ≠ (u6 : Value).ownBlock ∧ some k_ ≠ (u7 : Value).ownBlock ∧ k_ ≠ gb235 ∧ k_ ≠ gb236) (.slice Ao62 t231.length co62) t231) := ⟨(by rw [hw]; exact (by (with_reducible repeat (first | apply Va_ | apply VN_ | apply V1_)); exact Kd.V_mono (Kd.V_far (p := ⟨gb236, 7, none⟩) (Kd.V_far (p := ⟨gb236, 6, none⟩) (Kd.V_far (p := ⟨gb236, 5, none⟩) (Kd.V_far (p := ⟨gb236, 4, none⟩) (Kd.V_far (p := ⟨gb236, 3, none⟩) (Kd.V_far (p := ⟨gb236, 2, none⟩) (Kd.V_far (p := ⟨gb236, 1, none⟩) (Kd.V_far (p := ⟨gb236, 0, none⟩) (Kd.V_mono HO233.out (fun k_ hk => (⟨hk, hk.2⟩ : _ ∧ k_ ≠ gb236))) (fun _ hk => hk.2) (.string t223)) (fun _ hk => hk.2) (.string t224)) (fun _ hk => hk.2) (.int .u8 t226)) (fun _ hk => hk.2) (.int .i64 t227)) (fun _ hk => hk.2) (.int .i64 t228)) (fun _ hk => hk.2) (.int .i64 t229)) (fun _ hk => hk.2) (.int .i64 t230)) (fun _ hk => hk.2) (.slice Ao62 t231.length co62)) (fun _ hk => ⟨hk.1.1.1.1, ⟨hk.1.1.1.2.1, ⟨hk.1.1.1.2.2.1, ⟨hk.1.1.1.2.2.2, ⟨hk.1.1.2, hk.1.2⟩⟩⟩⟩⟩)))⟩; have n5_ : Aside0 (w66.heap[gb235]? = some (.cells #[.string t223, .string t224, .string t225, .int .u8 t226, .int .i64 t227, .int .i64 t228, .int .i64 t229, .int .i64 t230, .slice Ao62 t231.length co62] 49 (0, 0))) := ⟨(by rw [hw]; exact (by (with_reducible repeat (first | refine blk_drewN ?_ _ | refine blk_drew ?_ | refine blk_alloc ?_ _)); refine blk_far ?_ NB235_236.out _; (with_reducible repeat (first | refine blk_drewN ?_ _ | refine blk_drew ?_ | refine blk_alloc ?_ _)); refine blk_far ?_ NB235_236.out _; (with_reducible repeat (first | refine blk_drewN ?_ _ | refine blk_drew ?_ | refine blk_alloc ?_ _)); refine blk_far ?_ NB235_236.out _; (with_reducible repeat (first | refine blk_drewN ?_ _ | refine blk_drew ?_ | refine blk_alloc ?_ _)); refine blk_far ?_ NB235_236.out _; (with_reducible repeat (first | refine blk_drewN ?_ _ | refine blk_drew ?_ | refine blk_alloc ?_ _)); refine blk_far ?_ NB235_236.out _; (with_reducible repeat (first | refine blk_drewN ?_ _ | refine blk_drew ?_ | refine blk_alloc ?_ _)); refine blk_far ?_ NB235_236.out _; (with_reducible repeat (first | refine blk_drewN ?_ _ | refine blk_drew ?_ | refine blk_alloc ?_ _)); refine blk_far ?_ NB235_236.out _; (with_reducible repeat (first | refine blk_drewN ?_ _ | refine blk_drew ?_ | refine blk_alloc ?_ _)); refine blk_far ?_ NB235_236.out _; (with_reducible repeat (first | refine blk_drewN ?_ _ | refine blk_drew ?_ | refine blk_alloc ?_ _)); exact BK235.out))⟩; have n6_ : Aside0 (w66.heap[gb236]? = some (.cells #[.string t223, .string t224, .int .u8 t226, .int .i64 t227, .int .i64 t228, .int .i64 t229, .int .i64 t230, .slice Ao62 t231.length co62] 43 (0, 0))) := ⟨(by rw [hw]; exact (by (with_reducible repeat (first | refine blk_drewN ?_ _ | refine blk_drew ?_ | refine blk_alloc ?_ _)); refine blk_put (cs := #[.string t223, .string t224, .int .u8 t226, .int .i64 t227, .int .i64 t228, .int .i64 t229, .int .i64 t230, .slice none 0 0]) ?_ 7 _ rfl; (with_reducible repeat (first | refine blk_drewN ?_ _ | refine blk_drew ?_ | refine blk_alloc ?_ _)); refine blk_put (cs := #[.string t223, .string t224, .int .u8 t226, .int .i64 t227, .int .i64 t228, .int .i64 t229, .int .i64 0, .slice none 0 0]) ?_ 6 _ rfl; (with_reducible repeat (first | refine blk_drewN ?_ _ | refine blk_drew ?_ | refine blk_alloc ?_ _)); refine blk_put (cs := #[.string t223, .string t224, .int .u8 t226, .int .i64 t227, .int .i64 t228, .int .i64 0, .int .i64 0, .slice none 0 0]) ?_ 5 _ rfl; (with_reducible repeat (first | refine blk_drewN ?_ _ | refine blk_drew ?_ | refine blk_alloc ?_ _)); refine blk_put (cs := #[.string t223, .string t224, .int .u8 t226, .int .i64 t227, .int .i64 0, .int .i64 0, .int .i64 0, .slice none 0 0]) ?_ 4 _ rfl; (with_reducible repeat (first | refine blk_drewN ?_ _ | refine blk_drew ?_ | refine blk_alloc ?_ _)); refine blk_put (cs := #[.string t223, .string t224, .int .u8 t226, .int .i64 0, .int .i64 0, .int .i64 0, .int .i64 0, .slice none 0 0]) ?_ 3 _ rfl; (with_reducible repeat (first | refine blk_drewN ?_ _ | refine blk_drew ?_ | refine blk_alloc ?_ _)); refine blk_put (cs := #[.string t223, .string t224, .int .u8 0, .int .i64 0, .int .i64 0, .int .i64 0, .int .i64 0, .slice none 0 0]) ?_ 2 _ rfl; (with_reducible repeat (first | refine blk_drewN ?_ _ | refine blk_drew ?_ | refine blk_alloc ?_ _)); refine blk_put (cs := #[.string t223, .string (⟨#[]⟩ : ByteArray), .int .u8 0, .int .i64 0, .int .i64 0, .int .i64 0, .int .i64 0, .slice none 0 0]) ?_ 1 _ rfl; (with_reducible repeat (first | refine blk_drewN ?_ _ | refine blk_drew ?_ | refine blk_alloc ?_ _)); refine blk_put (cs := #[.string (⟨#[]⟩ : ByteArray), .string (⟨#[]⟩ : ByteArray), .int .u8 0, .int .i64 0, .int .i64 0, .int .i64 0, .int .i64 0, .slice none 0 0]) ?_ 0 _ rfl; (with_reducible repeat (first | refine blk_drewN ?_ _ | refine blk_drew ?_ | refine blk_alloc ?_ _)); exact BK236.out))⟩; have n7_ : Aside0 (Below w.heap.size w w66) := ⟨(by rw [hw]; exact (wb2_ HB.out GE235.out GE236.out))⟩; clear hw; clear HO_0; clear HO_5; clear HO_6; clear HO_7; clear HO233; clear BK235; clear BK236; clear HB; have HO_0 := n0_; have HO_5 := n1_; have HO_6 := n2_; have HO_7 := n3_; have HO233 := n4_; have BK235 := n5_; have BK236 := n6_; have HB := n7_; clear n0_ n1_ n2_ n3_ n4_ n5_ n6_ n7_; have hcz67_0 : w66.cell? ⟨gb235, 0, none⟩ = some (.string t223) := (bc_ BK235.out 0).trans rfl; have hcz67_1 : w66.cell? ⟨gb235, 1, none⟩ = some (.string t224) := (bc_ BK235.out 1).trans rfl; have hcz67_2 : w66.cell? ⟨gb235, 2, none⟩ = some (.string t225) := (bc_ BK235.out 2).trans rfl; have hcz67_3 : w66.cell? ⟨gb235, 3, none⟩ = some (.int .u8 t226) := (bc_ BK235.out 3).trans rfl; have hcz67_4 : w66.cell? ⟨gb235, 4, none⟩ = some (.int .i64 t227) := (bc_ BK235.out 4).trans rfl; have hcz67_5 : w66.cell? ⟨gb235, 5, none⟩ = some (.int .i64 t228) := (bc_ BK235.out 5).trans rfl; have hcz67_6 : w66.cell? ⟨gb235, 6, none⟩ = some (.int .i64 t229) := (bc_ BK235.out 6).trans rfl; have hcz67_7 : w66.cell? ⟨gb235, 7, none⟩ = some (.int .i64 t230) := (bc_ BK235.out 7).trans rfl; have hcz67_8 : w66.cell? ⟨gb235, 8, none⟩ = some (.slice Ao62 t231.length co62) := (bc_ BK235.out 8).trans rfl; have hfz67_0 := bf_ BK235.out 0; have hfz67_1 := bf_ BK235.out 1; have hfz67_2 := bf_ BK235.out 2; have hfz67_3 := bf_ BK235.out 3; have hfz67_4 := bf_ BK235.out 4; have hfz67_5 := bf_ BK235.out 5; have hfz67_6 := bf_ BK235.out 6; have hfz67_7 := bf_ BK235.out 7; have hfz67_8 := bf_ BK235.out 8; have hcz68_0 : w66.cell? ⟨gb236, 0, none⟩ = some (.string t223) := (bc_ BK236.out 0).trans rfl; have hcz68_1 : w66.cell? ⟨gb236, 1, none⟩ = some (.string t224) := (bc_ BK236.out 1).trans rfl; have hcz68_2 : w66.cell? ⟨gb236, 2, none⟩ = some (.int .u8 t226) := (bc_ BK236.out 2).trans rfl; have hcz68_3 : w66.cell? ⟨gb236, 3, none⟩ = some (.int .i64 t227) := (bc_ BK236.out 3).trans rfl; have hcz68_4 : w66.cell? ⟨gb236, 4, none⟩ = some (.int .i64 t228) := (bc_ BK236.out 4).trans rfl; have hcz68_5 : w66.cell? ⟨gb236, 5, none⟩ = some (.int .i64 t229) := (bc_ BK236.out 5).trans rfl; have hcz68_6 : w66.cell? ⟨gb236, 6, none⟩ = some (.int .i64 t230) := (bc_ BK236.out 6).trans rfl; have hcz68_7 : w66.cell? ⟨gb236, 7, none⟩ = some (.slice Ao62 t231.length co62) := (bc_ BK236.out 7).trans rfl; have hfz68_0 := bf_ BK236.out 0; have hfz68_1 := bf_ BK236.out 1; have hfz68_2 := bf_ BK236.out 2; have hfz68_3 := bf_ BK236.out 3; have hfz68_4 := bf_ BK236.out 4; have hfz68_5 := bf_ BK236.out 5; have hfz68_6 := bf_ BK236.out 6; have hfz68_7 := bf_ BK236.out 7) | ((with_reducible refine gate_dst (N := 80) rfl ?_); refine Kd.N_lit k43 _ 43 ?hg (N' := 80) ?hd (xs := ([(⟨t223, t224, t226, (⟨t227, t228, t229, t230⟩ : S40), t231⟩ : S43)] : List (S43))) (inner := [.string t223, .string t224, .int .u8 t226, .int .i64 t227, .int .i64 t228, .int .i64 t229, .int .i64 t230, .slice Ao62 t231.length co62]) (ok := (fun k_ => (P0_ k_ ∨ w.heap.size ≤ k_) ∧ some k_ ≠ (u5 : Value).ownBlock ∧ some k_ ≠ (u6 : Value).ownBlock ∧ some k_ ≠ (u7 : Value).ownBlock ∧ k_ ≠ gb235 ∧ k_ ≠ gb236)) (okp := (fun k_ => (P0_ k_ ∨ w.heap.size ≤ k_) ∧ some k_ ≠ (u5 : Value).ownBlock ∧ some k_ ≠ (u6 : Value).ownBlock ∧ some k_ ≠ (u7 : Value).ownBlock ∧ k_ ≠ gb235 ∧ k_ ≠ gb236)) ?hr ?hp (fun _ hk => hk) ((show ∀ k_, w66.heap.size ≤ k_ → (fun k_ => (P0_ k_ ∨ w.heap.size ≤ k_) ∧ some k_ ≠ (u5 : Value).ownBlock ∧ some k_ ≠ (u6 : Value).ownBlock ∧ some k_ ≠ (u7 : Value).ownBlock ∧ k_ ≠ gb235 ∧ k_ ≠ gb236) k_ from fun k_ hk => ⟨(.inr (Nat.le_trans (below_size (wb2_ HB.out GE235.out GE236.out)) hk)), Kd.fresh' (Kd.N_lt (wN_ HO_5.out)) k_ hk, Kd.fresh' (Kd.R_lt (wR_ HO_6.out)) k_ hk, Kd.fresh' (Kd.R_lt (wR_ HO_7.out)) k_ hk, Kd.freshB (g := gb235) (o := .cells #[.string t223, .string t224, .string t225, .int .u8 t226, .int .i64 t227, .int .i64 t228, .int .i64 t229, .int .i64 t230, .slice Ao62 t231.length co62] 49 (0, 0)) (wB_ BK235.out) k_ hk, Kd.freshB (g := gb236) (o := .cells #[.string t223, .string t224, .int .u8 t226, .int .i64 t227, .int .i64 t228, .int .i64 t229, .int .i64 t230, .slice Ao62 t231.length co62] 43 (0, 0)) (wB_ BK236.out) k_ hk⟩) _ (Nat.le_refl _)) (Below.refl _ _) (Nat.le_refl _) (by simp) ?_; (case hd => rfl); (case hg => rfl); (case hr => first | (go_simp; done) | (go_simp; rfl)); (case hp => exact (Reps.c8 (show Kd.FK k43 _ _ (⟨t223, t224, t226, (⟨t227, t228, t229, t230⟩ : S40), t231⟩ : S43) [.string t223, .string t224, .int .u8 t226, .int .i64 t227, .int .i64 t228, .int .i64 t229, .int .i64 t230, .slice Ao62 t231.length co62] from (k43_mkF _ _ (⟨t223, t224, t226, (⟨t227, t228, t229, t230⟩ : S40), t231⟩ : S43) (Kd.V_reads' (Kd.V_mono (ok' := (fun k_ => (P0_ k_ ∨ w.heap.size ≤ k_) ∧ some k_ ≠ (u5 : Value).ownBlock ∧ some k_ ≠ (u6 : Value).ownBlock ∧ some k_ ≠ (u7 : Value).ownBlock ∧ k_ ≠ gb235 ∧ k_ ≠ gb236)) (HO233.out) (fun k_ hk => ⟨hk.1, ⟨hk.2.1, ⟨hk.2.2.1, ⟨hk.2.2.2.1, ⟨hk.2.2.2.2.1, hk.2.2.2.2.2⟩⟩⟩⟩⟩))).2.1 (Kd.V_F (Kd.V_mono (ok' := (fun k_ => (P0_ k_ ∨ w.heap.size ≤ k_) ∧ some k_ ≠ (u5 : Value).ownBlock ∧ some k_ ≠ (u6 : Value).ownBlock ∧ some k_ ≠ (u7 : Value).ownBlock ∧ k_ ≠ gb235 ∧ k_ ≠ gb236)) (HO233.out) (fun k_ hk => ⟨hk.1, ⟨hk.2.1, ⟨hk.2.2.1, ⟨hk.2.2.2.1, ⟨hk.2.2.2.2.1, hk.2.2.2.2.2⟩⟩⟩⟩⟩))))) (Reps.none _ _))); intro v264 w69 ho70 hb hg_ hnew_; clear hg_ hnew_; (first | rw [← Ny263.out] at ho70 | (simp only [Int.reduceToNat] at ho70; rw [← Ny263.out] at ho70)); have n0_ := A0_ (Kd.V_elder' (wV_ HO_0.out) (Kd.N_base ho70) hb); have n1_ := A0_ (Kd.N_elder' (wN_ HO_5.out) (Kd.N_base ho70) hb); have n2_ := A0_ (Rb_ (wR_ HO_6.out) hb); have n3_ := A0_ (Rb_ (wR_ HO_7.out) hb); have n4_ := A0_ (Kd.V_elder' (wV_ HO233.out) (Kd.N_base ho70) hb); have n5_ := A0_ (Kd.N_lower ho70 (below_size (wb2_ HB.out GE235.out GE236.out))); have n6_ := A0_ (blk_below (g := gb235) (o := .cells #[.string t223, .string t224, .string t225, .int .u8 t226, .int .i64 t227, .int .i64 t228, .int .i64 t229, .int .i64 t230, .slice Ao62 t231.length co62] 49 (0, 0)) (wB_ BK235.out) hb); have n7_ := A0_ (blk_below (g := gb236) (o := .cells #[.string t223, .string t224, .int .u8 t226, .int .i64 t227, .int .i64 t228, .int .i64 t229, .int .i64 t230, .slice Ao62 t231.length co62] 43 (0, 0)) (wB_ BK236.out) hb); have n8_ := A0_ (below_step (wb2_ HB.out GE235.out GE236.out) hb); clear HO_0; clear HO_5; clear HO_6; clear HO_7; clear HO233; clear BK235; clear BK236; clear HB; have HO_0 := n0_; have HO_5 := n1_; have HO_6 := n2_; have HO_7 := n3_; have HO233 := n4_; have HO265 := n5_; have BK235 := n6_; have BK236 := n7_; have HB := n8_; clear n0_ n1_ n2_ n3_ n4_ n5_ n6_ n7_ n8_; clear hb ho70; obtain ⟨Ao72, co72, eo72⟩ := Kd.N_slice HO265.out; subst eo72) | ((with_reducible refine gate_builtin (b := .append) (xs := #[.tmp 78, .tmp 80]) rfl ?_); at_builtin; refine Kd.N_append_rows k43 (w0 := w) w.heap.size rfl (.tmp 78) (.tmp 80) 22 43 (.agg #[(.string ⟨#[]⟩), (.string ⟨#[]⟩), (.int .u8 0), (.int .i64 0), (.int .i64 0), (.int .i64 0), (.int .i64 0), (.slice none 0 0)]) 96 rfl Tryz.underlying22 info43 rfl (by decide) (by omega) u5 x5_1 y263 _ _ _ (fun k_ => (P0_ k_ ∨ w.heap.size ≤ k_) ∧ some k_ ≠ (u6 : Value).ownBlock ∧ some k_ ≠ (u7 : Value).ownBlock ∧ k_ ≠ gb235 ∧ k_ ≠ gb236) (fun k_ => ((fun k_ => (P0_ k_ ∨ w.heap.size ≤ k_) ∧ some k_ ≠ (u6 : Value).ownBlock ∧ some k_ ≠ (u7 : Value).ownBlock ∧ k_ ≠ gb235 ∧ k_ ≠ gb236)) k_ ∧ some k_ ≠ (u5 : Value).ownBlock) rfl rfl ?aO ?aR (fun _ hk => hk) ?aF ?aB ?aS ?aL ?_; (case aR => exact (by skip; exact Kd.N_F (Kd.N_mono (ok' := (fun k_ => ((fun k_ => (P0_ k_ ∨ w.heap.size ≤ k_) ∧ some k_ ≠ (u6 : Value).ownBlock ∧ some k_ ≠ (u7 : Value).ownBlock ∧ k_ ≠ gb235 ∧ k_ ≠ gb236)) k_ ∧ some k_ ≠ (u5 : Value).ownBlock)) (HO265.out) (fun k_ hk => ⟨⟨hk.1, ⟨hk.2.2.1, ⟨hk.2.2.2.1, ⟨hk.2.2.2.2.1, hk.2.2.2.2.2⟩⟩⟩⟩, hk.2.1⟩)))); (case aB => exact (wb2_ HB.out GE235.out GE236.out)); (case aF => exact (fun k_ hk => ⟨(.inr (Nat.le_trans (below_size (wb2_ HB.out GE235.out GE236.out)) hk)), Kd.fresh' (Kd.R_lt (wR_ HO_6.out)) k_ hk, Kd.fresh' (Kd.R_lt (wR_ HO_7.out)) k_ hk, Kd.freshB (g := gb235) (o := .cells #[.string t223, .string t224, .string t225, .int .u8 t226, .int .i64 t227, .int .i64 t228, .int .i64 t229, .int .i64 t230, .slice Ao62 t231.length co62] 49 (0, 0)) (wB_ BK235.out) k_ hk, Kd.freshB (g := gb236) (o := .cells #[.string t223, .string t224, .int .u8 t226, .int .i64 t227, .int .i64 t228, .int .i64 t229, .int .i64 t230, .slice Ao62 t231.length co62] 43 (0, 0)) (wB_ BK236.out) k_ hk⟩)); (case aO => exact (by (with_reducible repeat (first | apply Kd.N_alloc | apply Kd.N_drewN | apply Kd.N_drew)); exact Kd.N_mono HO_5.out (fun _ hk => ⟨hk.1.1, ⟨hk.1.2.1, ⟨hk.1.2.2.1, ⟨hk.1.2.2.2.1, hk.1.2.2.2.2⟩⟩⟩⟩))); (case aS => exact (below_size (wb2_ HB.out GE235.out GE236.out))); (case aL => have := LMc58.out; omega); intro v267 w71 ho hb hg hat; rw [← Ny266.out] at ho; have n0_ := A0_ (Kd.V_afterv (ok := (fun k_ => (P0_ k_ ∨ w.heap.size ≤ k_) ∧ some k_ ≠ (u6 : Value).ownBlock ∧ some k_ ≠ (u7 : Value).ownBlock ∧ some k_ ≠ (.slice Ao72 y263.length co72 : Value).ownBlock ∧ k_ ≠ gb235 ∧ k_ ≠ gb236)) (by (with_reducible repeat (first | apply Va_ | apply VN_ | apply V1_)); exact Kd.V_mono HO_0.out (fun _ hk => ⟨⟨hk.1.1, ⟨hk.1.2.2.1, ⟨hk.1.2.2.2.1, ⟨hk.2, ⟨hk.1.2.2.2.2.1, hk.1.2.2.2.2.2⟩⟩⟩⟩⟩, hk.1.2.1⟩)) hg hat); have n1_ := A0_ (Kd.R_over' (wR_ HO_6.out) (Kd.N_typed (wN_ HO_5.out)) (by decide) hg); have n2_ := A0_ (Kd.R_over' (wR_ HO_7.out) (Kd.N_typed (wN_ HO_5.out)) (by decide) hg); have n3_ := A0_ (Kd.V_afterv (ok := (fun k_ => (P0_ k_ ∨ w.heap.size ≤ k_) ∧ some k_ ≠ (u6 : Value).ownBlock ∧ some k_ ≠ (u7 : Value).ownBlock ∧ some k_ ≠ (.slice Ao72 y263.length co72 : Value).ownBlock ∧ k_ ≠ gb235 ∧ k_ ≠ gb236)) (by (with_reducible repeat (first | apply Va_ | apply VN_ | apply V1_)); exact Kd.V_mono HO233.out (fun _ hk => ⟨⟨hk.1.1, ⟨hk.1.2.2.1, ⟨hk.1.2.2.2.1, ⟨hk.2, ⟨hk.1.2.2.2.2.1, hk.1.2.2.2.2.2⟩⟩⟩⟩⟩, hk.1.2.1⟩)) hg hat); have n4_ := A0_ (blk_grown (g := gb235) (o := .cells #[.string t223, .string t224, .string t225, .int .u8 t226, .int .i64 t227, .int .i64 t228, .int .i64 t229, .int .i64 t230, .slice Ao62 t231.length co62] 49 (0, 0)) (wB_ BK235.out) hg (Kd.N_ne HO_5.out BK235.out (by decide))); have n5_ := A0_ (blk_grown (g := gb236) (o := .cells #[.string t223, .string t224, .int .u8 t226, .int .i64 t227, .int .i64 t228, .int .i64 t229, .int .i64 t230, .slice Ao62 t231.length co62] 43 (0, 0)) (wB_ BK236.out) hg (Kd.N_away HO_5.out (fun _ hk => hk.1.2.2.2.2))); have n6_ := A0_ (Kd.N_afterv (ok := (fun k_ => (P0_ k_ ∨ w.heap.size ≤ k_) ∧ some k_ ≠ (u6 : Value).ownBlock ∧ some k_ ≠ (u7 : Value).ownBlock ∧ k_ ≠ gb235 ∧ k_ ≠ gb236)) (by (with_reducible repeat (first | apply Kd.N_alloc | apply Kd.N_drewN | apply Kd.N_drew)); exact Kd.N_mono HO265.out (fun _ hk => ⟨⟨hk.1, ⟨hk.2.2.1, ⟨hk.2.2.2.1, ⟨hk.2.2.2.2.1, hk.2.2.2.2.2⟩⟩⟩⟩, hk.2.1⟩)) hg hat); have n7_ := A0_ (hb); have n8_ := A0_ (ho); clear HO_0; clear HO_6; clear HO_7; clear HO233; clear BK235; clear BK236; clear HO265; clear HB; clear HO_5; have HO_0 := n0_; have HO_6 := n1_; have HO_7 := n2_; have HO233 := n3_; have BK235 := n4_; have BK236 := n5_; have HO265 := n6_; have HB := n7_; have HO268 := n8_; clear n0_ n1_ n2_ n3_ n4_ n5_ n6_ n7_ n8_; clear ho hb hg hat))
    go_roundg k1
    case measure => have := HK1.out; omega
    case rel => exact ⟨(y266), (x6_1), (x7_1), (wrap64 (x8_1 + 1)), wr_, H', ⟨by have := HK1.out; omega⟩, ⟨by (with_reducible repeat (first | apply Va_ | apply VN_ | apply V1_)); exact Kd.V_mono HO_0.out (fun _ hk => ⟨hk.1.1, ⟨hk.2, ⟨hk.1.2.1, hk.1.2.2.1⟩⟩⟩)⟩, ⟨by (with_reducible repeat (first | apply Kd.N_alloc | apply Kd.N_drewN | apply Kd.N_drew)); exact Kd.N_mono HO268.out (fun _ hk => ⟨hk.1, ⟨hk.2.1, hk.2.2.1⟩⟩)⟩, ⟨wR_ HO_6.out⟩, ⟨wR_ HO_7.out⟩, ⟨wb2_ HB.out GE235.out GE236.out⟩⟩
   rw [if_pos c6] at H
   have c6b0 : (t226 == 48) = true := beq_iff_eq.mpr c6
   have c6b1 : (t226 != 48) = false := bne_eq_false_iff_eq.mpr c6
   clear c6
   have H' := A0_ H
   clear H
   have p222 : 0 ≤ (x8_1 : Int) := wd_
   have q222 : x8_1 < (l1.length : Int) := wd_
   obtain ⟨ad222, e222, hx222_0⟩ := Kd.at_string HR1.out x8_1 p222 q222
   cases e222
   replace hx222_0 := (HB.out.cell (World.block_lt_of_cell? w _ hx222_0)).trans hx222_0
   replace p222 := eq_true p222
   replace q222 := eq_true q222
   go_wp2_with (first | ((with_reducible refine gate_callee (f := 23) rfl ?_); refine goesL_ (some 25) rfl rfl Tryz.func23 (by kernel_rfl) rfl #[.slice A0 l0.length c0, .string (rdOf ByteArray.empty l1 x8_1)] rfl wm_ ?_; (with_reducible refine (bindleref08_Find.calls k1 (fun k_ => ((P0_ k_ ∨ w.heap.size ≤ k_) ∧ (some k_ ≠ (u5 : Value).ownBlock ∧ (some k_ ≠ (u6 : Value).ownBlock ∧ some k_ ≠ (u7 : Value).ownBlock)))) _ _ l0 (rdOf ByteArray.empty l1 x8_1) t223 t224 t225 t226 t227 t228 t229 t230 t231 t234 _ ?side1 A5.out).mono ?_); (case side1 => exact HO_0.out); rintro e w7 ⟨v232, rfl, ho0, hb⟩; refine ⟨_, rfl, ?_⟩; have n0_ := A0_ (Vb_ (wV_ HO_0.out) hb); have n1_ := A0_ (Kd.N_below (wN_ HO_5.out) hb); have n2_ := A0_ (Rb_ (wR_ HO_6.out) hb); have n3_ := A0_ (Rb_ (wR_ HO_7.out) hb); have n4_ := A0_ (Kd.V_lower (Kd.V_mono (ok' := fun k_ => (P0_ k_ ∨ w.heap.size ≤ k_) ∧ some k_ ≠ (u5 : Value).ownBlock ∧ some k_ ≠ (u6 : Value).ownBlock ∧ some k_ ≠ (u7 : Value).ownBlock) ho0 (fun k_ hk_ => ⟨Or.elim hk_ (fun hs_ => hs_.1) (fun hn_ => (.inr (Nat.le_trans (below_size (wb_ HB.out)) hn_))), Or.elim hk_ (fun hs_ => hs_.2.1) (fun hn_ => (Kd.fresh' (Kd.N_lt (wN_ HO_5.out)) k_ hn_)), Or.elim hk_ (fun hs_ => hs_.2.2.1) (fun hn_ => (Kd.fresh' (Kd.R_lt (wR_ HO_6.out)) k_ hn_)), Or.elim hk_ (fun hs_ => hs_.2.2.2) (fun hn_ => (Kd.fresh' (Kd.R_lt (wR_ HO_7.out)) k_ hn_))⟩)) (below_size (wb_ HB.out))); have n5_ := A0_ (below_step (wb_ HB.out) hb); clear HO_0; clear HO_5; clear HO_6; clear HO_7; clear HB; have HO_0 := n0_; have HO_5 := n1_; have HO_6 := n2_; have HO_7 := n3_; have HO233 := n4_; have HB := n5_; clear n0_ n1_ n2_ n3_ n4_ n5_; (try clear hb); (try clear hb2); (try clear hk); (try clear hi); (try clear ho0)) | ((with_reducible refine gate_dst (N := 9) rfl ?_); refine box_event ?hg (N := 9) ?hd (cs := #[.string (⟨#[]⟩ : ByteArray), .string (⟨#[]⟩ : ByteArray), .string (⟨#[]⟩ : ByteArray), .int .u8 0, .int .i64 0, .int .i64 0, .int .i64 0, .int .i64 0, .slice none 0 0]) (t := 49) ?hr ?_; (case hd => rfl); (case hg => rfl); (case hr => first | (go_simp; done) | (go_simp; rfl)); intro gb235 hg w8 hbox hb; have n0_ := A0_ (Vb_ (Kd.V_elderB (wV_ HO_0.out) gb235 (Nat.le_of_eq hg.symm)) hb); have n1_ := A0_ (Kd.N_below (Kd.N_elderB (wN_ HO_5.out) gb235 (Nat.le_of_eq hg.symm)) hb); have n2_ := A0_ (Rb_ (wR_ HO_6.out) hb); have n3_ := A0_ (Rb_ (wR_ HO_7.out) hb); have n4_ := A0_ (Vb_ (Kd.V_elderB (wV_ HO233.out) gb235 (Nat.le_of_eq hg.symm)) hb); have n5_ := A0_ (below_step (wb_ HB.out) hb); have n6_ := A0_ (hbox); have n7_ := A0_ ((by rw [hg]; exact (below_size (wb_ HB.out)) : w.heap.size ≤ gb235)); have n8_ := A0_ ((by rw [hg]; exact (below_size (wb_ HB.out)) : w.heap.size ≤ gb235)); clear HO_0; clear HO_5; clear HO_6; clear HO_7; clear HO233; clear HB; have HO_0 := n0_; have HO_5 := n1_; have HO_6 := n2_; have HO_7 := n3_; have HO233 := n4_; have HB := n5_; have BK235 := n6_; have GW235 := n7_; have GE235 := n8_; clear n0_ n1_ n2_ n3_ n4_ n5_ n6_ n7_ n8_; clear hb hbox hg; have hcz9_0 : w8.cell? ⟨gb235, 0, none⟩ = some (.string (⟨#[]⟩ : ByteArray)) := (bc_ BK235.out 0).trans rfl; have hcz9_1 : w8.cell? ⟨gb235, 1, none⟩ = some (.string (⟨#[]⟩ : ByteArray)) := (bc_ BK235.out 1).trans rfl; have hcz9_2 : w8.cell? ⟨gb235, 2, none⟩ = some (.string (⟨#[]⟩ : ByteArray)) := (bc_ BK235.out 2).trans rfl; have hcz9_3 : w8.cell? ⟨gb235, 3, none⟩ = some (.int .u8 0) := (bc_ BK235.out 3).trans rfl; have hcz9_4 : w8.cell? ⟨gb235, 4, none⟩ = some (.int .i64 0) := (bc_ BK235.out 4).trans rfl; have hcz9_5 : w8.cell? ⟨gb235, 5, none⟩ = some (.int .i64 0) := (bc_ BK235.out 5).trans rfl; have hcz9_6 : w8.cell? ⟨gb235, 6, none⟩ = some (.int .i64 0) := (bc_ BK235.out 6).trans rfl; have hcz9_7 : w8.cell? ⟨gb235, 7, none⟩ = some (.int .i64 0) := (bc_ BK235.out 7).trans rfl; have hcz9_8 : w8.cell? ⟨gb235, 8, none⟩ = some (.slice none 0 0) := (bc_ BK235.out 8).trans rfl; have hfz9_0 := bf_ BK235.out 0; have hfz9_1 := bf_ BK235.out 1; have hfz9_2 := bf_ BK235.out 2; have hfz9_3 := bf_ BK235.out 3; have hfz9_4 := bf_ BK235.out 4; have hfz9_5 := bf_ BK235.out 5; have hfz9_6 := bf_ BK235.out 6; have hfz9_7 := bf_ BK235.out 7; have hfz9_8 := bf_ BK235.out 8; obtain ⟨Ao10, co10, eo10⟩ := Kd.V_slice HO233.out; subst eo10) | ((with_reducible refine gate_dst (N := 11) rfl ?_); refine box_event ?hg (N := 11) ?hd (cs := #[.string (⟨#[]⟩ : ByteArray), .string (⟨#[]⟩ : ByteArray), .int .u8 0, .int .i64 0, .int .i64 0, .int .i64 0, .int .i64 0, .slice none 0 0]) (t := 43) ?hr ?_; (case hd => rfl); (case hg => rfl); (case hr => first | (go_simp; done) | (go_simp; rfl)); intro gb236 hg w11 hbox hb; have n0_ := A0_ (Vb_ (Kd.V_elderB (by (with_reducible repeat (first | apply Va_ | apply VN_ | apply V1_)); exact (Kd.V_mono (Kd.V_far (p := ⟨gb235, 8, none⟩) (Kd.V_far (p := ⟨gb235, 7, none⟩) (Kd.V_far (p := ⟨gb235, 6, none⟩) (Kd.V_far (p := ⟨gb235, 5, none⟩) (Kd.V_far (p := ⟨gb235, 4, none⟩) (Kd.V_far (p := ⟨gb235, 3, none⟩) (Kd.V_far (p := ⟨gb235, 2, none⟩) (Kd.V_far (p := ⟨gb235, 1, none⟩) (Kd.V_far (p := ⟨gb235, 0, none⟩) (Kd.V_mono HO_0.out (fun k_ hk => (⟨hk, hk.2⟩ : _ ∧ k_ ≠ gb235))) (fun _ hk => hk.2) (.string t223)) (fun _ hk => hk.2) (.string t224)) (fun _ hk => hk.2) (.string t225)) (fun _ hk => hk.2) (.int .u8 t226)) (fun _ hk => hk.2) (.int .i64 t227)) (fun _ hk => hk.2) (.int .i64 t228)) (fun _ hk => hk.2) (.int .i64 t229)) (fun _ hk => hk.2) (.int .i64 t230)) (fun _ hk => hk.2) (.slice Ao10 t231.length co10)) (fun _ h_ => h_.1))) gb236 (Nat.le_of_eq hg.symm)) hb); have n1_ := A0_ (Kd.N_below (Kd.N_elderB (by (with_reducible repeat (first | apply Kd.N_alloc | apply Kd.N_drewN | apply Kd.N_drew)); exact (Kd.N_mono (Kd.N_far (p := ⟨gb235, 8, none⟩) (Kd.N_far (p := ⟨gb235, 7, none⟩) (Kd.N_far (p := ⟨gb235, 6, none⟩) (Kd.N_far (p := ⟨gb235, 5, none⟩) (Kd.N_far (p := ⟨gb235, 4, none⟩) (Kd.N_far (p := ⟨gb235, 3, none⟩) (Kd.N_far (p := ⟨gb235, 2, none⟩) (Kd.N_far (p := ⟨gb235, 1, none⟩) (Kd.N_far (p := ⟨gb235, 0, none⟩) (Kd.N_mono HO_5.out (fun k_ hk => (⟨hk, hk.2⟩ : _ ∧ k_ ≠ gb235))) (fun _ hk => hk.2) (.string t223)) (fun _ hk => hk.2) (.string t224)) (fun _ hk => hk.2) (.string t225)) (fun _ hk => hk.2) (.int .u8 t226)) (fun _ hk => hk.2) (.int .i64 t227)) (fun _ hk => hk.2) (.int .i64 t228)) (fun _ hk => hk.2) (.int .i64 t229)) (fun _ hk => hk.2) (.int .i64 t230)) (fun _ hk => hk.2) (.slice Ao10 t231.length co10)) (fun _ h_ => h_.1))) gb236 (Nat.le_of_eq hg.symm)) hb); have n2_ := A0_ (Rb_ (by (with_reducible repeat (first | apply Ra_ | apply RN_ | apply R1_)); exact (Kd.R_mono (Kd.R_far (p := ⟨gb235, 8, none⟩) (Kd.R_far (p := ⟨gb235, 7, none⟩) (Kd.R_far (p := ⟨gb235, 6, none⟩) (Kd.R_far (p := ⟨gb235, 5, none⟩) (Kd.R_far (p := ⟨gb235, 4, none⟩) (Kd.R_far (p := ⟨gb235, 3, none⟩) (Kd.R_far (p := ⟨gb235, 2, none⟩) (Kd.R_far (p := ⟨gb235, 1, none⟩) (Kd.R_far (p := ⟨gb235, 0, none⟩) (Kd.R_types HO_6.out BK235.out (by decide)) (fun _ hk => hk.2) (.string t223)) (fun _ hk => hk.2) (.string t224)) (fun _ hk => hk.2) (.string t225)) (fun _ hk => hk.2) (.int .u8 t226)) (fun _ hk => hk.2) (.int .i64 t227)) (fun _ hk => hk.2) (.int .i64 t228)) (fun _ hk => hk.2) (.int .i64 t229)) (fun _ hk => hk.2) (.int .i64 t230)) (fun _ hk => hk.2) (.slice Ao10 t231.length co10)) (fun _ h_ => h_.1))) hb); have n3_ := A0_ (Rb_ (by (with_reducible repeat (first | apply Ra_ | apply RN_ | apply R1_)); exact (Kd.R_mono (Kd.R_far (p := ⟨gb235, 8, none⟩) (Kd.R_far (p := ⟨gb235, 7, none⟩) (Kd.R_far (p := ⟨gb235, 6, none⟩) (Kd.R_far (p := ⟨gb235, 5, none⟩) (Kd.R_far (p := ⟨gb235, 4, none⟩) (Kd.R_far (p := ⟨gb235, 3, none⟩) (Kd.R_far (p := ⟨gb235, 2, none⟩) (Kd.R_far (p := ⟨gb235, 1, none⟩) (Kd.R_far (p := ⟨gb235, 0, none⟩) (Kd.R_types HO_7.out BK235.out (by decide)) (fun _ hk => hk.2) (.string t223)) (fun _ hk => hk.2) (.string t224)) (fun _ hk => hk.2) (.string t225)) (fun _ hk => hk.2) (.int .u8 t226)) (fun _ hk => hk.2) (.int .i64 t227)) (fun _ hk => hk.2) (.int .i64 t228)) (fun _ hk => hk.2) (.int .i64 t229)) (fun _ hk => hk.2) (.int .i64 t230)) (fun _ hk => hk.2) (.slice Ao10 t231.length co10)) (fun _ h_ => h_.1))) hb); have n4_ := A0_ (Vb_ (Kd.V_elderB (by (with_reducible repeat (first | apply Va_ | apply VN_ | apply V1_)); exact (Kd.V_mono (Kd.V_far (p := ⟨gb235, 8, none⟩) (Kd.V_far (p := ⟨gb235, 7, none⟩) (Kd.V_far (p := ⟨gb235, 6, none⟩) (Kd.V_far (p := ⟨gb235, 5, none⟩) (Kd.V_far (p := ⟨gb235, 4, none⟩) (Kd.V_far (p := ⟨gb235, 3, none⟩) (Kd.V_far (p := ⟨gb235, 2, none⟩) (Kd.V_far (p := ⟨gb235, 1, none⟩) (Kd.V_far (p := ⟨gb235, 0, none⟩) (Kd.V_mono HO233.out (fun k_ hk => (⟨hk, hk.2⟩ : _ ∧ k_ ≠ gb235))) (fun _ hk => hk.2) (.string t223)) (fun _ hk => hk.2) (.string t224)) (fun _ hk => hk.2) (.string t225)) (fun _ hk => hk.2) (.int .u8 t226)) (fun _ hk => hk.2) (.int .i64 t227)) (fun _ hk => hk.2) (.int .i64 t228)) (fun _ hk => hk.2) (.int .i64 t229)) (fun _ hk => hk.2) (.int .i64 t230)) (fun _ hk => hk.2) (.slice Ao10 t231.length co10)) (fun _ h_ => h_.1))) gb236 (Nat.le_of_eq hg.symm)) hb); have n5_ := A0_ (blk_below (g := gb235) (o := .cells #[.string t223, .string t224, .string t225, .int .u8 t226, .int .i64 t227, .int .i64 t228, .int .i64 t229, .int .i64 t230, .slice Ao10 t231.length co10] 49 (0, 0)) (by (with_reducible repeat (first | refine blk_drewN ?_ _ | refine blk_drew ?_ | refine blk_alloc ?_ _)); refine blk_put (cs := #[.string t223, .string t224, .string t225, .int .u8 t226, .int .i64 t227, .int .i64 t228, .int .i64 t229, .int .i64 t230, .slice none 0 0]) ?_ 8 _ rfl; (with_reducible repeat (first | refine blk_drewN ?_ _ | refine blk_drew ?_ | refine blk_alloc ?_ _)); refine blk_put (cs := #[.string t223, .string t224, .string t225, .int .u8 t226, .int .i64 t227, .int .i64 t228, .int .i64 t229, .int .i64 0, .slice none 0 0]) ?_ 7 _ rfl; (with_reducible repeat (first | refine blk_drewN ?_ _ | refine blk_drew ?_ | refine blk_alloc ?_ _)); refine blk_put (cs := #[.string t223, .string t224, .string t225, .int .u8 t226, .int .i64 t227, .int .i64 t228, .int .i64 0, .int .i64 0, .slice none 0 0]) ?_ 6 _ rfl; (with_reducible repeat (first | refine blk_drewN ?_ _ | refine blk_drew ?_ | refine blk_alloc ?_ _)); refine blk_put (cs := #[.string t223, .string t224, .string t225, .int .u8 t226, .int .i64 t227, .int .i64 0, .int .i64 0, .int .i64 0, .slice none 0 0]) ?_ 5 _ rfl; (with_reducible repeat (first | refine blk_drewN ?_ _ | refine blk_drew ?_ | refine blk_alloc ?_ _)); refine blk_put (cs := #[.string t223, .string t224, .string t225, .int .u8 t226, .int .i64 0, .int .i64 0, .int .i64 0, .int .i64 0, .slice none 0 0]) ?_ 4 _ rfl; (with_reducible repeat (first | refine blk_drewN ?_ _ | refine blk_drew ?_ | refine blk_alloc ?_ _)); refine blk_put (cs := #[.string t223, .string t224, .string t225, .int .u8 0, .int .i64 0, .int .i64 0, .int .i64 0, .int .i64 0, .slice none 0 0]) ?_ 3 _ rfl; (with_reducible repeat (first | refine blk_drewN ?_ _ | refine blk_drew ?_ | refine blk_alloc ?_ _)); refine blk_put (cs := #[.string t223, .string t224, .string (⟨#[]⟩ : ByteArray), .int .u8 0, .int .i64 0, .int .i64 0, .int .i64 0, .int .i64 0, .slice none 0 0]) ?_ 2 _ rfl; (with_reducible repeat (first | refine blk_drewN ?_ _ | refine blk_drew ?_ | refine blk_alloc ?_ _)); refine blk_put (cs := #[.string t223, .string (⟨#[]⟩ : ByteArray), .string (⟨#[]⟩ : ByteArray), .int .u8 0, .int .i64 0, .int .i64 0, .int .i64 0, .int .i64 0, .slice none 0 0]) ?_ 1 _ rfl; (with_reducible repeat (first | refine blk_drewN ?_ _ | refine blk_drew ?_ | refine blk_alloc ?_ _)); refine blk_put (cs := #[.string (⟨#[]⟩ : ByteArray), .string (⟨#[]⟩ : ByteArray), .string (⟨#[]⟩ : ByteArray), .int .u8 0, .int .i64 0, .int .i64 0, .int .i64 0, .int .i64 0, .slice none 0 0]) ?_ 0 _ rfl; (with_reducible repeat (first | refine blk_drewN ?_ _ | refine blk_drew ?_ | refine blk_alloc ?_ _)); exact BK235.out) hb); have n6_ := A0_ (below_step (wb1_ HB.out GE235.out) hb); have n7_ := A0_ (hbox); have n8_ := A0_ ((by rw [hg]; exact (below_size (wb1_ HB.out GE235.out)) : w.heap.size ≤ gb236)); have n9_ := A0_ ((by rw [hg]; exact (below_size (wb1_ HB.out GE235.out)) : w.heap.size ≤ gb236)); have n10_ := A0_ ((by rw [hg]; exact Nat.ne_of_lt (blk_lt (g := gb235) (o := .cells #[.string t223, .string t224, .string t225, .int .u8 t226, .int .i64 t227, .int .i64 t228, .int .i64 t229, .int .i64 t230, .slice Ao10 t231.length co10] 49 (0, 0)) (by (with_reducible repeat (first | refine blk_drewN ?_ _ | refine blk_drew ?_ | refine blk_alloc ?_ _)); refine blk_put (cs := #[.string t223, .string t224, .string t225, .int .u8 t226, .int .i64 t227, .int .i64 t228, .int .i64 t229, .int .i64 t230, .slice none 0 0]) ?_ 8 _ rfl; (with_reducible repeat (first | refine blk_drewN ?_ _ | refine blk_drew ?_ | refine blk_alloc ?_ _)); refine blk_put (cs := #[.string t223, .string t224, .string t225, .int .u8 t226, .int .i64 t227, .int .i64 t228, .int .i64 t229, .int .i64 0, .slice none 0 0]) ?_ 7 _ rfl; (with_reducible repeat (first | refine blk_drewN ?_ _ | refine blk_drew ?_ | refine blk_alloc ?_ _)); refine blk_put (cs := #[.string t223, .string t224, .string t225, .int .u8 t226, .int .i64 t227, .int .i64 t228, .int .i64 0, .int .i64 0, .slice none 0 0]) ?_ 6 _ rfl; (with_reducible repeat (first | refine blk_drewN ?_ _ | refine blk_drew ?_ | refine blk_alloc ?_ _)); refine blk_put (cs := #[.string t223, .string t224, .string t225, .int .u8 t226, .int .i64 t227, .int .i64 0, .int .i64 0, .int .i64 0, .slice none 0 0]) ?_ 5 _ rfl; (with_reducible repeat (first | refine blk_drewN ?_ _ | refine blk_drew ?_ | refine blk_alloc ?_ _)); refine blk_put (cs := #[.string t223, .string t224, .string t225, .int .u8 t226, .int .i64 0, .int .i64 0, .int .i64 0, .int .i64 0, .slice none 0 0]) ?_ 4 _ rfl; (with_reducible repeat (first | refine blk_drewN ?_ _ | refine blk_drew ?_ | refine blk_alloc ?_ _)); refine blk_put (cs := #[.string t223, .string t224, .string t225, .int .u8 0, .int .i64 0, .int .i64 0, .int .i64 0, .int .i64 0, .slice none 0 0]) ?_ 3 _ rfl; (with_reducible repeat (first | refine blk_drewN ?_ _ | refine blk_drew ?_ | refine blk_alloc ?_ _)); refine blk_put (cs := #[.string t223, .string t224, .string (⟨#[]⟩ : ByteArray), .int .u8 0, .int .i64 0, .int .i64 0, .int .i64 0, .int .i64 0, .slice none 0 0]) ?_ 2 _ rfl; (with_reducible repeat (first | refine blk_drewN ?_ _ | refine blk_drew ?_ | refine blk_alloc ?_ _)); refine blk_put (cs := #[.string t223, .string (⟨#[]⟩ : ByteArray), .string (⟨#[]⟩ : ByteArray), .int .u8 0, .int .i64 0, .int .i64 0, .int .i64 0, .int .i64 0, .slice none 0 0]) ?_ 1 _ rfl; (with_reducible repeat (first | refine blk_drewN ?_ _ | refine blk_drew ?_ | refine blk_alloc ?_ _)); refine blk_put (cs := #[.string (⟨#[]⟩ : ByteArray), .string (⟨#[]⟩ : ByteArray), .string (⟨#[]⟩ : ByteArray), .int .u8 0, .int .i64 0, .int .i64 0, .int .i64 0, .int .i64 0, .slice none 0 0]) ?_ 0 _ rfl; (with_reducible repeat (first | refine blk_drewN ?_ _ | refine blk_drew ?_ | refine blk_alloc ?_ _)); exact BK235.out)) : gb235 ≠ gb236)); have n11_ := A0_ ((by rw [hg]; exact Nat.ne_of_gt (blk_lt (g := gb235) (o := .cells #[.string t223, .string t224, .string t225, .int .u8 t226, .int .i64 t227, .int .i64 t228, .int .i64 t229, .int .i64 t230, .slice Ao10 t231.length co10] 49 (0, 0)) (by (with_reducible repeat (first | refine blk_drewN ?_ _ | refine blk_drew ?_ | refine blk_alloc ?_ _)); refine blk_put (cs := #[.string t223, .string t224, .string t225, .int .u8 t226, .int .i64 t227, .int .i64 t228, .int .i64 t229, .int .i64 t230, .slice none 0 0]) ?_ 8 _ rfl; (with_reducible repeat (first | refine blk_drewN ?_ _ | refine blk_drew ?_ | refine blk_alloc ?_ _)); refine blk_put (cs := #[.string t223, .string t224, .string t225, .int .u8 t226, .int .i64 t227, .int .i64 t228, .int .i64 t229, .int .i64 0, .slice none 0 0]) ?_ 7 _ rfl; (with_reducible repeat (first | refine blk_drewN ?_ _ | refine blk_drew ?_ | refine blk_alloc ?_ _)); refine blk_put (cs := #[.string t223, .string t224, .string t225, .int .u8 t226, .int .i64 t227, .int .i64 t228, .int .i64 0, .int .i64 0, .slice none 0 0]) ?_ 6 _ rfl; (with_reducible repeat (first | refine blk_drewN ?_ _ | refine blk_drew ?_ | refine blk_alloc ?_ _)); refine blk_put (cs := #[.string t223, .string t224, .string t225, .int .u8 t226, .int .i64 t227, .int .i64 0, .int .i64 0, .int .i64 0, .slice none 0 0]) ?_ 5 _ rfl; (with_reducible repeat (first | refine blk_drewN ?_ _ | refine blk_drew ?_ | refine blk_alloc ?_ _)); refine blk_put (cs := #[.string t223, .string t224, .string t225, .int .u8 t226, .int .i64 0, .int .i64 0, .int .i64 0, .int .i64 0, .slice none 0 0]) ?_ 4 _ rfl; (with_reducible repeat (first | refine blk_drewN ?_ _ | refine blk_drew ?_ | refine blk_alloc ?_ _)); refine blk_put (cs := #[.string t223, .string t224, .string t225, .int .u8 0, .int .i64 0, .int .i64 0, .int .i64 0, .int .i64 0, .slice none 0 0]) ?_ 3 _ rfl; (with_reducible repeat (first | refine blk_drewN ?_ _ | refine blk_drew ?_ | refine blk_alloc ?_ _)); refine blk_put (cs := #[.string t223, .string t224, .string (⟨#[]⟩ : ByteArray), .int .u8 0, .int .i64 0, .int .i64 0, .int .i64 0, .int .i64 0, .slice none 0 0]) ?_ 2 _ rfl; (with_reducible repeat (first | refine blk_drewN ?_ _ | refine blk_drew ?_ | refine blk_alloc ?_ _)); refine blk_put (cs := #[.string t223, .string (⟨#[]⟩ : ByteArray), .string (⟨#[]⟩ : ByteArray), .int .u8 0, .int .i64 0, .int .i64 0, .int .i64 0, .int .i64 0, .slice none 0 0]) ?_ 1 _ rfl; (with_reducible repeat (first | refine blk_drewN ?_ _ | refine blk_drew ?_ | refine blk_alloc ?_ _)); refine blk_put (cs := #[.string (⟨#[]⟩ : ByteArray), .string (⟨#[]⟩ : ByteArray), .string (⟨#[]⟩ : ByteArray), .int .u8 0, .int .i64 0, .int .i64 0, .int .i64 0, .int .i64 0, .slice none 0 0]) ?_ 0 _ rfl; (with_reducible repeat (first | refine blk_drewN ?_ _ | refine blk_drew ?_ | refine blk_alloc ?_ _)); exact BK235.out)) : gb236 ≠ gb235)); clear HO_0; clear HO_5; clear HO_6; clear HO_7; clear HO233; clear BK235; clear HB; have HO_0 := n0_; have HO_5 := n1_; have HO_6 := n2_; have HO_7 := n3_; have HO233 := n4_; have BK235 := n5_; have HB := n6_; have BK236 := n7_; have GW236 := n8_; have GE236 := n9_; have NB235_236 := n10_; have NB236_235 := n11_; clear n0_ n1_ n2_ n3_ n4_ n5_ n6_ n7_ n8_ n9_ n10_ n11_; clear hb hbox hg; have hnb12 := NB236_235.out; have hnc12 := NB235_236.out; have hcz13_0 : w11.cell? ⟨gb236, 0, none⟩ = some (.string (⟨#[]⟩ : ByteArray)) := (bc_ BK236.out 0).trans rfl; have hcz13_1 : w11.cell? ⟨gb236, 1, none⟩ = some (.string (⟨#[]⟩ : ByteArray)) := (bc_ BK236.out 1).trans rfl; have hcz13_2 : w11.cell? ⟨gb236, 2, none⟩ = some (.int .u8 0) := (bc_ BK236.out 2).trans rfl; have hcz13_3 : w11.cell? ⟨gb236, 3, none⟩ = some (.int .i64 0) := (bc_ BK236.out 3).trans rfl; have hcz13_4 : w11.cell? ⟨gb236, 4, none⟩ = some (.int .i64 0) := (bc_ BK236.out 4).trans rfl; have hcz13_5 : w11.cell? ⟨gb236, 5, none⟩ = some (.int .i64 0) := (bc_ BK236.out 5).trans rfl; have hcz13_6 : w11.cell? ⟨gb236, 6, none⟩ = some (.int .i64 0) := (bc_ BK236.out 6).trans rfl; have hcz13_7 : w11.cell? ⟨gb236, 7, none⟩ = some (.slice none 0 0) := (bc_ BK236.out 7).trans rfl; have hfz13_0 := bf_ BK236.out 0; have hfz13_1 := bf_ BK236.out 1; have hfz13_2 := bf_ BK236.out 2; have hfz13_3 := bf_ BK236.out 3; have hfz13_4 := bf_ BK236.out 4; have hfz13_5 := bf_ BK236.out 5; have hfz13_6 := bf_ BK236.out 6; have hfz13_7 := bf_ BK236.out 7; have hcz14_0 : w11.cell? ⟨gb235, 0, none⟩ = some (.string t223) := (bc_ BK235.out 0).trans rfl; have hcz14_1 : w11.cell? ⟨gb235, 1, none⟩ = some (.string t224) := (bc_ BK235.out 1).trans rfl; have hcz14_2 : w11.cell? ⟨gb235, 2, none⟩ = some (.string t225) := (bc_ BK235.out 2).trans rfl; have hcz14_3 : w11.cell? ⟨gb235, 3, none⟩ = some (.int .u8 t226) := (bc_ BK235.out 3).trans rfl; have hcz14_4 : w11.cell? ⟨gb235, 4, none⟩ = some (.int .i64 t227) := (bc_ BK235.out 4).trans rfl; have hcz14_5 : w11.cell? ⟨gb235, 5, none⟩ = some (.int .i64 t228) := (bc_ BK235.out 5).trans rfl; have hcz14_6 : w11.cell? ⟨gb235, 6, none⟩ = some (.int .i64 t229) := (bc_ BK235.out 6).trans rfl; have hcz14_7 : w11.cell? ⟨gb235, 7, none⟩ = some (.int .i64 t230) := (bc_ BK235.out 7).trans rfl; have hcz14_8 : w11.cell? ⟨gb235, 8, none⟩ = some (.slice Ao10 t231.length co10) := (bc_ BK235.out 8).trans rfl; have hfz14_0 := bf_ BK235.out 0; have hfz14_1 := bf_ BK235.out 1; have hfz14_2 := bf_ BK235.out 2; have hfz14_3 := bf_ BK235.out 3; have hfz14_4 := bf_ BK235.out 4; have hfz14_5 := bf_ BK235.out 5; have hfz14_6 := bf_ BK235.out 6; have hfz14_7 := bf_ BK235.out 7; have hfz14_8 := bf_ BK235.out 8))
   go_loopg [12] k1 (fun kq v12 w' => ∃ (x12_2 : Int), v12 = .int .i64 x12_2 ∧ Aside0 (bindleref08_Members.l1 kq l0 l1 x5_1 x6_1 x7_1 x8_1 x12_2 t223 t224 t225 t226 t227 t228 t229 t230 t231 t223 t224 t226 t227 t228 t229 t230 t231 = some r) ∧ Aside0 (kq ≤ k1) ∧ Aside0 (Kd.V k49 49 w' w.heap.size (fun k_ => (P0_ k_ ∨ w.heap.size ≤ k_) ∧ some k_ ≠ (u5 : Value).ownBlock ∧ some k_ ≠ (u6 : Value).ownBlock ∧ some k_ ≠ (u7 : Value).ownBlock ∧ k_ ≠ gb235 ∧ k_ ≠ gb236) (.slice A0 l0.length c0) l0) ∧ Aside0 (Kd.N k43 43 w' w.heap.size (fun k_ => (P0_ k_ ∨ w.heap.size ≤ k_) ∧ some k_ ≠ (u6 : Value).ownBlock ∧ some k_ ≠ (u7 : Value).ownBlock ∧ k_ ≠ gb235 ∧ k_ ≠ gb236) u5 x5_1) ∧ Aside0 (Kd.R Kd.string 9 w' w.heap.size (fun k_ => (w.heap.size ≤ k_) ∧ some k_ ≠ (u7 : Value).ownBlock) u6 x6_1) ∧ Aside0 (Kd.R Kd.string 9 w' w.heap.size (fun k_ => (w.heap.size ≤ k_) ∧ some k_ ≠ (u6 : Value).ownBlock) u7 x7_1) ∧ Aside0 (Kd.V (Kd.int .u8) 5 w' w.heap.size (fun k_ => (P0_ k_ ∨ w.heap.size ≤ k_) ∧ some k_ ≠ (u5 : Value).ownBlock ∧ some k_ ≠ (u6 : Value).ownBlock ∧ some k_ ≠ (u7 : Value).ownBlock ∧ k_ ≠ gb235 ∧ k_ ≠ gb236) (.slice Ao10 t231.length co10) t231) ∧ Aside0 (Kd.V (Kd.int .u8) 5 w' w.heap.size (fun k_ => (P0_ k_ ∨ w.heap.size ≤ k_) ∧ some k_ ≠ (u5 : Value).ownBlock ∧ some k_ ≠ (u6 : Value).ownBlock ∧ some k_ ≠ (u7 : Value).ownBlock ∧ k_ ≠ gb235 ∧ k_ ≠ gb236) (.slice Ao10 t231.length co10) t231) ∧ Aside0 (w'.heap[gb235]? = some (.cells #[.string t223, .string t224, .string t225, .int .u8 t226, .int .i64 t227, .int .i64 t228, .int .i64 t229, .int .i64 t230, (.slice Ao10 t231.length co10)] 49 (0, 0))) ∧ Aside0 (w'.heap[gb236]? = some (.cells #[.string t223, .string t224, .int .u8 t226, .int .i64 t227, .int .i64 t228, .int .i64 t229, .int .i64 t230, (.slice Ao10 t231.length co10)] 43 (0, 0))) ∧ Aside0 (Below w.heap.size w w'))
   case atStart => exact ⟨(0), wr_, H', ⟨Nat.le_refl _⟩, ⟨by (with_reducible repeat (first | apply Va_ | apply VN_ | apply V1_)); exact Kd.V_mono (Kd.V_far (p := ⟨gb236, 7, none⟩) (Kd.V_far (p := ⟨gb236, 6, none⟩) (Kd.V_far (p := ⟨gb236, 5, none⟩) (Kd.V_far (p := ⟨gb236, 4, none⟩) (Kd.V_far (p := ⟨gb236, 3, none⟩) (Kd.V_far (p := ⟨gb236, 2, none⟩) (Kd.V_far (p := ⟨gb236, 1, none⟩) (Kd.V_far (p := ⟨gb236, 0, none⟩) (Kd.V_mono HO_0.out (fun k_ hk => (⟨hk, hk.2⟩ : _ ∧ k_ ≠ gb236))) (fun _ hk => hk.2) (.string t223)) (fun _ hk => hk.2) (.string t224)) (fun _ hk => hk.2) (.int .u8 t226)) (fun _ hk => hk.2) (.int .i64 t227)) (fun _ hk => hk.2) (.int .i64 t228)) (fun _ hk => hk.2) (.int .i64 t229)) (fun _ hk => hk.2) (.int .i64 t230)) (fun _ hk => hk.2) (.slice Ao10 t231.length co10)) (fun _ hk => ⟨hk.1.1.1.1, ⟨hk.1.1.1.2.1, ⟨hk.1.1.1.2.2.1, ⟨hk.1.1.1.2.2.2, ⟨hk.1.1.2, hk.1.2⟩⟩⟩⟩⟩)⟩, ⟨by (with_reducible repeat (first | apply Kd.N_alloc | apply Kd.N_drewN | apply Kd.N_drew)); exact Kd.N_mono (Kd.N_far (p := ⟨gb236, 7, none⟩) (Kd.N_far (p := ⟨gb236, 6, none⟩) (Kd.N_far (p := ⟨gb236, 5, none⟩) (Kd.N_far (p := ⟨gb236, 4, none⟩) (Kd.N_far (p := ⟨gb236, 3, none⟩) (Kd.N_far (p := ⟨gb236, 2, none⟩) (Kd.N_far (p := ⟨gb236, 1, none⟩) (Kd.N_far (p := ⟨gb236, 0, none⟩) (Kd.N_mono HO_5.out (fun k_ hk => (⟨hk, hk.2⟩ : _ ∧ k_ ≠ gb236))) (fun _ hk => hk.2) (.string t223)) (fun _ hk => hk.2) (.string t224)) (fun _ hk => hk.2) (.int .u8 t226)) (fun _ hk => hk.2) (.int .i64 t227)) (fun _ hk => hk.2) (.int .i64 t228)) (fun _ hk => hk.2) (.int .i64 t229)) (fun _ hk => hk.2) (.int .i64 t230)) (fun _ hk => hk.2) (.slice Ao10 t231.length co10)) (fun _ hk => ⟨hk.1.1.1.1, ⟨hk.1.1.1.2.1, ⟨hk.1.1.1.2.2, ⟨hk.1.1.2, hk.1.2⟩⟩⟩⟩)⟩, ⟨by (with_reducible repeat (first | apply Ra_ | apply RN_ | apply R1_)); exact Kd.R_mono (Kd.R_far (p := ⟨gb236, 7, none⟩) (Kd.R_far (p := ⟨gb236, 6, none⟩) (Kd.R_far (p := ⟨gb236, 5, none⟩) (Kd.R_far (p := ⟨gb236, 4, none⟩) (Kd.R_far (p := ⟨gb236, 3, none⟩) (Kd.R_far (p := ⟨gb236, 2, none⟩) (Kd.R_far (p := ⟨gb236, 1, none⟩) (Kd.R_far (p := ⟨gb236, 0, none⟩) (Kd.R_types HO_6.out BK236.out (by decide)) (fun _ hk => hk.2) (.string t223)) (fun _ hk => hk.2) (.string t224)) (fun _ hk => hk.2) (.int .u8 t226)) (fun _ hk => hk.2) (.int .i64 t227)) (fun _ hk => hk.2) (.int .i64 t228)) (fun _ hk => hk.2) (.int .i64 t229)) (fun _ hk => hk.2) (.int .i64 t230)) (fun _ hk => hk.2) (.slice Ao10 t231.length co10)) (fun _ hk => ⟨hk.1.1, hk.1.2⟩)⟩, ⟨by (with_reducible repeat (first | apply Ra_ | apply RN_ | apply R1_)); exact Kd.R_mono (Kd.R_far (p := ⟨gb236, 7, none⟩) (Kd.R_far (p := ⟨gb236, 6, none⟩) (Kd.R_far (p := ⟨gb236, 5, none⟩) (Kd.R_far (p := ⟨gb236, 4, none⟩) (Kd.R_far (p := ⟨gb236, 3, none⟩) (Kd.R_far (p := ⟨gb236, 2, none⟩) (Kd.R_far (p := ⟨gb236, 1, none⟩) (Kd.R_far (p := ⟨gb236, 0, none⟩) (Kd.R_types HO_7.out BK236.out (by decide)) (fun _ hk => hk.2) (.string t223)) (fun _ hk => hk.2) (.string t224)) (fun _ hk => hk.2) (.int .u8 t226)) (fun _ hk => hk.2) (.int .i64 t227)) (fun _ hk => hk.2) (.int .i64 t228)) (fun _ hk => hk.2) (.int .i64 t229)) (fun _ hk => hk.2) (.int .i64 t230)) (fun _ hk => hk.2) (.slice Ao10 t231.length co10)) (fun _ hk => ⟨hk.1.1, hk.1.2⟩)⟩, ⟨by (with_reducible repeat (first | apply Va_ | apply VN_ | apply V1_)); exact Kd.V_mono (Kd.V_far (p := ⟨gb236, 7, none⟩) (Kd.V_far (p := ⟨gb236, 6, none⟩) (Kd.V_far (p := ⟨gb236, 5, none⟩) (Kd.V_far (p := ⟨gb236, 4, none⟩) (Kd.V_far (p := ⟨gb236, 3, none⟩) (Kd.V_far (p := ⟨gb236, 2, none⟩) (Kd.V_far (p := ⟨gb236, 1, none⟩) (Kd.V_far (p := ⟨gb236, 0, none⟩) (Kd.V_mono HO233.out (fun k_ hk => (⟨hk, hk.2⟩ : _ ∧ k_ ≠ gb236))) (fun _ hk => hk.2) (.string t223)) (fun _ hk => hk.2) (.string t224)) (fun _ hk => hk.2) (.int .u8 t226)) (fun _ hk => hk.2) (.int .i64 t227)) (fun _ hk => hk.2) (.int .i64 t228)) (fun _ hk => hk.2) (.int .i64 t229)) (fun _ hk => hk.2) (.int .i64 t230)) (fun _ hk => hk.2) (.slice Ao10 t231.length co10)) (fun _ hk => ⟨hk.1.1.1.1, ⟨hk.1.1.1.2.1, ⟨hk.1.1.1.2.2.1, ⟨hk.1.1.1.2.2.2, ⟨hk.1.1.2, hk.1.2⟩⟩⟩⟩⟩)⟩, ⟨by (with_reducible repeat (first | apply Va_ | apply VN_ | apply V1_)); exact Kd.V_mono (Kd.V_far (p := ⟨gb236, 7, none⟩) (Kd.V_far (p := ⟨gb236, 6, none⟩) (Kd.V_far (p := ⟨gb236, 5, none⟩) (Kd.V_far (p := ⟨gb236, 4, none⟩) (Kd.V_far (p := ⟨gb236, 3, none⟩) (Kd.V_far (p := ⟨gb236, 2, none⟩) (Kd.V_far (p := ⟨gb236, 1, none⟩) (Kd.V_far (p := ⟨gb236, 0, none⟩) (Kd.V_mono HO233.out (fun k_ hk => (⟨hk, hk.2⟩ : _ ∧ k_ ≠ gb236))) (fun _ hk => hk.2) (.string t223)) (fun _ hk => hk.2) (.string t224)) (fun _ hk => hk.2) (.int .u8 t226)) (fun _ hk => hk.2) (.int .i64 t227)) (fun _ hk => hk.2) (.int .i64 t228)) (fun _ hk => hk.2) (.int .i64 t229)) (fun _ hk => hk.2) (.int .i64 t230)) (fun _ hk => hk.2) (.slice Ao10 t231.length co10)) (fun _ hk => ⟨hk.1.1.1.1, ⟨hk.1.1.1.2.1, ⟨hk.1.1.1.2.2.1, ⟨hk.1.1.1.2.2.2, ⟨hk.1.1.2, hk.1.2⟩⟩⟩⟩⟩)⟩, ⟨by (with_reducible repeat (first | refine blk_drewN ?_ _ | refine blk_drew ?_ | refine blk_alloc ?_ _)); refine blk_far ?_ NB235_236.out _; (with_reducible repeat (first | refine blk_drewN ?_ _ | refine blk_drew ?_ | refine blk_alloc ?_ _)); refine blk_far ?_ NB235_236.out _; (with_reducible repeat (first | refine blk_drewN ?_ _ | refine blk_drew ?_ | refine blk_alloc ?_ _)); refine blk_far ?_ NB235_236.out _; (with_reducible repeat (first | refine blk_drewN ?_ _ | refine blk_drew ?_ | refine blk_alloc ?_ _)); refine blk_far ?_ NB235_236.out _; (with_reducible repeat (first | refine blk_drewN ?_ _ | refine blk_drew ?_ | refine blk_alloc ?_ _)); refine blk_far ?_ NB235_236.out _; (with_reducible repeat (first | refine blk_drewN ?_ _ | refine blk_drew ?_ | refine blk_alloc ?_ _)); refine blk_far ?_ NB235_236.out _; (with_reducible repeat (first | refine blk_drewN ?_ _ | refine blk_drew ?_ | refine blk_alloc ?_ _)); refine blk_far ?_ NB235_236.out _; (with_reducible repeat (first | refine blk_drewN ?_ _ | refine blk_drew ?_ | refine blk_alloc ?_ _)); refine blk_far ?_ NB235_236.out _; (with_reducible repeat (first | refine blk_drewN ?_ _ | refine blk_drew ?_ | refine blk_alloc ?_ _)); exact BK235.out⟩, ⟨by (with_reducible repeat (first | refine blk_drewN ?_ _ | refine blk_drew ?_ | refine blk_alloc ?_ _)); refine blk_put (cs := #[.string t223, .string t224, .int .u8 t226, .int .i64 t227, .int .i64 t228, .int .i64 t229, .int .i64 t230, .slice none 0 0]) ?_ 7 _ rfl; (with_reducible repeat (first | refine blk_drewN ?_ _ | refine blk_drew ?_ | refine blk_alloc ?_ _)); refine blk_put (cs := #[.string t223, .string t224, .int .u8 t226, .int .i64 t227, .int .i64 t228, .int .i64 t229, .int .i64 0, .slice none 0 0]) ?_ 6 _ rfl; (with_reducible repeat (first | refine blk_drewN ?_ _ | refine blk_drew ?_ | refine blk_alloc ?_ _)); refine blk_put (cs := #[.string t223, .string t224, .int .u8 t226, .int .i64 t227, .int .i64 t228, .int .i64 0, .int .i64 0, .slice none 0 0]) ?_ 5 _ rfl; (with_reducible repeat (first | refine blk_drewN ?_ _ | refine blk_drew ?_ | refine blk_alloc ?_ _)); refine blk_put (cs := #[.string t223, .string t224, .int .u8 t226, .int .i64 t227, .int .i64 0, .int .i64 0, .int .i64 0, .slice none 0 0]) ?_ 4 _ rfl; (with_reducible repeat (first | refine blk_drewN ?_ _ | refine blk_drew ?_ | refine blk_alloc ?_ _)); refine blk_put (cs := #[.string t223, .string t224, .int .u8 t226, .int .i64 0, .int .i64 0, .int .i64 0, .int .i64 0, .slice none 0 0]) ?_ 3 _ rfl; (with_reducible repeat (first | refine blk_drewN ?_ _ | refine blk_drew ?_ | refine blk_alloc ?_ _)); refine blk_put (cs := #[.string t223, .string t224, .int .u8 0, .int .i64 0, .int .i64 0, .int .i64 0, .int .i64 0, .slice none 0 0]) ?_ 2 _ rfl; (with_reducible repeat (first | refine blk_drewN ?_ _ | refine blk_drew ?_ | refine blk_alloc ?_ _)); refine blk_put (cs := #[.string t223, .string (⟨#[]⟩ : ByteArray), .int .u8 0, .int .i64 0, .int .i64 0, .int .i64 0, .int .i64 0, .slice none 0 0]) ?_ 1 _ rfl; (with_reducible repeat (first | refine blk_drewN ?_ _ | refine blk_drew ?_ | refine blk_alloc ?_ _)); refine blk_put (cs := #[.string (⟨#[]⟩ : ByteArray), .string (⟨#[]⟩ : ByteArray), .int .u8 0, .int .i64 0, .int .i64 0, .int .i64 0, .int .i64 0, .slice none 0 0]) ?_ 0 _ rfl; (with_reducible repeat (first | refine blk_drewN ?_ _ | refine blk_drew ?_ | refine blk_alloc ?_ _)); exact BK236.out⟩, ⟨wb2_ HB.out GE235.out GE236.out⟩⟩
   case round =>
    clear H'
    try clear c1
    try clear c2
    try clear p2
    try clear q2
    try clear hx2
    try clear c3
    try clear c3b0
    try clear c4
    try clear c4b0
    try clear c6
    try clear c6b0
    try clear c6b1
    try clear p6
    try clear c12
    try clear c13
    try clear hcz13_0
    try clear hcz13_1
    try clear hcz13_2
    try clear hcz13_3
    try clear hcz13_4
    try clear hcz13_5
    try clear hcz13_6
    try clear hcz13_7
    try clear hcz14_0
    try clear hcz14_1
    try clear hcz14_2
    try clear hcz14_3
    try clear hcz14_4
    try clear hcz14_5
    try clear hcz14_6
    try clear hcz14_7
    try clear hcz14_8
    try clear hcz9_0
    try clear hcz9_1
    try clear hcz9_2
    try clear hcz9_3
    try clear hcz9_4
    try clear hcz9_5
    try clear hcz9_6
    try clear hcz9_7
    try clear hcz9_8
    try clear hfz13_0
    try clear hfz13_1
    try clear hfz13_2
    try clear hfz13_3
    try clear hfz13_4
    try clear hfz13_5
    try clear hfz13_6
    try clear hfz13_7
    try clear hfz14_0
    try clear hfz14_1
    try clear hfz14_2
    try clear hfz14_3
    try clear hfz14_4
    try clear hfz14_5
    try clear hfz14_6
    try clear hfz14_7
    try clear hfz14_8
    try clear hfz9_0
    try clear hfz9_1
    try clear hfz9_2
    try clear hfz9_3
    try clear hfz9_4
    try clear hfz9_5
    try clear hfz9_6
    try clear hfz9_7
    try clear hfz9_8
    try clear hx222_0
    try clear p2
    try clear p222
    try clear q222
    obtain ⟨x12_2, rfl, HA, HK2, HO_0, HO_5, HO_6, HO_7, HO_236008, HO_237007, BK235, BK236, HB⟩ := hrel
    cases gk with
    | zero => exact absurd HA.out (by simp [bindleref08_Members.l1])
    | succ k2 =>
     have H := HA.out
     clear HA
     simp only [bindleref08_Members.l1] at H
     by_cases c15 : x12_2 < (x6_1.length : Int)
     ·rw [if_pos c15] at H
      have c15b0 : decide (x12_2 < (x6_1.length : Int)) = true := decide_eq_true c15
      clear c15
      by_cases c16 : 0 ≤ x12_2
      rotate_left
      ·rw [if_neg c16] at H
       exact absurd H (by simp)
      rw [if_pos c16] at H
      have c16b0 : decide (0 ≤ x12_2) = true := decide_eq_true c16
      clear c16
      by_cases c17 : (rdOf ByteArray.empty x6_1 x12_2).toList = t225.toList
      rotate_left
      ·rw [if_neg c17] at H
       have c17b0 : ((rdOf ByteArray.empty x6_1 x12_2).toList == t225.toList) = false := beq_eq_false_iff_ne.mpr c17
       have c17b1 : ((rdOf ByteArray.empty x6_1 x12_2).toList != t225.toList) = true := bne_iff_ne.mpr c17
       have H' := A0_ H
       clear H
       try go_wp2
       have n0_ := A0_ (V1_ HO_0.out)
       have n1_ := A0_ (Kd.N_drew HO_5.out)
       have n2_ := A0_ (R1_ HO_6.out)
       have n3_ := A0_ (R1_ HO_7.out)
       have n4_ := A0_ (V1_ HO_236008.out)
       have n5_ := A0_ (V1_ HO_237007.out)
       have n6_ := A0_ (blk_drew BK235.out)
       have n7_ := A0_ (blk_drew BK236.out)
       have n8_ := A0_ (b1_ HB.out)
       clear HO_0
       clear HO_5
       clear HO_6
       clear HO_7
       clear HO_236008
       clear HO_237007
       clear BK235
       clear BK236
       clear HB
       have HO_0 := n0_
       have HO_5 := n1_
       have HO_6 := n2_
       have HO_7 := n3_
       have HO_236008 := n4_
       have HO_237007 := n5_
       have BK235 := n6_
       have BK236 := n7_
       have HB := n8_
       clear n0_ n1_ n2_ n3_ n4_ n5_ n6_ n7_ n8_
       obtain ⟨Ao35, co35, eo35⟩ := Kd.R_slice HO_6.out
       (first | subst eo35 | (injection eo35 with f1_ f2_ f3_; have f4_ := f1_.symm; have f5_ := f3_.symm; clear f1_ f2_ f3_; subst f4_; subst f5_))
       have p237 : 0 ≤ (x12_2 : Int) := wd_
       have q237 : x12_2 < (x6_1.length : Int) := wd_
       obtain ⟨ad237, e237, hx237_0⟩ := Kd.at_string (Kd.R_reads' HO_6.out).2.2 x12_2 p237 q237
       cases e237
       replace p237 := eq_true p237
       replace q237 := eq_true q237
       refine start_ (n := 13) (S := fun w' => w'.cell? ⟨gb235, 0, none⟩ = some (.string t223) ∧ w'.cell? ⟨gb235, 1, none⟩ = some (.string t224) ∧ w'.cell? ⟨gb235, 2, none⟩ = some (.string t225) ∧ w'.cell? ⟨gb235, 3, none⟩ = some (.int .u8 t226) ∧ w'.cell? ⟨gb235, 4, none⟩ = some (.int .i64 t227) ∧ w'.cell? ⟨gb235, 5, none⟩ = some (.int .i64 t228) ∧ w'.cell? ⟨gb235, 6, none⟩ = some (.int .i64 t229) ∧ w'.cell? ⟨gb235, 7, none⟩ = some (.int .i64 t230) ∧ w'.cell? ⟨gb235, 8, none⟩ = some (.slice Ao10 t231.length co10) ∧ w'.cell? (ad237.add (x12_2).toNat) = some (.string (rdOf ByteArray.empty x6_1 x12_2))) (ds := []) q13_0 (by kernel_rfl) rfl rfl ⟨(bc_ BK235.out 0).trans rfl, (bc_ BK235.out 1).trans rfl, (bc_ BK235.out 2).trans rfl, (bc_ BK235.out 3).trans rfl, (bc_ BK235.out 4).trans rfl, (bc_ BK235.out 5).trans rfl, (bc_ BK235.out 6).trans rfl, (bc_ BK235.out 7).trans rfl, (bc_ BK235.out 8).trans rfl, hx237_0⟩ (fun hHeld => ?_); refine with_tabW bindleref08_Members.tab10 bindleref08_Members.bits10 (fun HT_ HW_ => ?_)
       generalize wr.drew = w34 at HO_0 HO_5 HO_6 HO_7 HO_236008 HO_237007 BK235 BK236 HB hx237_0 hHeld ⊢
       refine pur_ (i := 0) (N := some 42) q13_1 (any_of HT_.out (by kernel_rfl)) ?_
       refine pur_ (i := 1) (N := some 43) q13_2 (any_of HT_.out (by kernel_rfl)) ?_
       refine pur_ (i := 2) (N := some 44) q13_3 (any_of HT_.out (by kernel_rfl)) ?_
       refine pur_ (i := 3) (N := some 45) q13_4 (any_of HT_.out (by kernel_rfl)) ?_
       refine pur_ (i := 4) (N := some 46) q13_5 (any_of HT_.out (by kernel_rfl)) ?_
       refine pur_ (i := 5) (N := some 47) q13_6 (any_of HT_.out (by kernel_rfl)) ?_
       refine pur_ (i := 6) (N := some 48) q13_7 (any_of HT_.out (by kernel_rfl)) ?_
       refine pur_ (i := 7) (N := some 49) q13_8 (any_of HT_.out (by kernel_rfl)) ?_
       refine pur_ (i := 9) (N := some 51) q13_9 (any_of HT_.out (by kernel_rfl)) ?_
       refine take_ (i := 8) (N := some 50) (v := ?_) (a' := ?_) q13_10 rfl rfl (take_ofW HT_.out HW_.out (by kernel_rfl)) (fun _ _ _ h => h) (Or.inl ⟨by rfl, ?_⟩) hHeld ?_ ?_
       rotate_left
       ·rintro w' ⟨s0, s1, s2, s3, s4, s5, s6, s7, s8, s9⟩
        go_simp
        with_reducible rfl
       rotate_left
       ·simp only [Act.put, List.setIfInBounds_toArray, List.set_cons_zero, List.set_cons_succ, i64_w, i32_w]
        rfl
       refine take_ (i := 10) (N := some 52) (v := ?_) (a' := ?_) q13_11 rfl rfl (take_ofW HT_.out HW_.out (by kernel_rfl)) (fun _ _ _ h => h) (Or.inl ⟨by rfl, ?_⟩) hHeld ?_ ?_
       rotate_left
       ·rintro w' ⟨s0, s1, s2, s3, s4, s5, s6, s7, s8, s9⟩
        go_simp
        with_reducible rfl
       rotate_left
       ·simp only [Act.put, List.setIfInBounds_toArray, List.set_cons_zero, List.set_cons_succ, i64_w, i32_w]
        rfl
       refine pur_ (i := 11) (N := some 53) q13_12 (any_of HT_.out (by kernel_rfl)) ?_
       refine pur_ (i := 12) (N := some 54) q13_13 (any_of HT_.out (by kernel_rfl)) ?_
       refine done_ (done_of HT_.out (by kernel_rfl)) ?_
       try go_wp2
       go_roundg k2
       case measure => have := HK1.out; have := HK2.out; omega
       case rel => exact ⟨(wrap64 (x12_2 + 1)), wr_, H', ⟨by have := HK1.out; have := HK2.out; omega⟩, ⟨wV_ HO_0.out⟩, ⟨wN_ HO_5.out⟩, ⟨wR_ HO_6.out⟩, ⟨wR_ HO_7.out⟩, ⟨wV_ HO_236008.out⟩, ⟨wV_ HO_237007.out⟩, ⟨wB_ BK235.out⟩, ⟨wB_ BK236.out⟩, ⟨wb2_ HB.out GE235.out GE236.out⟩⟩
      rw [if_pos c17] at H
      have c17b0 : ((rdOf ByteArray.empty x6_1 x12_2).toList == t225.toList) = true := beq_iff_eq.mpr c17
      have c17b1 : ((rdOf ByteArray.empty x6_1 x12_2).toList != t225.toList) = false := bne_eq_false_iff_eq.mpr c17
      clear c17
      by_cases c18 : x12_2 < (x7_1.length : Int)
      rotate_left
      ·rw [if_neg c18] at H
       exact absurd H (by simp)
      rw [if_pos c18] at H
      have c18b0 : decide (x12_2 < (x7_1.length : Int)) = true := decide_eq_true c18
      clear c18
      obtain ⟨y239, hy239⟩ : ∃ y_ : List (S43), y_ = (([(⟨t223, rdOf ByteArray.empty x7_1 x12_2, 49, (⟨t227, t228, t229, t230⟩ : S40), ([] : List Int)⟩ : S43)] : List (S43))) := ⟨_, rfl⟩
      replace H : (if x5_1.length + y239.length < 1466015503701 then (bindleref08_Members.l0 k2 l0 l1 (x5_1 ++ y239) x6_1 x7_1 (wrap64 (x8_1 + 1))) else (none)) = some r := by first | (rw [hy239]; with_reducible exact H) | (have H2_ := (Option.bind_some _ _).symm.trans H; rw [hy239]; with_reducible exact H2_) | (have H2_ := (Option.bind_some _ _).symm.trans H; with_reducible exact H2_) | with_reducible exact H | (rw [hy239]; exact H) | exact H
      have Ny239 := A0_ hy239
      clear hy239
      by_cases c19 : x5_1.length + y239.length < 1466015503701
      rotate_left
      ·rw [if_neg c19] at H
       exact absurd H (by simp)
      rw [if_pos c19] at H
      have LMc19 := A0_ c19
      clear c19
      obtain ⟨y242, hy242⟩ : ∃ y_ : List (S43), y_ = (x5_1 ++ y239) := ⟨_, rfl⟩
      replace H : (bindleref08_Members.l0 k2 l0 l1 y242 x6_1 x7_1 (wrap64 (x8_1 + 1))) = some r := by first | (rw [hy242]; with_reducible exact H) | (have H2_ := (Option.bind_some _ _).symm.trans H; rw [hy242]; with_reducible exact H2_) | (have H2_ := (Option.bind_some _ _).symm.trans H; with_reducible exact H2_) | with_reducible exact H | (rw [hy242]; exact H) | exact H
      have Ny242 := A0_ hy242
      clear hy242
      have H' := A0_ H
      clear H
      try go_wp2
      have n0_ := A0_ (V1_ HO_0.out)
      have n1_ := A0_ (Kd.N_drew HO_5.out)
      have n2_ := A0_ (R1_ HO_6.out)
      have n3_ := A0_ (R1_ HO_7.out)
      have n4_ := A0_ (V1_ HO_236008.out)
      have n5_ := A0_ (V1_ HO_237007.out)
      have n6_ := A0_ (blk_drew BK235.out)
      have n7_ := A0_ (blk_drew BK236.out)
      have n8_ := A0_ (b1_ HB.out)
      clear HO_0
      clear HO_5
      clear HO_6
      clear HO_7
      clear HO_236008
      clear HO_237007
      clear BK235
      clear BK236
      clear HB
      have HO_0 := n0_
      have HO_5 := n1_
      have HO_6 := n2_
      have HO_7 := n3_
      have HO_236008 := n4_
      have HO_237007 := n5_
      have BK235 := n6_
      have BK236 := n7_
      have HB := n8_
      clear n0_ n1_ n2_ n3_ n4_ n5_ n6_ n7_ n8_
      obtain ⟨Ao21, co21, eo21⟩ := Kd.R_slice HO_6.out
      (first | subst eo21 | (injection eo21 with f1_ f2_ f3_; have f4_ := f1_.symm; have f5_ := f3_.symm; clear f1_ f2_ f3_; subst f4_; subst f5_))
      have p237 : 0 ≤ (x12_2 : Int) := wd_
      have q237 : x12_2 < (x6_1.length : Int) := wd_
      obtain ⟨ad237, e237, hx237_0⟩ := Kd.at_string (Kd.R_reads' HO_6.out).2.2 x12_2 p237 q237
      cases e237
      replace p237 := eq_true p237
      replace q237 := eq_true q237
      refine start_ (n := 13) (S := fun w' => w'.cell? ⟨gb235, 0, none⟩ = some (.string t223) ∧ w'.cell? ⟨gb235, 1, none⟩ = some (.string t224) ∧ w'.cell? ⟨gb235, 2, none⟩ = some (.string t225) ∧ w'.cell? ⟨gb235, 3, none⟩ = some (.int .u8 t226) ∧ w'.cell? ⟨gb235, 4, none⟩ = some (.int .i64 t227) ∧ w'.cell? ⟨gb235, 5, none⟩ = some (.int .i64 t228) ∧ w'.cell? ⟨gb235, 6, none⟩ = some (.int .i64 t229) ∧ w'.cell? ⟨gb235, 7, none⟩ = some (.int .i64 t230) ∧ w'.cell? ⟨gb235, 8, none⟩ = some (.slice Ao10 t231.length co10) ∧ w'.cell? (ad237.add (x12_2).toNat) = some (.string (rdOf ByteArray.empty x6_1 x12_2))) (ds := []) q13_0 (by kernel_rfl) rfl rfl ⟨(bc_ BK235.out 0).trans rfl, (bc_ BK235.out 1).trans rfl, (bc_ BK235.out 2).trans rfl, (bc_ BK235.out 3).trans rfl, (bc_ BK235.out 4).trans rfl, (bc_ BK235.out 5).trans rfl, (bc_ BK235.out 6).trans rfl, (bc_ BK235.out 7).trans rfl, (bc_ BK235.out 8).trans rfl, hx237_0⟩ (fun hHeld => ?_); refine with_tabW bindleref08_Members.tab10 bindleref08_Members.bits10 (fun HT_ HW_ => ?_)
      generalize wr.drew = w20 at HO_0 HO_5 HO_6 HO_7 HO_236008 HO_237007 BK235 BK236 HB hx237_0 hHeld ⊢
      refine pur_ (i := 0) (N := some 42) q13_1 (any_of HT_.out (by kernel_rfl)) ?_
      refine pur_ (i := 1) (N := some 43) q13_2 (any_of HT_.out (by kernel_rfl)) ?_
      refine pur_ (i := 2) (N := some 44) q13_3 (any_of HT_.out (by kernel_rfl)) ?_
      refine pur_ (i := 3) (N := some 45) q13_4 (any_of HT_.out (by kernel_rfl)) ?_
      refine pur_ (i := 4) (N := some 46) q13_5 (any_of HT_.out (by kernel_rfl)) ?_
      refine pur_ (i := 5) (N := some 47) q13_6 (any_of HT_.out (by kernel_rfl)) ?_
      refine pur_ (i := 6) (N := some 48) q13_7 (any_of HT_.out (by kernel_rfl)) ?_
      refine pur_ (i := 7) (N := some 49) q13_8 (any_of HT_.out (by kernel_rfl)) ?_
      refine pur_ (i := 9) (N := some 51) q13_9 (any_of HT_.out (by kernel_rfl)) ?_
      refine take_ (i := 8) (N := some 50) (v := ?_) (a' := ?_) q13_10 rfl rfl (take_ofW HT_.out HW_.out (by kernel_rfl)) (fun _ _ _ h => h) (Or.inl ⟨by rfl, ?_⟩) hHeld ?_ ?_
      rotate_left
      ·rintro w' ⟨s0, s1, s2, s3, s4, s5, s6, s7, s8, s9⟩
       go_simp
       with_reducible rfl
      rotate_left
      ·simp only [Act.put, List.setIfInBounds_toArray, List.set_cons_zero, List.set_cons_succ, i64_w, i32_w]
       rfl
      refine take_ (i := 10) (N := some 52) (v := ?_) (a' := ?_) q13_11 rfl rfl (take_ofW HT_.out HW_.out (by kernel_rfl)) (fun _ _ _ h => h) (Or.inl ⟨by rfl, ?_⟩) hHeld ?_ ?_
      rotate_left
      ·rintro w' ⟨s0, s1, s2, s3, s4, s5, s6, s7, s8, s9⟩
       go_simp
       with_reducible rfl
      rotate_left
      ·simp only [Act.put, List.setIfInBounds_toArray, List.set_cons_zero, List.set_cons_succ, i64_w, i32_w]
       rfl
      refine pur_ (i := 11) (N := some 53) q13_12 (any_of HT_.out (by kernel_rfl)) ?_
      refine pur_ (i := 12) (N := some 54) q13_13 (any_of HT_.out (by kernel_rfl)) ?_
      refine done_ (done_of HT_.out (by kernel_rfl)) ?_
      try go_wp2
      have n0_ := A0_ (V1_ HO_0.out)
      have n1_ := A0_ (Kd.N_drew HO_5.out)
      have n2_ := A0_ (R1_ HO_6.out)
      have n3_ := A0_ (R1_ HO_7.out)
      have n4_ := A0_ (V1_ HO_236008.out)
      have n5_ := A0_ (V1_ HO_237007.out)
      have n6_ := A0_ (blk_drew BK235.out)
      have n7_ := A0_ (blk_drew BK236.out)
      have n8_ := A0_ (b1_ HB.out)
      clear HO_0
      clear HO_5
      clear HO_6
      clear HO_7
      clear HO_236008
      clear HO_237007
      clear BK235
      clear BK236
      clear HB
      have HO_0 := n0_
      have HO_5 := n1_
      have HO_6 := n2_
      have HO_7 := n3_
      have HO_236008 := n4_
      have HO_237007 := n5_
      have BK235 := n6_
      have BK236 := n7_
      have HB := n8_
      clear n0_ n1_ n2_ n3_ n4_ n5_ n6_ n7_ n8_
      obtain ⟨Ao23, co23, eo23⟩ := Kd.R_slice HO_7.out
      (first | subst eo23 | (injection eo23 with f1_ f2_ f3_; have f4_ := f1_.symm; have f5_ := f3_.symm; clear f1_ f2_ f3_; subst f4_; subst f5_))
      have p238 : 0 ≤ (x12_2 : Int) := wd_
      have q238 : x12_2 < (x7_1.length : Int) := wd_
      obtain ⟨ad238, e238, hx238_0⟩ := Kd.at_string (Kd.R_reads' HO_7.out).2.2 x12_2 p238 q238
      cases e238
      replace p238 := eq_true p238
      replace q238 := eq_true q238
      refine start_ (n := 10) (S := fun w' => w'.cell? (ad238.add (x12_2).toNat) = some (.string (rdOf ByteArray.empty x7_1 x12_2))) (ds := []) q13_14 (by kernel_rfl) rfl rfl (hx238_0) (fun hHeld => ?_); refine with_tabW bindleref08_Members.tab13 bindleref08_Members.bits13 (fun HT_ HW_ => ?_)
      generalize w20.drew = w22 at HO_0 HO_5 HO_6 HO_7 HO_236008 HO_237007 BK235 BK236 HB hx238_0 hHeld ⊢
      refine pur_ (i := 0) (N := some 61) q13_15 (any_of HT_.out (by kernel_rfl)) ?_
      refine pur_ (i := 1) (N := some 62) q13_16 (any_of HT_.out (by kernel_rfl)) ?_
      refine pur_ (i := 2) (N := some 63) q13_17 (any_of HT_.out (by kernel_rfl)) ?_
      refine pur_ (i := 4) (N := some 65) q13_18 (any_of HT_.out (by kernel_rfl)) ?_
      refine take_ (i := 3) (N := some 64) (v := ?_) (a' := ?_) q13_19 rfl rfl (take_ofW HT_.out HW_.out (by kernel_rfl)) (fun _ _ _ h => h) (Or.inl ⟨by rfl, ?_⟩) hHeld ?_ ?_
      rotate_left
      ·intro w' s0
       go_simp
       with_reducible rfl
      rotate_left
      ·simp only [Act.put, List.setIfInBounds_toArray, List.set_cons_zero, List.set_cons_succ, i64_w, i32_w]
       rfl
      refine one_ (i := 5) (N := none) q13_20 rfl rfl (one_of HT_.out (by kernel_rfl)) (by decide) (fun K hK => ?_)
      have hs24 : w22.cell? ⟨gb236, 2, none⟩ = some (.int .u8 t226) := (bc_ BK236.out 2).trans rfl
      have hfs24 := bf_ BK236.out 2
      have hns24_0 := NB235_236.out
      have hms24_0 := NB236_235.out
      refine skip_ (w1 := ?_) (by rfl) rfl ?_ ?_
      rotate_left
      ·go_simp
       rfl
      refine hK.out _ _ (((cell_far (p := ⟨gb236, _, none⟩) (by first | exact Kd.own_blk (Kd.R_ne HO_7.out BK236.out (by decide)) | (rw [add_block]; exact Kd.own_blk (Kd.R_ne HO_7.out BK236.out (by decide))) | (show (Addr.add _ _).block ≠ _; rw [add_block]; exact Kd.own_blk (Kd.R_ne HO_7.out BK236.out (by decide))) | (dsimp only; exact Kd.own_blk (Kd.R_ne HO_7.out BK236.out (by decide)))) _).trans (hHeld))) (fun hHeld => ?_)
      clear hK K
      refine pur_ (i := 6) (N := some 66) q13_21 (any_of HT_.out (by kernel_rfl)) ?_
      refine one_ (i := 7) (N := none) q13_22 rfl rfl (one_of HT_.out (by kernel_rfl)) (by decide) (fun K hK => ?_)
      have hs25 : w22.cell? ⟨gb236, 1, none⟩ = some (.string t224) := (bc_ BK236.out 1).trans rfl
      have hfs25 := bf_ BK236.out 1
      have hns25_0 := NB235_236.out
      have hms25_0 := NB236_235.out
      refine skip_ (w1 := ?_) (by rfl) rfl ?_ ?_
      rotate_left
      ·go_simp
       rfl
      refine hK.out _ _ (((cell_far (p := ⟨gb236, _, none⟩) (by first | exact Kd.own_blk (Kd.R_ne HO_7.out BK236.out (by decide)) | (rw [add_block]; exact Kd.own_blk (Kd.R_ne HO_7.out BK236.out (by decide))) | (show (Addr.add _ _).block ≠ _; rw [add_block]; exact Kd.own_blk (Kd.R_ne HO_7.out BK236.out (by decide))) | (dsimp only; exact Kd.own_blk (Kd.R_ne HO_7.out BK236.out (by decide)))) _).trans (hHeld))) (fun hHeld => ?_)
      clear hK K
      refine pur_ (i := 8) (N := some 67) q13_23 (any_of HT_.out (by kernel_rfl)) ?_
      refine one_ (i := 9) (N := none) q13_24 rfl rfl (one_of HT_.out (by kernel_rfl)) (by decide) (fun K hK => ?_)
      have hs26 : w22.cell? ⟨gb236, 7, none⟩ = some (.slice Ao10 t231.length co10) := (bc_ BK236.out 7).trans rfl
      have hfs26 := bf_ BK236.out 7
      have hns26_0 := NB235_236.out
      have hms26_0 := NB236_235.out
      refine skip_ (w1 := ?_) (by rfl) rfl ?_ ?_
      rotate_left
      ·go_simp
       rfl
      refine hK.out _ _ (((cell_far (p := ⟨gb236, _, none⟩) (by first | exact Kd.own_blk (Kd.R_ne HO_7.out BK236.out (by decide)) | (rw [add_block]; exact Kd.own_blk (Kd.R_ne HO_7.out BK236.out (by decide))) | (show (Addr.add _ _).block ≠ _; rw [add_block]; exact Kd.own_blk (Kd.R_ne HO_7.out BK236.out (by decide))) | (dsimp only; exact Kd.own_blk (Kd.R_ne HO_7.out BK236.out (by decide)))) _).trans (hHeld))) (fun hHeld => ?_)
      clear hK K
      refine done_ (done_of HT_.out (by kernel_rfl)) ?_
      have n0_ : Aside0 (Kd.V k49 49 (((w22.setCell ⟨gb236, 2, none⟩ (.int .u8 49)).setCell ⟨gb236, 1, none⟩ (.string (rdOf ByteArray.empty x7_1 x12_2))).setCell ⟨gb236, 7, none⟩ (.slice none 0 0)) w.heap.size (fun k_ => (P0_ k_ ∨ w.heap.size ≤ k_) ∧ some k_ ≠ (u5 : Value).ownBlock ∧ some k_ ≠ (.slice (some ad237) x6_1.length co21 : Value).ownBlock ∧ some k_ ≠ (.slice (some ad238) x7_1.length co23 : Value).ownBlock ∧ k_ ≠ gb235 ∧ k_ ≠ gb236) (.slice A0 l0.length c0) l0) := ⟨by (with_reducible repeat (first | apply Va_ | apply VN_ | apply V1_)); exact Kd.V_mono (Kd.V_far (p := ⟨gb236, 7, none⟩) (Kd.V_far (p := ⟨gb236, 1, none⟩) (Kd.V_far (p := ⟨gb236, 2, none⟩) (Kd.V_mono HO_0.out (fun k_ hk => (⟨hk, hk.2.2.2.2.2⟩ : _ ∧ k_ ≠ gb236))) (fun _ hk => hk.2) (.int .u8 49)) (fun _ hk => hk.2) (.string (rdOf ByteArray.empty x7_1 x12_2))) (fun _ hk => hk.2) (.slice none 0 0)) (fun _ hk => ⟨hk.1.1, ⟨hk.1.2.1, ⟨hk.1.2.2.1, ⟨hk.1.2.2.2.1, ⟨hk.1.2.2.2.2.1, hk.1.2.2.2.2.2⟩⟩⟩⟩⟩)⟩
      have n1_ : Aside0 (Kd.N k43 43 (((w22.setCell ⟨gb236, 2, none⟩ (.int .u8 49)).setCell ⟨gb236, 1, none⟩ (.string (rdOf ByteArray.empty x7_1 x12_2))).setCell ⟨gb236, 7, none⟩ (.slice none 0 0)) w.heap.size (fun k_ => (P0_ k_ ∨ w.heap.size ≤ k_) ∧ some k_ ≠ (.slice (some ad237) x6_1.length co21 : Value).ownBlock ∧ some k_ ≠ (.slice (some ad238) x7_1.length co23 : Value).ownBlock ∧ k_ ≠ gb235 ∧ k_ ≠ gb236) u5 x5_1) := ⟨by (with_reducible repeat (first | apply Kd.N_alloc | apply Kd.N_drewN | apply Kd.N_drew)); exact Kd.N_mono (Kd.N_far (p := ⟨gb236, 7, none⟩) (Kd.N_far (p := ⟨gb236, 1, none⟩) (Kd.N_far (p := ⟨gb236, 2, none⟩) (Kd.N_mono HO_5.out (fun k_ hk => (⟨hk, hk.2.2.2.2⟩ : _ ∧ k_ ≠ gb236))) (fun _ hk => hk.2) (.int .u8 49)) (fun _ hk => hk.2) (.string (rdOf ByteArray.empty x7_1 x12_2))) (fun _ hk => hk.2) (.slice none 0 0)) (fun _ hk => ⟨hk.1.1, ⟨hk.1.2.1, ⟨hk.1.2.2.1, ⟨hk.1.2.2.2.1, hk.1.2.2.2.2⟩⟩⟩⟩)⟩
      have n2_ : Aside0 (Kd.R Kd.string 9 (((w22.setCell ⟨gb236, 2, none⟩ (.int .u8 49)).setCell ⟨gb236, 1, none⟩ (.string (rdOf ByteArray.empty x7_1 x12_2))).setCell ⟨gb236, 7, none⟩ (.slice none 0 0)) w.heap.size (fun k_ => (w.heap.size ≤ k_) ∧ some k_ ≠ (.slice (some ad238) x7_1.length co23 : Value).ownBlock) (.slice (some ad237) x6_1.length co21) x6_1) := ⟨by (with_reducible repeat (first | apply Ra_ | apply RN_ | apply R1_)); exact Kd.R_mono (Kd.R_far (p := ⟨gb236, 7, none⟩) (Kd.R_far (p := ⟨gb236, 1, none⟩) (Kd.R_far (p := ⟨gb236, 2, none⟩) (Kd.R_types HO_6.out BK236.out (by decide)) (fun _ hk => hk.2) (.int .u8 49)) (fun _ hk => hk.2) (.string (rdOf ByteArray.empty x7_1 x12_2))) (fun _ hk => hk.2) (.slice none 0 0)) (fun _ hk => ⟨hk.1.1, hk.1.2⟩)⟩
      have n3_ : Aside0 (Kd.R Kd.string 9 (((w22.setCell ⟨gb236, 2, none⟩ (.int .u8 49)).setCell ⟨gb236, 1, none⟩ (.string (rdOf ByteArray.empty x7_1 x12_2))).setCell ⟨gb236, 7, none⟩ (.slice none 0 0)) w.heap.size (fun k_ => (w.heap.size ≤ k_) ∧ some k_ ≠ (.slice (some ad237) x6_1.length co21 : Value).ownBlock) (.slice (some ad238) x7_1.length co23) x7_1) := ⟨by (with_reducible repeat (first | apply Ra_ | apply RN_ | apply R1_)); exact Kd.R_mono (Kd.R_far (p := ⟨gb236, 7, none⟩) (Kd.R_far (p := ⟨gb236, 1, none⟩) (Kd.R_far (p := ⟨gb236, 2, none⟩) (Kd.R_types HO_7.out BK236.out (by decide)) (fun _ hk => hk.2) (.int .u8 49)) (fun _ hk => hk.2) (.string (rdOf ByteArray.empty x7_1 x12_2))) (fun _ hk => hk.2) (.slice none 0 0)) (fun _ hk => ⟨hk.1.1, hk.1.2⟩)⟩
      have n4_ : Aside0 (Kd.V (Kd.int .u8) 5 (((w22.setCell ⟨gb236, 2, none⟩ (.int .u8 49)).setCell ⟨gb236, 1, none⟩ (.string (rdOf ByteArray.empty x7_1 x12_2))).setCell ⟨gb236, 7, none⟩ (.slice none 0 0)) w.heap.size (fun k_ => (P0_ k_ ∨ w.heap.size ≤ k_) ∧ some k_ ≠ (u5 : Value).ownBlock ∧ some k_ ≠ (.slice (some ad237) x6_1.length co21 : Value).ownBlock ∧ some k_ ≠ (.slice (some ad238) x7_1.length co23 : Value).ownBlock ∧ k_ ≠ gb235 ∧ k_ ≠ gb236) (.slice Ao10 t231.length co10) t231) := ⟨by (with_reducible repeat (first | apply Va_ | apply VN_ | apply V1_)); exact Kd.V_mono (Kd.V_far (p := ⟨gb236, 7, none⟩) (Kd.V_far (p := ⟨gb236, 1, none⟩) (Kd.V_far (p := ⟨gb236, 2, none⟩) (Kd.V_mono HO_236008.out (fun k_ hk => (⟨hk, hk.2.2.2.2.2⟩ : _ ∧ k_ ≠ gb236))) (fun _ hk => hk.2) (.int .u8 49)) (fun _ hk => hk.2) (.string (rdOf ByteArray.empty x7_1 x12_2))) (fun _ hk => hk.2) (.slice none 0 0)) (fun _ hk => ⟨hk.1.1, ⟨hk.1.2.1, ⟨hk.1.2.2.1, ⟨hk.1.2.2.2.1, ⟨hk.1.2.2.2.2.1, hk.1.2.2.2.2.2⟩⟩⟩⟩⟩)⟩
      have n5_ : Aside0 (Kd.V (Kd.int .u8) 5 (((w22.setCell ⟨gb236, 2, none⟩ (.int .u8 49)).setCell ⟨gb236, 1, none⟩ (.string (rdOf ByteArray.empty x7_1 x12_2))).setCell ⟨gb236, 7, none⟩ (.slice none 0 0)) w.heap.size (fun k_ => (P0_ k_ ∨ w.heap.size ≤ k_) ∧ some k_ ≠ (u5 : Value).ownBlock ∧ some k_ ≠ (.slice (some ad237) x6_1.length co21 : Value).ownBlock ∧ some k_ ≠ (.slice (some ad238) x7_1.length co23 : Value).ownBlock ∧ k_ ≠ gb235 ∧ k_ ≠ gb236) (.slice Ao10 t231.length co10) t231) := ⟨by (with_reducible repeat (first | apply Va_ | apply VN_ | apply V1_)); exact Kd.V_mono (Kd.V_far (p := ⟨gb236, 7, none⟩) (Kd.V_far (p := ⟨gb236, 1, none⟩) (Kd.V_far (p := ⟨gb236, 2, none⟩) (Kd.V_mono HO_237007.out (fun k_ hk => (⟨hk, hk.2.2.2.2.2⟩ : _ ∧ k_ ≠ gb236))) (fun _ hk => hk.2) (.int .u8 49)) (fun _ hk => hk.2) (.string (rdOf ByteArray.empty x7_1 x12_2))) (fun _ hk => hk.2) (.slice none 0 0)) (fun _ hk => ⟨hk.1.1, ⟨hk.1.2.1, ⟨hk.1.2.2.1, ⟨hk.1.2.2.2.1, ⟨hk.1.2.2.2.2.1, hk.1.2.2.2.2.2⟩⟩⟩⟩⟩)⟩
      have n6_ : Aside0 ((((w22.setCell ⟨gb236, 2, none⟩ (.int .u8 49)).setCell ⟨gb236, 1, none⟩ (.string (rdOf ByteArray.empty x7_1 x12_2))).setCell ⟨gb236, 7, none⟩ (.slice none 0 0)).heap[gb235]? = some (.cells #[.string t223, .string t224, .string t225, .int .u8 t226, .int .i64 t227, .int .i64 t228, .int .i64 t229, .int .i64 t230, .slice Ao10 t231.length co10] 49 (0, 0))) := ⟨by (with_reducible repeat (first | refine blk_drewN ?_ _ | refine blk_drew ?_ | refine blk_alloc ?_ _)); refine blk_far ?_ NB235_236.out _; (with_reducible repeat (first | refine blk_drewN ?_ _ | refine blk_drew ?_ | refine blk_alloc ?_ _)); refine blk_far ?_ NB235_236.out _; (with_reducible repeat (first | refine blk_drewN ?_ _ | refine blk_drew ?_ | refine blk_alloc ?_ _)); refine blk_far ?_ NB235_236.out _; (with_reducible repeat (first | refine blk_drewN ?_ _ | refine blk_drew ?_ | refine blk_alloc ?_ _)); exact BK235.out⟩
      have n7_ : Aside0 ((((w22.setCell ⟨gb236, 2, none⟩ (.int .u8 49)).setCell ⟨gb236, 1, none⟩ (.string (rdOf ByteArray.empty x7_1 x12_2))).setCell ⟨gb236, 7, none⟩ (.slice none 0 0)).heap[gb236]? = some (.cells #[.string t223, .string (rdOf ByteArray.empty x7_1 x12_2), .int .u8 49, .int .i64 t227, .int .i64 t228, .int .i64 t229, .int .i64 t230, .slice none 0 0] 43 (0, 0))) := ⟨by (with_reducible repeat (first | refine blk_drewN ?_ _ | refine blk_drew ?_ | refine blk_alloc ?_ _)); refine blk_put (cs := #[.string t223, .string (rdOf ByteArray.empty x7_1 x12_2), .int .u8 49, .int .i64 t227, .int .i64 t228, .int .i64 t229, .int .i64 t230, .slice Ao10 t231.length co10]) ?_ 7 _ rfl; (with_reducible repeat (first | refine blk_drewN ?_ _ | refine blk_drew ?_ | refine blk_alloc ?_ _)); refine blk_put (cs := #[.string t223, .string t224, .int .u8 49, .int .i64 t227, .int .i64 t228, .int .i64 t229, .int .i64 t230, .slice Ao10 t231.length co10]) ?_ 1 _ rfl; (with_reducible repeat (first | refine blk_drewN ?_ _ | refine blk_drew ?_ | refine blk_alloc ?_ _)); refine blk_put (cs := #[.string t223, .string t224, .int .u8 t226, .int .i64 t227, .int .i64 t228, .int .i64 t229, .int .i64 t230, .slice Ao10 t231.length co10]) ?_ 2 _ rfl; (with_reducible repeat (first | refine blk_drewN ?_ _ | refine blk_drew ?_ | refine blk_alloc ?_ _)); exact BK236.out⟩
      have n8_ : Aside0 (Below w.heap.size w (((w22.setCell ⟨gb236, 2, none⟩ (.int .u8 49)).setCell ⟨gb236, 1, none⟩ (.string (rdOf ByteArray.empty x7_1 x12_2))).setCell ⟨gb236, 7, none⟩ (.slice none 0 0))) := ⟨wb2_ HB.out GE235.out GE236.out⟩
      (try clear HO_0)
      (try clear HO_5)
      (try clear HO_6)
      (try clear HO_7)
      (try clear HO_236008)
      (try clear HO_237007)
      (try clear BK235)
      (try clear BK236)
      (try clear HB)
      generalize (((w22.setCell ⟨gb236, 2, none⟩ (.int .u8 49)).setCell ⟨gb236, 1, none⟩ (.string (rdOf ByteArray.empty x7_1 x12_2))).setCell ⟨gb236, 7, none⟩ (.slice none 0 0)) = w27 at n0_ n1_ n2_ n3_ n4_ n5_ n6_ n7_ n8_ ⊢
      have HO_0 := n0_
      have HO_5 := n1_
      have HO_6 := n2_
      have HO_7 := n3_
      have HO_236008 := n4_
      have HO_237007 := n5_
      have BK235 := n6_
      have BK236 := n7_
      have HB := n8_
      clear n0_ n1_ n2_ n3_ n4_ n5_ n6_ n7_ n8_
      have hnb28 := NB236_235.out
      have hnc28 := NB235_236.out
      have hcz29_0 : w27.cell? ⟨gb236, 0, none⟩ = some (.string t223) := (bc_ BK236.out 0).trans rfl
      have hcz29_1 : w27.cell? ⟨gb236, 1, none⟩ = some (.string (rdOf ByteArray.empty x7_1 x12_2)) := (bc_ BK236.out 1).trans rfl
      have hcz29_2 : w27.cell? ⟨gb236, 2, none⟩ = some (.int .u8 49) := (bc_ BK236.out 2).trans rfl
      have hcz29_3 : w27.cell? ⟨gb236, 3, none⟩ = some (.int .i64 t227) := (bc_ BK236.out 3).trans rfl
      have hcz29_4 : w27.cell? ⟨gb236, 4, none⟩ = some (.int .i64 t228) := (bc_ BK236.out 4).trans rfl
      have hcz29_5 : w27.cell? ⟨gb236, 5, none⟩ = some (.int .i64 t229) := (bc_ BK236.out 5).trans rfl
      have hcz29_6 : w27.cell? ⟨gb236, 6, none⟩ = some (.int .i64 t230) := (bc_ BK236.out 6).trans rfl
      have hcz29_7 : w27.cell? ⟨gb236, 7, none⟩ = some (.slice none 0 0) := (bc_ BK236.out 7).trans rfl
      have hfz29_0 := bf_ BK236.out 0
      have hfz29_1 := bf_ BK236.out 1
      have hfz29_2 := bf_ BK236.out 2
      have hfz29_3 := bf_ BK236.out 3
      have hfz29_4 := bf_ BK236.out 4
      have hfz29_5 := bf_ BK236.out 5
      have hfz29_6 := bf_ BK236.out 6
      have hfz29_7 := bf_ BK236.out 7
      try go_wp2_with (first | ((with_reducible refine gate_dst (N := 80) rfl ?_); refine Kd.N_lit k43 _ 43 ?hg (N' := 80) ?hd (xs := ([(⟨t223, rdOf ByteArray.empty x7_1 x12_2, 49, (⟨t227, t228, t229, t230⟩ : S40), ([] : List Int)⟩ : S43)] : List (S43))) (inner := [.string t223, .string (rdOf ByteArray.empty x7_1 x12_2), .int .u8 49, .int .i64 t227, .int .i64 t228, .int .i64 t229, .int .i64 t230, .slice none 0 0]) (ok := (fun k_ => (P0_ k_ ∨ w.heap.size ≤ k_) ∧ some k_ ≠ (u5 : Value).ownBlock ∧ some k_ ≠ (.slice (some ad237) x6_1.length co21 : Value).ownBlock ∧ some k_ ≠ (.slice (some ad238) x7_1.length co23 : Value).ownBlock ∧ k_ ≠ gb235 ∧ k_ ≠ gb236)) (okp := (fun k_ => (P0_ k_ ∨ w.heap.size ≤ k_) ∧ some k_ ≠ (u5 : Value).ownBlock ∧ some k_ ≠ (.slice (some ad237) x6_1.length co21 : Value).ownBlock ∧ some k_ ≠ (.slice (some ad238) x7_1.length co23 : Value).ownBlock ∧ k_ ≠ gb235 ∧ k_ ≠ gb236)) ?hr ?hp (fun _ hk => hk) ((show ∀ k_, w27.heap.size ≤ k_ → (fun k_ => (P0_ k_ ∨ w.heap.size ≤ k_) ∧ some k_ ≠ (u5 : Value).ownBlock ∧ some k_ ≠ (.slice (some ad237) x6_1.length co21 : Value).ownBlock ∧ some k_ ≠ (.slice (some ad238) x7_1.length co23 : Value).ownBlock ∧ k_ ≠ gb235 ∧ k_ ≠ gb236) k_ from fun k_ hk => ⟨(.inr (Nat.le_trans (below_size (wb2_ HB.out GE235.out GE236.out)) hk)), Kd.fresh' (Kd.N_lt (wN_ HO_5.out)) k_ hk, Kd.fresh' (Kd.R_lt (wR_ HO_6.out)) k_ hk, Kd.fresh' (Kd.R_lt (wR_ HO_7.out)) k_ hk, Kd.freshB (g := gb235) (o := .cells #[.string t223, .string t224, .string t225, .int .u8 t226, .int .i64 t227, .int .i64 t228, .int .i64 t229, .int .i64 t230, .slice Ao10 t231.length co10] 49 (0, 0)) (wB_ BK235.out) k_ hk, Kd.freshB (g := gb236) (o := .cells #[.string t223, .string (rdOf ByteArray.empty x7_1 x12_2), .int .u8 49, .int .i64 t227, .int .i64 t228, .int .i64 t229, .int .i64 t230, .slice none 0 0] 43 (0, 0)) (wB_ BK236.out) k_ hk⟩) _ (Nat.le_refl _)) (Below.refl _ _) (Nat.le_refl _) (by simp) ?_; (case hd => rfl); (case hg => rfl); (case hr => first | (go_simp; done) | (go_simp; rfl)); (case hp => exact (Reps.c8 (show Kd.FK k43 _ _ (⟨t223, rdOf ByteArray.empty x7_1 x12_2, 49, (⟨t227, t228, t229, t230⟩ : S40), ([] : List Int)⟩ : S43) [.string t223, .string (rdOf ByteArray.empty x7_1 x12_2), .int .u8 49, .int .i64 t227, .int .i64 t228, .int .i64 t229, .int .i64 t230, .slice none 0 0] from (k43_mkF _ _ (⟨t223, rdOf ByteArray.empty x7_1 x12_2, 49, (⟨t227, t228, t229, t230⟩ : S40), ([] : List Int)⟩ : S43) (Nat.le_refl _) (Kd.F_nil _ _ _))) (Reps.none _ _))); intro v240 w30 ho31 hb hg_ hnew_; clear hg_ hnew_; (first | rw [← Ny239.out] at ho31 | (simp only [Int.reduceToNat] at ho31; rw [← Ny239.out] at ho31)); have n0_ := A0_ (Kd.V_elder' (wV_ HO_0.out) (Kd.N_base ho31) hb); have n1_ := A0_ (Kd.N_elder' (wN_ HO_5.out) (Kd.N_base ho31) hb); have n2_ := A0_ (Rb_ (wR_ HO_6.out) hb); have n3_ := A0_ (Rb_ (wR_ HO_7.out) hb); have n4_ := A0_ (Kd.V_elder' (wV_ HO_236008.out) (Kd.N_base ho31) hb); have n5_ := A0_ (Kd.V_elder' (wV_ HO_237007.out) (Kd.N_base ho31) hb); have n6_ := A0_ (Kd.N_lower ho31 (below_size (wb2_ HB.out GE235.out GE236.out))); have n7_ := A0_ (blk_below (g := gb235) (o := .cells #[.string t223, .string t224, .string t225, .int .u8 t226, .int .i64 t227, .int .i64 t228, .int .i64 t229, .int .i64 t230, .slice Ao10 t231.length co10] 49 (0, 0)) (wB_ BK235.out) hb); have n8_ := A0_ (blk_below (g := gb236) (o := .cells #[.string t223, .string (rdOf ByteArray.empty x7_1 x12_2), .int .u8 49, .int .i64 t227, .int .i64 t228, .int .i64 t229, .int .i64 t230, .slice none 0 0] 43 (0, 0)) (wB_ BK236.out) hb); have n9_ := A0_ (below_step (wb2_ HB.out GE235.out GE236.out) hb); clear HO_0; clear HO_5; clear HO_6; clear HO_7; clear HO_236008; clear HO_237007; clear BK235; clear BK236; clear HB; have HO_0 := n0_; have HO_5 := n1_; have HO_6 := n2_; have HO_7 := n3_; have HO_236008 := n4_; have HO_237007 := n5_; have HO241 := n6_; have BK235 := n7_; have BK236 := n8_; have HB := n9_; clear n0_ n1_ n2_ n3_ n4_ n5_ n6_ n7_ n8_ n9_; clear hb ho31; obtain ⟨Ao33, co33, eo33⟩ := Kd.N_slice HO241.out; subst eo33) | ((with_reducible refine gate_builtin (b := .append) (xs := #[.tmp 78, .tmp 80]) rfl ?_); at_builtin; refine Kd.N_append_rows k43 (w0 := w) w.heap.size rfl (.tmp 78) (.tmp 80) 22 43 (.agg #[(.string ⟨#[]⟩), (.string ⟨#[]⟩), (.int .u8 0), (.int .i64 0), (.int .i64 0), (.int .i64 0), (.int .i64 0), (.slice none 0 0)]) 96 rfl Tryz.underlying22 info43 rfl (by decide) (by omega) u5 x5_1 y239 _ _ _ (fun k_ => (P0_ k_ ∨ w.heap.size ≤ k_) ∧ some k_ ≠ (.slice (some ad237) x6_1.length co21 : Value).ownBlock ∧ some k_ ≠ (.slice (some ad238) x7_1.length co23 : Value).ownBlock ∧ k_ ≠ gb235 ∧ k_ ≠ gb236) (fun k_ => ((fun k_ => (P0_ k_ ∨ w.heap.size ≤ k_) ∧ some k_ ≠ (.slice (some ad237) x6_1.length co21 : Value).ownBlock ∧ some k_ ≠ (.slice (some ad238) x7_1.length co23 : Value).ownBlock ∧ k_ ≠ gb235 ∧ k_ ≠ gb236)) k_ ∧ some k_ ≠ (u5 : Value).ownBlock) rfl rfl ?aO ?aR (fun _ hk => hk) ?aF ?aB ?aS ?aL ?_; (case aR => exact (by skip; exact Kd.N_F (Kd.N_mono (ok' := (fun k_ => ((fun k_ => (P0_ k_ ∨ w.heap.size ≤ k_) ∧ some k_ ≠ (.slice (some ad237) x6_1.length co21 : Value).ownBlock ∧ some k_ ≠ (.slice (some ad238) x7_1.length co23 : Value).ownBlock ∧ k_ ≠ gb235 ∧ k_ ≠ gb236)) k_ ∧ some k_ ≠ (u5 : Value).ownBlock)) (HO241.out) (fun k_ hk => ⟨⟨hk.1, ⟨hk.2.2.1, ⟨hk.2.2.2.1, ⟨hk.2.2.2.2.1, hk.2.2.2.2.2⟩⟩⟩⟩, hk.2.1⟩)))); (case aB => exact (wb2_ HB.out GE235.out GE236.out)); (case aF => exact (fun k_ hk => ⟨(.inr (Nat.le_trans (below_size (wb2_ HB.out GE235.out GE236.out)) hk)), Kd.fresh' (Kd.R_lt (wR_ HO_6.out)) k_ hk, Kd.fresh' (Kd.R_lt (wR_ HO_7.out)) k_ hk, Kd.freshB (g := gb235) (o := .cells #[.string t223, .string t224, .string t225, .int .u8 t226, .int .i64 t227, .int .i64 t228, .int .i64 t229, .int .i64 t230, .slice Ao10 t231.length co10] 49 (0, 0)) (wB_ BK235.out) k_ hk, Kd.freshB (g := gb236) (o := .cells #[.string t223, .string (rdOf ByteArray.empty x7_1 x12_2), .int .u8 49, .int .i64 t227, .int .i64 t228, .int .i64 t229, .int .i64 t230, .slice none 0 0] 43 (0, 0)) (wB_ BK236.out) k_ hk⟩)); (case aO => exact (by (with_reducible repeat (first | apply Kd.N_alloc | apply Kd.N_drewN | apply Kd.N_drew)); exact Kd.N_mono HO_5.out (fun _ hk => ⟨hk.1.1, ⟨hk.1.2.1, ⟨hk.1.2.2.1, ⟨hk.1.2.2.2.1, hk.1.2.2.2.2⟩⟩⟩⟩))); (case aS => exact (below_size (wb2_ HB.out GE235.out GE236.out))); (case aL => have := LMc19.out; omega); intro v243 w32 ho hb hg hat; rw [← Ny242.out] at ho; have n0_ := A0_ (Kd.V_afterv (ok := (fun k_ => (P0_ k_ ∨ w.heap.size ≤ k_) ∧ some k_ ≠ (.slice (some ad237) x6_1.length co21 : Value).ownBlock ∧ some k_ ≠ (.slice (some ad238) x7_1.length co23 : Value).ownBlock ∧ some k_ ≠ (.slice Ao33 y239.length co33 : Value).ownBlock ∧ k_ ≠ gb235 ∧ k_ ≠ gb236)) (by (with_reducible repeat (first | apply Va_ | apply VN_ | apply V1_)); exact Kd.V_mono HO_0.out (fun _ hk => ⟨⟨hk.1.1, ⟨hk.1.2.2.1, ⟨hk.1.2.2.2.1, ⟨hk.2, ⟨hk.1.2.2.2.2.1, hk.1.2.2.2.2.2⟩⟩⟩⟩⟩, hk.1.2.1⟩)) hg hat); have n1_ := A0_ (Kd.R_over' (wR_ HO_6.out) (Kd.N_typed (wN_ HO_5.out)) (by decide) hg); have n2_ := A0_ (Kd.R_over' (wR_ HO_7.out) (Kd.N_typed (wN_ HO_5.out)) (by decide) hg); have n3_ := A0_ (Kd.V_afterv (ok := (fun k_ => (P0_ k_ ∨ w.heap.size ≤ k_) ∧ some k_ ≠ (.slice (some ad237) x6_1.length co21 : Value).ownBlock ∧ some k_ ≠ (.slice (some ad238) x7_1.length co23 : Value).ownBlock ∧ some k_ ≠ (.slice Ao33 y239.length co33 : Value).ownBlock ∧ k_ ≠ gb235 ∧ k_ ≠ gb236)) (by (with_reducible repeat (first | apply Va_ | apply VN_ | apply V1_)); exact Kd.V_mono HO_236008.out (fun _ hk => ⟨⟨hk.1.1, ⟨hk.1.2.2.1, ⟨hk.1.2.2.2.1, ⟨hk.2, ⟨hk.1.2.2.2.2.1, hk.1.2.2.2.2.2⟩⟩⟩⟩⟩, hk.1.2.1⟩)) hg hat); have n4_ := A0_ (Kd.V_afterv (ok := (fun k_ => (P0_ k_ ∨ w.heap.size ≤ k_) ∧ some k_ ≠ (.slice (some ad237) x6_1.length co21 : Value).ownBlock ∧ some k_ ≠ (.slice (some ad238) x7_1.length co23 : Value).ownBlock ∧ some k_ ≠ (.slice Ao33 y239.length co33 : Value).ownBlock ∧ k_ ≠ gb235 ∧ k_ ≠ gb236)) (by (with_reducible repeat (first | apply Va_ | apply VN_ | apply V1_)); exact Kd.V_mono HO_237007.out (fun _ hk => ⟨⟨hk.1.1, ⟨hk.1.2.2.1, ⟨hk.1.2.2.2.1, ⟨hk.2, ⟨hk.1.2.2.2.2.1, hk.1.2.2.2.2.2⟩⟩⟩⟩⟩, hk.1.2.1⟩)) hg hat); have n5_ := A0_ (blk_grown (g := gb235) (o := .cells #[.string t223, .string t224, .string t225, .int .u8 t226, .int .i64 t227, .int .i64 t228, .int .i64 t229, .int .i64 t230, .slice Ao10 t231.length co10] 49 (0, 0)) (wB_ BK235.out) hg (Kd.N_ne HO_5.out BK235.out (by decide))); have n6_ := A0_ (blk_grown (g := gb236) (o := .cells #[.string t223, .string (rdOf ByteArray.empty x7_1 x12_2), .int .u8 49, .int .i64 t227, .int .i64 t228, .int .i64 t229, .int .i64 t230, .slice none 0 0] 43 (0, 0)) (wB_ BK236.out) hg (Kd.N_away HO_5.out (fun _ hk => hk.1.2.2.2.2))); have n7_ := A0_ (Kd.N_afterv (ok := (fun k_ => (P0_ k_ ∨ w.heap.size ≤ k_) ∧ some k_ ≠ (.slice (some ad237) x6_1.length co21 : Value).ownBlock ∧ some k_ ≠ (.slice (some ad238) x7_1.length co23 : Value).ownBlock ∧ k_ ≠ gb235 ∧ k_ ≠ gb236)) (by (with_reducible repeat (first | apply Kd.N_alloc | apply Kd.N_drewN | apply Kd.N_drew)); exact Kd.N_mono HO241.out (fun _ hk => ⟨⟨hk.1, ⟨hk.2.2.1, ⟨hk.2.2.2.1, ⟨hk.2.2.2.2.1, hk.2.2.2.2.2⟩⟩⟩⟩, hk.2.1⟩)) hg hat); have n8_ := A0_ (hb); have n9_ := A0_ (ho); clear HO_0; clear HO_6; clear HO_7; clear HO_236008; clear HO_237007; clear BK235; clear BK236; clear HO241; clear HB; clear HO_5; have HO_0 := n0_; have HO_6 := n1_; have HO_7 := n2_; have HO_236008 := n3_; have HO_237007 := n4_; have BK235 := n5_; have BK236 := n6_; have HO241 := n7_; have HB := n8_; have HO244 := n9_; clear n0_ n1_ n2_ n3_ n4_ n5_ n6_ n7_ n8_ n9_; clear ho hb hg hat))
      go_roundg k2
      case measure => have := HK1.out; have := HK2.out; omega
      case rel => exact ⟨(y242), (x6_1), (x7_1), (wrap64 (x8_1 + 1)), wr_, H', ⟨by have := HK1.out; have := HK2.out; omega⟩, ⟨by (with_reducible repeat (first | apply Va_ | apply VN_ | apply V1_)); exact Kd.V_mono HO_0.out (fun _ hk => ⟨hk.1.1, ⟨hk.2, ⟨hk.1.2.1, hk.1.2.2.1⟩⟩⟩)⟩, ⟨by (with_reducible repeat (first | apply Kd.N_alloc | apply Kd.N_drewN | apply Kd.N_drew)); exact Kd.N_mono HO244.out (fun _ hk => ⟨hk.1, ⟨hk.2.1, hk.2.2.1⟩⟩)⟩, ⟨wR_ HO_6.out⟩, ⟨wR_ HO_7.out⟩, ⟨wb2_ HB.out GE235.out GE236.out⟩⟩
     rw [if_neg c15] at H
     have c15b0 : decide (x12_2 < (x6_1.length : Int)) = false := decide_eq_false c15
     clear c15
     obtain ⟨y245, hy245⟩ : ∃ y_ : List ByteArray, y_ = (([t225] : List ByteArray)) := ⟨_, rfl⟩
     replace H : (if x6_1.length + y245.length < 8796093022208 then ((some (([t223] : List ByteArray) : List ByteArray)).bind fun y251 => (if x7_1.length + y251.length < 8796093022208 then ((some (([(⟨t223, t224, t226, (⟨t227, t228, t229, t230⟩ : S40), t231⟩ : S43)] : List (S43)) : List (S43))).bind fun y257 => (if x5_1.length + y257.length < 1466015503701 then (bindleref08_Members.l0 k2 l0 l1 (x5_1 ++ y257) (x6_1 ++ y245) (x7_1 ++ y251) (wrap64 (x8_1 + 1))) else (none))) else (none))) else (none)) = some r := by first | (rw [hy245]; with_reducible exact H) | (have H2_ := (Option.bind_some _ _).symm.trans H; rw [hy245]; with_reducible exact H2_) | (have H2_ := (Option.bind_some _ _).symm.trans H; with_reducible exact H2_) | with_reducible exact H | (rw [hy245]; exact H) | exact H
     have Ny245 := A0_ hy245
     clear hy245
     by_cases c36 : x6_1.length + y245.length < 8796093022208
     rotate_left
     ·rw [if_neg c36] at H
      exact absurd H (by simp)
     rw [if_pos c36] at H
     have LMc36 := A0_ c36
     clear c36
     obtain ⟨y248, hy248⟩ : ∃ y_ : List ByteArray, y_ = (x6_1 ++ y245) := ⟨_, rfl⟩
     replace H : ((some (([t223] : List ByteArray) : List ByteArray)).bind fun y251 => (if x7_1.length + y251.length < 8796093022208 then ((some (([(⟨t223, t224, t226, (⟨t227, t228, t229, t230⟩ : S40), t231⟩ : S43)] : List (S43)) : List (S43))).bind fun y257 => (if x5_1.length + y257.length < 1466015503701 then (bindleref08_Members.l0 k2 l0 l1 (x5_1 ++ y257) y248 (x7_1 ++ y251) (wrap64 (x8_1 + 1))) else (none))) else (none))) = some r := by first | (rw [hy248]; with_reducible exact H) | (have H2_ := (Option.bind_some _ _).symm.trans H; rw [hy248]; with_reducible exact H2_) | (have H2_ := (Option.bind_some _ _).symm.trans H; with_reducible exact H2_) | with_reducible exact H | (rw [hy248]; exact H) | exact H
     have Ny248 := A0_ hy248
     clear hy248
     obtain ⟨y251, hy251⟩ : ∃ y_ : List ByteArray, y_ = (([t223] : List ByteArray)) := ⟨_, rfl⟩
     replace H : (if x7_1.length + y251.length < 8796093022208 then ((some (([(⟨t223, t224, t226, (⟨t227, t228, t229, t230⟩ : S40), t231⟩ : S43)] : List (S43)) : List (S43))).bind fun y257 => (if x5_1.length + y257.length < 1466015503701 then (bindleref08_Members.l0 k2 l0 l1 (x5_1 ++ y257) y248 (x7_1 ++ y251) (wrap64 (x8_1 + 1))) else (none))) else (none)) = some r := by first | (rw [hy251]; with_reducible exact H) | (have H2_ := (Option.bind_some _ _).symm.trans H; rw [hy251]; with_reducible exact H2_) | (have H2_ := (Option.bind_some _ _).symm.trans H; with_reducible exact H2_) | with_reducible exact H | (rw [hy251]; exact H) | exact H
     have Ny251 := A0_ hy251
     clear hy251
     by_cases c37 : x7_1.length + y251.length < 8796093022208
     rotate_left
     ·rw [if_neg c37] at H
      exact absurd H (by simp)
     rw [if_pos c37] at H
     have LMc37 := A0_ c37
     clear c37
     obtain ⟨y254, hy254⟩ : ∃ y_ : List ByteArray, y_ = (x7_1 ++ y251) := ⟨_, rfl⟩
     replace H : ((some (([(⟨t223, t224, t226, (⟨t227, t228, t229, t230⟩ : S40), t231⟩ : S43)] : List (S43)) : List (S43))).bind fun y257 => (if x5_1.length + y257.length < 1466015503701 then (bindleref08_Members.l0 k2 l0 l1 (x5_1 ++ y257) y248 y254 (wrap64 (x8_1 + 1))) else (none))) = some r := by first | (rw [hy254]; with_reducible exact H) | (have H2_ := (Option.bind_some _ _).symm.trans H; rw [hy254]; with_reducible exact H2_) | (have H2_ := (Option.bind_some _ _).symm.trans H; with_reducible exact H2_) | with_reducible exact H | (rw [hy254]; exact H) | exact H
     have Ny254 := A0_ hy254
     clear hy254
     obtain ⟨y257, hy257⟩ : ∃ y_ : List (S43), y_ = (([(⟨t223, t224, t226, (⟨t227, t228, t229, t230⟩ : S40), t231⟩ : S43)] : List (S43))) := ⟨_, rfl⟩
     replace H : (if x5_1.length + y257.length < 1466015503701 then (bindleref08_Members.l0 k2 l0 l1 (x5_1 ++ y257) y248 y254 (wrap64 (x8_1 + 1))) else (none)) = some r := by first | (rw [hy257]; with_reducible exact H) | (have H2_ := (Option.bind_some _ _).symm.trans H; rw [hy257]; with_reducible exact H2_) | (have H2_ := (Option.bind_some _ _).symm.trans H; with_reducible exact H2_) | with_reducible exact H | (rw [hy257]; exact H) | exact H
     have Ny257 := A0_ hy257
     clear hy257
     by_cases c38 : x5_1.length + y257.length < 1466015503701
     rotate_left
     ·rw [if_neg c38] at H
      exact absurd H (by simp)
     rw [if_pos c38] at H
     have LMc38 := A0_ c38
     clear c38
     obtain ⟨y260, hy260⟩ : ∃ y_ : List (S43), y_ = (x5_1 ++ y257) := ⟨_, rfl⟩
     replace H : (bindleref08_Members.l0 k2 l0 l1 y260 y248 y254 (wrap64 (x8_1 + 1))) = some r := by first | (rw [hy260]; with_reducible exact H) | (have H2_ := (Option.bind_some _ _).symm.trans H; rw [hy260]; with_reducible exact H2_) | (have H2_ := (Option.bind_some _ _).symm.trans H; with_reducible exact H2_) | with_reducible exact H | (rw [hy260]; exact H) | exact H
     have Ny260 := A0_ hy260
     clear hy260
     have H' := A0_ H
     clear H
     try go_wp2
     have n0_ := A0_ (V1_ HO_0.out)
     have n1_ := A0_ (Kd.N_drew HO_5.out)
     have n2_ := A0_ (R1_ HO_6.out)
     have n3_ := A0_ (R1_ HO_7.out)
     have n4_ := A0_ (V1_ HO_236008.out)
     have n5_ := A0_ (V1_ HO_237007.out)
     have n6_ := A0_ (blk_drew BK235.out)
     have n7_ := A0_ (blk_drew BK236.out)
     have n8_ := A0_ (b1_ HB.out)
     clear HO_0
     clear HO_5
     clear HO_6
     clear HO_7
     clear HO_236008
     clear HO_237007
     clear BK235
     clear BK236
     clear HB
     have HO_0 := n0_
     have HO_5 := n1_
     have HO_6 := n2_
     have HO_7 := n3_
     have HO_236008 := n4_
     have HO_237007 := n5_
     have BK235 := n6_
     have BK236 := n7_
     have HB := n8_
     clear n0_ n1_ n2_ n3_ n4_ n5_ n6_ n7_ n8_
     obtain ⟨Ao40, co40, eo40⟩ := Kd.R_slice HO_6.out
     (first | subst eo40 | (injection eo40 with f1_ f2_ f3_; have f4_ := f1_.symm; have f5_ := f3_.symm; clear f1_ f2_ f3_; subst f4_; subst f5_))
     refine start_ (n := 13) (S := fun w' => True) (ds := []) q13_0 (by kernel_rfl) rfl rfl trivial (fun hHeld => ?_); refine with_tabW bindleref08_Members.tab10 bindleref08_Members.bits10 (fun HT_ HW_ => ?_)
     generalize wr.drew = w39 at HO_0 HO_5 HO_6 HO_7 HO_236008 HO_237007 BK235 BK236 HB hHeld ⊢
     refine pur_ (i := 0) (N := some 42) q13_1 (any_of HT_.out (by kernel_rfl)) ?_
     refine pur_ (i := 1) (N := some 43) q13_2 (any_of HT_.out (by kernel_rfl)) ?_
     refine pur_ (i := 2) (N := some 44) q13_3 (any_of HT_.out (by kernel_rfl)) ?_
     refine pur_ (i := 3) (N := some 45) q13_4 (any_of HT_.out (by kernel_rfl)) ?_
     refine pur_ (i := 4) (N := some 46) q13_5 (any_of HT_.out (by kernel_rfl)) ?_
     refine puu_ (i := 5) (N := some 47) q13_6 (any_of HT_.out (by kernel_rfl)) ?_
     refine puu_ (i := 6) (N := some 48) q13_7 (any_of HT_.out (by kernel_rfl)) ?_
     refine puu_ (i := 7) (N := some 49) q13_8 (any_of HT_.out (by kernel_rfl)) ?_
     refine puu_ (i := 8) (N := some 50) q13_25 (any_of HT_.out (by kernel_rfl)) ?_
     refine puu_ (i := 9) (N := some 51) q13_10 (any_of HT_.out (by kernel_rfl)) ?_
     refine puu_ (i := 10) (N := some 52) q13_11 (any_of HT_.out (by kernel_rfl)) ?_
     refine puu_ (i := 11) (N := some 53) q13_12 (any_of HT_.out (by kernel_rfl)) ?_
     refine pur_ (i := 12) (N := some 54) q13_13 (any_of HT_.out (by kernel_rfl)) ?_
     refine done_ (done_of HT_.out (by kernel_rfl)) ?_
     obtain ⟨Ao41, co41, eo41⟩ := Kd.R_slice HO_7.out
     subst eo41
     try go_wp2
     have n0_ := A0_ (V1_ HO_0.out)
     have n1_ := A0_ (Kd.N_drew HO_5.out)
     have n2_ := A0_ (R1_ HO_6.out)
     have n3_ := A0_ (R1_ HO_7.out)
     have n4_ := A0_ (V1_ HO_236008.out)
     have n5_ := A0_ (V1_ HO_237007.out)
     have n6_ := A0_ (blk_drew BK235.out)
     have n7_ := A0_ (blk_drew BK236.out)
     have n8_ := A0_ (b1_ HB.out)
     clear HO_0
     clear HO_5
     clear HO_6
     clear HO_7
     clear HO_236008
     clear HO_237007
     clear BK235
     clear BK236
     clear HB
     have HO_0 := n0_
     have HO_5 := n1_
     have HO_6 := n2_
     have HO_7 := n3_
     have HO_236008 := n4_
     have HO_237007 := n5_
     have BK235 := n6_
     have BK236 := n7_
     have HB := n8_
     clear n0_ n1_ n2_ n3_ n4_ n5_ n6_ n7_ n8_
     refine start_ (n := 12) (S := fun w' => w'.cell? ⟨gb235, 0, none⟩ = some (.string t223) ∧ w'.cell? ⟨gb235, 1, none⟩ = some (.string t224) ∧ w'.cell? ⟨gb235, 2, none⟩ = some (.string t225) ∧ w'.cell? ⟨gb235, 3, none⟩ = some (.int .u8 t226) ∧ w'.cell? ⟨gb235, 4, none⟩ = some (.int .i64 t227) ∧ w'.cell? ⟨gb235, 5, none⟩ = some (.int .i64 t228) ∧ w'.cell? ⟨gb235, 6, none⟩ = some (.int .i64 t229) ∧ w'.cell? ⟨gb235, 7, none⟩ = some (.int .i64 t230) ∧ w'.cell? ⟨gb235, 8, none⟩ = some (.slice Ao10 t231.length co10)) (ds := []) q13_26 (by kernel_rfl) rfl rfl ⟨(bc_ BK235.out 0).trans rfl, (bc_ BK235.out 1).trans rfl, (bc_ BK235.out 2).trans rfl, (bc_ BK235.out 3).trans rfl, (bc_ BK235.out 4).trans rfl, (bc_ BK235.out 5).trans rfl, (bc_ BK235.out 6).trans rfl, (bc_ BK235.out 7).trans rfl, (bc_ BK235.out 8).trans rfl⟩ (fun hHeld => ?_); refine with_tabW bindleref08_Members.tab14 bindleref08_Members.bits14 (fun HT_ HW_ => ?_)
     generalize w39.drew = w42 at HO_0 HO_5 HO_6 HO_7 HO_236008 HO_237007 BK235 BK236 HB hHeld ⊢
     refine pur_ (i := 0) (N := some 68) q13_27 (any_of HT_.out (by kernel_rfl)) ?_
     refine pur_ (i := 1) (N := some 69) q13_28 (any_of HT_.out (by kernel_rfl)) ?_
     refine pur_ (i := 5) (N := some 73) q13_29 (any_of HT_.out (by kernel_rfl)) ?_
     refine pur_ (i := 6) (N := some 74) q13_30 (any_of HT_.out (by kernel_rfl)) ?_
     refine take_ (i := 2) (N := some 70) (v := ?_) (a' := ?_) q13_31 rfl rfl (take_ofW HT_.out HW_.out (by kernel_rfl)) (fun _ _ _ h => h) (Or.inl ⟨by rfl, ?_⟩) hHeld ?_ ?_
     rotate_left
     ·rintro w' ⟨s0, s1, s2, s3, s4, s5, s6, s7, s8⟩
      go_simp
      with_reducible rfl
     rotate_left
     ·simp only [Act.put, List.setIfInBounds_toArray, List.set_cons_zero, List.set_cons_succ, i64_w, i32_w]
      rfl
     refine take_ (i := 7) (N := some 75) (v := ?_) (a' := ?_) q13_32 rfl rfl (take_ofW HT_.out HW_.out (by kernel_rfl)) (fun _ _ _ h => h) (Or.inl ⟨by rfl, ?_⟩) hHeld ?_ ?_
     rotate_left
     ·rintro w' ⟨s0, s1, s2, s3, s4, s5, s6, s7, s8⟩
      go_simp
      with_reducible rfl
     rotate_left
     ·simp only [Act.put, List.setIfInBounds_toArray, List.set_cons_zero, List.set_cons_succ, i64_w, i32_w]
      rfl
     refine join_ (σ := Value × Value × Value) 3 q13_33 (fun s_ => [(71, s_.1), (72, s_.2.1), (76, s_.2.2)]) (fun s_ w' => (w'.cell? ⟨gb235, 0, none⟩ = some (.string t223) ∧ w'.cell? ⟨gb235, 1, none⟩ = some (.string t224) ∧ w'.cell? ⟨gb235, 2, none⟩ = some (.string t225) ∧ w'.cell? ⟨gb235, 3, none⟩ = some (.int .u8 t226) ∧ w'.cell? ⟨gb235, 4, none⟩ = some (.int .i64 t227) ∧ w'.cell? ⟨gb235, 5, none⟩ = some (.int .i64 t228) ∧ w'.cell? ⟨gb235, 6, none⟩ = some (.int .i64 t229) ∧ w'.cell? ⟨gb235, 7, none⟩ = some (.int .i64 t230) ∧ w'.cell? ⟨gb235, 8, none⟩ = some (.slice Ao10 t231.length co10)) ∧ (Kd.R Kd.string 9 w' w.heap.size (fun k_ => (w.heap.size ≤ k_) ∧ some k_ ≠ (s_.2.1 : Value).ownBlock ∧ some k_ ≠ (s_.2.2 : Value).ownBlock ∧ some k_ ≠ (.slice Ao41 x7_1.length co41 : Value).ownBlock) s_.1 y245) ∧ (Kd.R Kd.string 9 w' w.heap.size (fun k_ => (w.heap.size ≤ k_) ∧ some k_ ≠ (s_.1 : Value).ownBlock ∧ some k_ ≠ (s_.2.2 : Value).ownBlock ∧ some k_ ≠ (.slice Ao41 x7_1.length co41 : Value).ownBlock) s_.2.1 y248) ∧ (Kd.R Kd.string 9 w' w.heap.size (fun k_ => (w.heap.size ≤ k_) ∧ some k_ ≠ (s_.1 : Value).ownBlock ∧ some k_ ≠ (s_.2.1 : Value).ownBlock ∧ some k_ ≠ (.slice Ao41 x7_1.length co41 : Value).ownBlock) s_.2.2 y251) ∧ (Kd.V k49 49 w' w.heap.size (fun k_ => (P0_ k_ ∨ w.heap.size ≤ k_) ∧ some k_ ≠ (s_.1 : Value).ownBlock ∧ some k_ ≠ (s_.2.1 : Value).ownBlock ∧ some k_ ≠ (s_.2.2 : Value).ownBlock ∧ some k_ ≠ (u5 : Value).ownBlock ∧ some k_ ≠ (.slice Ao41 x7_1.length co41 : Value).ownBlock ∧ k_ ≠ gb235 ∧ k_ ≠ gb236) (.slice A0 l0.length c0) l0) ∧ (Kd.V (Kd.int .u8) 5 w' w.heap.size (fun k_ => (P0_ k_ ∨ w.heap.size ≤ k_) ∧ some k_ ≠ (s_.1 : Value).ownBlock ∧ some k_ ≠ (s_.2.1 : Value).ownBlock ∧ some k_ ≠ (s_.2.2 : Value).ownBlock ∧ some k_ ≠ (u5 : Value).ownBlock ∧ some k_ ≠ (.slice Ao41 x7_1.length co41 : Value).ownBlock ∧ k_ ≠ gb235 ∧ k_ ≠ gb236) (.slice Ao10 t231.length co10) t231) ∧ (Kd.V (Kd.int .u8) 5 w' w.heap.size (fun k_ => (P0_ k_ ∨ w.heap.size ≤ k_) ∧ some k_ ≠ (s_.1 : Value).ownBlock ∧ some k_ ≠ (s_.2.1 : Value).ownBlock ∧ some k_ ≠ (s_.2.2 : Value).ownBlock ∧ some k_ ≠ (u5 : Value).ownBlock ∧ some k_ ≠ (.slice Ao41 x7_1.length co41 : Value).ownBlock ∧ k_ ≠ gb235 ∧ k_ ≠ gb236) (.slice Ao10 t231.length co10) t231) ∧ (Kd.N k43 43 w' w.heap.size (fun k_ => (P0_ k_ ∨ w.heap.size ≤ k_) ∧ some k_ ≠ (s_.1 : Value).ownBlock ∧ some k_ ≠ (s_.2.1 : Value).ownBlock ∧ some k_ ≠ (s_.2.2 : Value).ownBlock ∧ some k_ ≠ (.slice Ao41 x7_1.length co41 : Value).ownBlock ∧ k_ ≠ gb235 ∧ k_ ≠ gb236) u5 x5_1) ∧ (Kd.R Kd.string 9 w' w.heap.size (fun k_ => (w.heap.size ≤ k_) ∧ some k_ ≠ (s_.1 : Value).ownBlock ∧ some k_ ≠ (s_.2.1 : Value).ownBlock ∧ some k_ ≠ (s_.2.2 : Value).ownBlock) (.slice Ao41 x7_1.length co41) x7_1) ∧ (w'.heap[gb235]? = some (.cells #[.string t223, .string t224, .string t225, .int .u8 t226, .int .i64 t227, .int .i64 t228, .int .i64 t229, .int .i64 t230, .slice Ao10 t231.length co10] 49 (0, 0))) ∧ (w'.heap[gb236]? = some (.cells #[.string t223, .string t224, .int .u8 t226, .int .i64 t227, .int .i64 t228, .int .i64 t229, .int .i64 t230, .slice Ao10 t231.length co10] 43 (0, 0))) ∧ (Below w.heap.size w w')) ?_ ?_
     rotate_left
     ·intro hCont
      refine two_ (i := 3) (j := 8) (Ni := some 71) (Nj := some 76) q13_34 q13_35 rfl rfl rfl rfl (two_of HT_.out (by kernel_rfl)) (by decide) (by decide) (fun K hK => ?_) (fun K hK => ?_)
      rotate_left
      ·skip
       refine Kd.R_lit_step Kd.string _ 9 ?hg (N := 76) ?hd (xs := ([t223] : List ByteArray)) (inner := [.string t223]) (ok := fun _ => True) (okp := fun _ => True) ?hr ?hp (fun _ hk => hk) trivial (Below.refl _ _) (Nat.le_refl _) (by simp) ?_; (case hd => rfl); (case hg => rfl); (case hr => first | (go_simp; done) | (go_simp; rfl)); (case hp => exact (Reps.one (show Kd.M Kd.string _ _ _ t223 [.string t223] from rfl) (Reps.none _ _)))
       intro v252 w43 ho44 hb hg_ hnew_
       clear hg_ hnew_
       (first | rw [← Ny251.out] at ho44 | (simp only [Int.reduceToNat] at ho44; rw [← Ny251.out] at ho44))
       have n0_ := A0_ (Kd.V_elder' (wV_ HO_0.out) (Kd.R_base ho44) hb)
       have n1_ := A0_ (Kd.N_elder' (wN_ HO_5.out) (Kd.R_base ho44) hb)
       have n2_ := A0_ (Kd.R_elder' (wR_ HO_6.out) (Kd.R_base ho44) hb)
       have n3_ := A0_ (Kd.R_elder' (wR_ HO_7.out) (Kd.R_base ho44) hb)
       have n4_ := A0_ (Kd.V_elder' (wV_ HO_236008.out) (Kd.R_base ho44) hb)
       have n5_ := A0_ (Kd.V_elder' (wV_ HO_237007.out) (Kd.R_base ho44) hb)
       have n6_ := A0_ (Kd.R_lower (Kd.R_new' (Kd.R_new' (Kd.R_newM (M := fun k_ => (w.heap.size ≤ k_)) ho44 (below_size (wb2_ HB.out GE235.out GE236.out)) (fun k_ h_ => h_)) (Kd.R_lt (wR_ HO_6.out))) (Kd.R_lt (wR_ HO_7.out))) (below_size (wb2_ HB.out GE235.out GE236.out)))
       have n7_ := A0_ (blk_below (g := gb235) (o := .cells #[.string t223, .string t224, .string t225, .int .u8 t226, .int .i64 t227, .int .i64 t228, .int .i64 t229, .int .i64 t230, .slice Ao10 t231.length co10] 49 (0, 0)) (wB_ BK235.out) hb)
       have n8_ := A0_ (blk_below (g := gb236) (o := .cells #[.string t223, .string t224, .int .u8 t226, .int .i64 t227, .int .i64 t228, .int .i64 t229, .int .i64 t230, .slice Ao10 t231.length co10] 43 (0, 0)) (wB_ BK236.out) hb)
       have n9_ := A0_ (below_step (wb2_ HB.out GE235.out GE236.out) hb)
       clear HO_0
       clear HO_5
       clear HO_6
       clear HO_7
       clear HO_236008
       clear HO_237007
       clear BK235
       clear BK236
       clear HB
       have HO_0 := n0_
       have HO_5 := n1_
       have HO_6 := n2_
       have HO_7 := n3_
       have HO_236008 := n4_
       have HO_237007 := n5_
       have HO253 := n6_
       have BK235 := n7_
       have BK236 := n8_
       have HB := n9_
       clear n0_ n1_ n2_ n3_ n4_ n5_ n6_ n7_ n8_ n9_
       clear hb ho44
       refine hK.out _ _ ⟨(bc_ BK235.out 0).trans rfl, (bc_ BK235.out 1).trans rfl, (bc_ BK235.out 2).trans rfl, (bc_ BK235.out 3).trans rfl, (bc_ BK235.out 4).trans rfl, (bc_ BK235.out 5).trans rfl, (bc_ BK235.out 6).trans rfl, (bc_ BK235.out 7).trans rfl, (bc_ BK235.out 8).trans rfl⟩ (fun hHeld => ?_)
       clear hK K
       refine norm_ (a' := ?_) ?_ ?_
       rotate_left
       ·show Act.put _ (some 76) _ = _
        simp only [Act.put, List.setIfInBounds_toArray, List.set_cons_zero, List.set_cons_succ, i64_w, i32_w]
        rfl
       refine one_ (i := 3) (N := some 71) q13_36 rfl rfl (one_of HT_.out (by kernel_rfl)) (by decide) (fun K hK => ?_)
       refine Kd.R_lit_step Kd.string _ 9 ?hg (N := 71) ?hd (xs := ([t225] : List ByteArray)) (inner := [.string t225]) (ok := fun _ => True) (okp := fun _ => True) ?hr ?hp (fun _ hk => hk) trivial (Below.refl _ _) (Nat.le_refl _) (by simp) ?_; (case hd => rfl); (case hg => rfl); (case hr => first | (go_simp; done) | (go_simp; rfl)); (case hp => exact (Reps.one (show Kd.M Kd.string _ _ _ t225 [.string t225] from rfl) (Reps.none _ _)))
       intro v246 w45 ho46 hb hg_ hnew_
       clear hg_ hnew_
       (first | rw [← Ny245.out] at ho46 | (simp only [Int.reduceToNat] at ho46; rw [← Ny245.out] at ho46))
       have n0_ := A0_ (Kd.V_elder' (wV_ HO_0.out) (Kd.R_base ho46) hb)
       have n1_ := A0_ (Kd.N_elder' (wN_ HO_5.out) (Kd.R_base ho46) hb)
       have n2_ := A0_ (Kd.R_elder' (wR_ HO_6.out) (Kd.R_base ho46) hb)
       have n3_ := A0_ (Kd.R_elder' (wR_ HO_7.out) (Kd.R_base ho46) hb)
       have n4_ := A0_ (Kd.V_elder' (wV_ HO_236008.out) (Kd.R_base ho46) hb)
       have n5_ := A0_ (Kd.V_elder' (wV_ HO_237007.out) (Kd.R_base ho46) hb)
       have n6_ := A0_ (Kd.R_elder' (wR_ HO253.out) (Kd.R_base ho46) hb)
       have n7_ := A0_ (Kd.R_lower (Kd.R_new' (Kd.R_new' (Kd.R_new' (Kd.R_newM (M := fun k_ => (w.heap.size ≤ k_)) ho46 (below_size (wb2_ HB.out GE235.out GE236.out)) (fun k_ h_ => h_)) (Kd.R_lt (wR_ HO_6.out))) (Kd.R_lt (wR_ HO_7.out))) (Kd.R_lt (wR_ HO253.out))) (below_size (wb2_ HB.out GE235.out GE236.out)))
       have n8_ := A0_ (blk_below (g := gb235) (o := .cells #[.string t223, .string t224, .string t225, .int .u8 t226, .int .i64 t227, .int .i64 t228, .int .i64 t229, .int .i64 t230, .slice Ao10 t231.length co10] 49 (0, 0)) (wB_ BK235.out) hb)
       have n9_ := A0_ (blk_below (g := gb236) (o := .cells #[.string t223, .string t224, .int .u8 t226, .int .i64 t227, .int .i64 t228, .int .i64 t229, .int .i64 t230, .slice Ao10 t231.length co10] 43 (0, 0)) (wB_ BK236.out) hb)
       have n10_ := A0_ (below_step (wb2_ HB.out GE235.out GE236.out) hb)
       clear HO_0
       clear HO_5
       clear HO_6
       clear HO_7
       clear HO_236008
       clear HO_237007
       clear HO253
       clear BK235
       clear BK236
       clear HB
       have HO_0 := n0_
       have HO_5 := n1_
       have HO_6 := n2_
       have HO_7 := n3_
       have HO_236008 := n4_
       have HO_237007 := n5_
       have HO253 := n6_
       have HO247 := n7_
       have BK235 := n8_
       have BK236 := n9_
       have HB := n10_
       clear n0_ n1_ n2_ n3_ n4_ n5_ n6_ n7_ n8_ n9_ n10_
       clear hb ho46
       obtain ⟨Ao48, co48, eo48⟩ := Kd.R_slice HO247.out
       (first | subst eo48 | (injection eo48 with f1_ f2_ f3_; have f4_ := f1_.symm; have f5_ := f3_.symm; clear f1_ f2_ f3_; subst f4_; subst f5_))
       refine hK.out _ _ ⟨(bc_ BK235.out 0).trans rfl, (bc_ BK235.out 1).trans rfl, (bc_ BK235.out 2).trans rfl, (bc_ BK235.out 3).trans rfl, (bc_ BK235.out 4).trans rfl, (bc_ BK235.out 5).trans rfl, (bc_ BK235.out 6).trans rfl, (bc_ BK235.out 7).trans rfl, (bc_ BK235.out 8).trans rfl⟩ (fun hHeld => ?_)
       clear hK K
       refine norm_ (a' := ?_) ?_ ?_
       rotate_left
       ·show Act.put _ (some 71) _ = _
        simp only [Act.put, List.setIfInBounds_toArray, List.set_cons_zero, List.set_cons_succ, i64_w, i32_w]
        rfl
       refine one_ (i := 4) (N := some 72) q13_33 rfl rfl (one_of HT_.out (by kernel_rfl)) (by decide) (fun K hK => ?_)
       refine Kd.R_append_rows_step Kd.string (w0 := w) w.heap.size (by rfl) (.tmp 68) (.tmp 71) 37 9 (.string ⟨#[]⟩) 16 rfl Tryz.underlying37 info9 rfl (by decide) (by omega) (.slice Ao40 x6_1.length co40) x6_1 y245 _ _ _ (fun k_ => (w.heap.size ≤ k_) ∧ some k_ ≠ (.slice Ao41 x7_1.length co41 : Value).ownBlock ∧ some k_ ≠ (v252 : Value).ownBlock ∧ some k_ ≠ (.slice Ao48 y245.length co48 : Value).ownBlock) (fun _ => False) rfl rfl ?aO ?aR (fun _ _ h => h) (fun _ h => h.elim) ?aF ?aB ?aS ?aL ?_
       (case aR => exact wc_ (Kd.R_reads' HO247.out).2.2)
       (case aB => exact (wb2_ HB.out GE235.out GE236.out))
       (case aF => exact (fun k_ hk => ⟨(Nat.le_trans (below_size (wb2_ HB.out GE235.out GE236.out)) hk), Kd.fresh' (Kd.R_lt (wR_ HO_7.out)) k_ hk, Kd.fresh' (Kd.R_lt (wR_ HO253.out)) k_ hk, Kd.fresh' (Kd.R_lt (wR_ HO247.out)) k_ hk⟩))
       (case aO => exact (by (with_reducible repeat (first | apply Ra_ | apply RN_ | apply R1_)); exact Kd.R_mono HO_6.out (fun _ hk => ⟨hk.1.1.1, ⟨hk.1.1.2, ⟨hk.1.2, hk.2⟩⟩⟩)))
       (case aS => exact (below_size (wb2_ HB.out GE235.out GE236.out)))
       (case aL => have := LMc36.out; omega)
       intro v249 w47 ho hb hg hat
       rw [← Ny248.out] at ho
       have n0_ := A0_ (Kd.V_afterv (ok := (fun k_ => (P0_ k_ ∨ w.heap.size ≤ k_) ∧ some k_ ≠ (u5 : Value).ownBlock ∧ some k_ ≠ (.slice Ao41 x7_1.length co41 : Value).ownBlock ∧ some k_ ≠ (v252 : Value).ownBlock ∧ some k_ ≠ (.slice Ao48 y245.length co48 : Value).ownBlock ∧ k_ ≠ gb235 ∧ k_ ≠ gb236)) (by (with_reducible repeat (first | apply Va_ | apply VN_ | apply V1_)); exact Kd.V_mono HO_0.out (fun _ hk => ⟨⟨hk.1.1.1, ⟨hk.1.1.2.1, ⟨hk.1.1.2.2.2.1, ⟨hk.1.2, ⟨hk.2, ⟨hk.1.1.2.2.2.2.1, hk.1.1.2.2.2.2.2⟩⟩⟩⟩⟩⟩, hk.1.1.2.2.1⟩)) hg hat)
       have n1_ := A0_ (Kd.N_afterv (ok := (fun k_ => (P0_ k_ ∨ w.heap.size ≤ k_) ∧ some k_ ≠ (.slice Ao41 x7_1.length co41 : Value).ownBlock ∧ some k_ ≠ (v252 : Value).ownBlock ∧ some k_ ≠ (.slice Ao48 y245.length co48 : Value).ownBlock ∧ k_ ≠ gb235 ∧ k_ ≠ gb236)) (by (with_reducible repeat (first | apply Kd.N_alloc | apply Kd.N_drewN | apply Kd.N_drew)); exact Kd.N_mono HO_5.out (fun _ hk => ⟨⟨hk.1.1.1, ⟨hk.1.1.2.2.1, ⟨hk.1.2, ⟨hk.2, ⟨hk.1.1.2.2.2.1, hk.1.1.2.2.2.2⟩⟩⟩⟩⟩, hk.1.1.2.1⟩)) hg hat)
       have n2_ := A0_ (Kd.R_after (ok := (fun k_ => (w.heap.size ≤ k_) ∧ some k_ ≠ (v252 : Value).ownBlock ∧ some k_ ≠ (.slice Ao48 y245.length co48 : Value).ownBlock)) (by (with_reducible repeat (first | apply Ra_ | apply RN_ | apply R1_)); exact Kd.R_mono HO_7.out (fun _ hk => ⟨⟨hk.1.1.1, ⟨hk.1.2, hk.2⟩⟩, hk.1.1.2⟩)) hg hat)
       have n3_ := A0_ (Kd.V_afterv (ok := (fun k_ => (P0_ k_ ∨ w.heap.size ≤ k_) ∧ some k_ ≠ (u5 : Value).ownBlock ∧ some k_ ≠ (.slice Ao41 x7_1.length co41 : Value).ownBlock ∧ some k_ ≠ (v252 : Value).ownBlock ∧ some k_ ≠ (.slice Ao48 y245.length co48 : Value).ownBlock ∧ k_ ≠ gb235 ∧ k_ ≠ gb236)) (by (with_reducible repeat (first | apply Va_ | apply VN_ | apply V1_)); exact Kd.V_mono HO_236008.out (fun _ hk => ⟨⟨hk.1.1.1, ⟨hk.1.1.2.1, ⟨hk.1.1.2.2.2.1, ⟨hk.1.2, ⟨hk.2, ⟨hk.1.1.2.2.2.2.1, hk.1.1.2.2.2.2.2⟩⟩⟩⟩⟩⟩, hk.1.1.2.2.1⟩)) hg hat)
       have n4_ := A0_ (Kd.V_afterv (ok := (fun k_ => (P0_ k_ ∨ w.heap.size ≤ k_) ∧ some k_ ≠ (u5 : Value).ownBlock ∧ some k_ ≠ (.slice Ao41 x7_1.length co41 : Value).ownBlock ∧ some k_ ≠ (v252 : Value).ownBlock ∧ some k_ ≠ (.slice Ao48 y245.length co48 : Value).ownBlock ∧ k_ ≠ gb235 ∧ k_ ≠ gb236)) (by (with_reducible repeat (first | apply Va_ | apply VN_ | apply V1_)); exact Kd.V_mono HO_237007.out (fun _ hk => ⟨⟨hk.1.1.1, ⟨hk.1.1.2.1, ⟨hk.1.1.2.2.2.1, ⟨hk.1.2, ⟨hk.2, ⟨hk.1.1.2.2.2.2.1, hk.1.1.2.2.2.2.2⟩⟩⟩⟩⟩⟩, hk.1.1.2.2.1⟩)) hg hat)
       have n5_ := A0_ (blk_grown (g := gb235) (o := .cells #[.string t223, .string t224, .string t225, .int .u8 t226, .int .i64 t227, .int .i64 t228, .int .i64 t229, .int .i64 t230, .slice Ao10 t231.length co10] 49 (0, 0)) (wB_ BK235.out) hg (Kd.R_ne HO_6.out BK235.out (by decide)))
       have n6_ := A0_ (blk_grown (g := gb236) (o := .cells #[.string t223, .string t224, .int .u8 t226, .int .i64 t227, .int .i64 t228, .int .i64 t229, .int .i64 t230, .slice Ao10 t231.length co10] 43 (0, 0)) (wB_ BK236.out) hg (Kd.R_ne HO_6.out BK236.out (by decide)))
       have n7_ := A0_ (Kd.R_after (ok := (fun k_ => (w.heap.size ≤ k_) ∧ some k_ ≠ (.slice Ao41 x7_1.length co41 : Value).ownBlock ∧ some k_ ≠ (.slice Ao48 y245.length co48 : Value).ownBlock)) (by (with_reducible repeat (first | apply Ra_ | apply RN_ | apply R1_)); exact Kd.R_mono HO253.out (fun _ hk => ⟨⟨hk.1.1.1.1, ⟨hk.1.2, hk.2⟩⟩, hk.1.1.2⟩)) hg hat)
       have n8_ := A0_ (Kd.R_after (ok := (fun k_ => (w.heap.size ≤ k_) ∧ some k_ ≠ (.slice Ao41 x7_1.length co41 : Value).ownBlock ∧ some k_ ≠ (v252 : Value).ownBlock)) (by (with_reducible repeat (first | apply Ra_ | apply RN_ | apply R1_)); exact Kd.R_mono HO247.out (fun _ hk => ⟨⟨hk.1.1.1.1, ⟨hk.1.2, hk.2⟩⟩, hk.1.1.2⟩)) hg hat)
       have n9_ := A0_ (hb)
       have n10_ := A0_ (ho)
       clear HO_0
       clear HO_5
       clear HO_7
       clear HO_236008
       clear HO_237007
       clear BK235
       clear BK236
       clear HO253
       clear HO247
       clear HB
       clear HO_6
       have HO_0 := n0_
       have HO_5 := n1_
       have HO_7 := n2_
       have HO_236008 := n3_
       have HO_237007 := n4_
       have BK235 := n5_
       have BK236 := n6_
       have HO253 := n7_
       have HO247 := n8_
       have HB := n9_
       have HO250 := n10_
       clear n0_ n1_ n2_ n3_ n4_ n5_ n6_ n7_ n8_ n9_ n10_
       clear ho hb hg hat
       refine hK.out _ _ ⟨(bc_ BK235.out 0).trans rfl, (bc_ BK235.out 1).trans rfl, (bc_ BK235.out 2).trans rfl, (bc_ BK235.out 3).trans rfl, (bc_ BK235.out 4).trans rfl, (bc_ BK235.out 5).trans rfl, (bc_ BK235.out 6).trans rfl, (bc_ BK235.out 7).trans rfl, (bc_ BK235.out 8).trans rfl⟩ (fun hHeld => ?_)
       clear hK K
       refine norm_ (a' := ?_) ?_ ?_
       rotate_left
       ·show Act.put _ (some 72) _ = _
        simp only [Act.put, List.setIfInBounds_toArray, List.set_cons_zero, List.set_cons_succ, i64_w, i32_w]
        rfl
       exact norm_ (by simp only [putAll, Act.put, List.setIfInBounds_toArray, List.set_cons_zero, List.set_cons_succ]) (hCont (.slice Ao48 y245.length co48, v249, v252) _ ⟨hHeld, (by (with_reducible repeat (first | apply Ra_ | apply RN_ | apply R1_)); exact Kd.R_mono HO247.out (fun _ hk => ⟨hk.1.1, ⟨hk.2, ⟨hk.1.2.2, hk.1.2.1⟩⟩⟩)), (by (with_reducible repeat (first | apply Ra_ | apply RN_ | apply R1_)); exact Kd.R_mono HO250.out (fun _ hk => ⟨hk.1, ⟨hk.2.2.2, ⟨hk.2.2.1, hk.2.1⟩⟩⟩)), (by (with_reducible repeat (first | apply Ra_ | apply RN_ | apply R1_)); exact Kd.R_mono HO253.out (fun _ hk => ⟨hk.1.1, ⟨hk.1.2.2, ⟨hk.2, hk.1.2.1⟩⟩⟩)), (by (with_reducible repeat (first | apply Va_ | apply VN_ | apply V1_)); exact Kd.V_mono HO_0.out (fun _ hk => ⟨hk.1.1, ⟨hk.1.2.2.2.2.1, ⟨hk.2, ⟨hk.1.2.2.2.1, ⟨hk.1.2.1, ⟨hk.1.2.2.1, ⟨hk.1.2.2.2.2.2.1, hk.1.2.2.2.2.2.2⟩⟩⟩⟩⟩⟩⟩)), (by (with_reducible repeat (first | apply Va_ | apply VN_ | apply V1_)); exact Kd.V_mono HO_236008.out (fun _ hk => ⟨hk.1.1, ⟨hk.1.2.2.2.2.1, ⟨hk.2, ⟨hk.1.2.2.2.1, ⟨hk.1.2.1, ⟨hk.1.2.2.1, ⟨hk.1.2.2.2.2.2.1, hk.1.2.2.2.2.2.2⟩⟩⟩⟩⟩⟩⟩)), (by (with_reducible repeat (first | apply Va_ | apply VN_ | apply V1_)); exact Kd.V_mono HO_237007.out (fun _ hk => ⟨hk.1.1, ⟨hk.1.2.2.2.2.1, ⟨hk.2, ⟨hk.1.2.2.2.1, ⟨hk.1.2.1, ⟨hk.1.2.2.1, ⟨hk.1.2.2.2.2.2.1, hk.1.2.2.2.2.2.2⟩⟩⟩⟩⟩⟩⟩)), (by (with_reducible repeat (first | apply Kd.N_alloc | apply Kd.N_drewN | apply Kd.N_drew)); exact Kd.N_mono HO_5.out (fun _ hk => ⟨hk.1.1, ⟨hk.1.2.2.2.1, ⟨hk.2, ⟨hk.1.2.2.1, ⟨hk.1.2.1, ⟨hk.1.2.2.2.2.1, hk.1.2.2.2.2.2⟩⟩⟩⟩⟩⟩)), (by (with_reducible repeat (first | apply Ra_ | apply RN_ | apply R1_)); exact Kd.R_mono HO_7.out (fun _ hk => ⟨hk.1.1, ⟨hk.1.2.2, ⟨hk.2, hk.1.2.1⟩⟩⟩)), (wB_ BK235.out), (wB_ BK236.out), (wb2_ HB.out GE235.out GE236.out)⟩)
      skip
      refine Kd.R_lit_step Kd.string _ 9 ?hg (N := 71) ?hd (xs := ([t225] : List ByteArray)) (inner := [.string t225]) (ok := fun _ => True) (okp := fun _ => True) ?hr ?hp (fun _ hk => hk) trivial (Below.refl _ _) (Nat.le_refl _) (by simp) ?_; (case hd => rfl); (case hg => rfl); (case hr => first | (go_simp; done) | (go_simp; rfl)); (case hp => exact (Reps.one (show Kd.M Kd.string _ _ _ t225 [.string t225] from rfl) (Reps.none _ _)))
      intro v246 w43 ho44 hb hg_ hnew_
      clear hg_ hnew_
      (first | rw [← Ny245.out] at ho44 | (simp only [Int.reduceToNat] at ho44; rw [← Ny245.out] at ho44))
      have n0_ := A0_ (Kd.V_elder' (wV_ HO_0.out) (Kd.R_base ho44) hb)
      have n1_ := A0_ (Kd.N_elder' (wN_ HO_5.out) (Kd.R_base ho44) hb)
      have n2_ := A0_ (Kd.R_elder' (wR_ HO_6.out) (Kd.R_base ho44) hb)
      have n3_ := A0_ (Kd.R_elder' (wR_ HO_7.out) (Kd.R_base ho44) hb)
      have n4_ := A0_ (Kd.V_elder' (wV_ HO_236008.out) (Kd.R_base ho44) hb)
      have n5_ := A0_ (Kd.V_elder' (wV_ HO_237007.out) (Kd.R_base ho44) hb)
      have n6_ := A0_ (Kd.R_lower (Kd.R_new' (Kd.R_new' (Kd.R_newM (M := fun k_ => (w.heap.size ≤ k_)) ho44 (below_size (wb2_ HB.out GE235.out GE236.out)) (fun k_ h_ => h_)) (Kd.R_lt (wR_ HO_6.out))) (Kd.R_lt (wR_ HO_7.out))) (below_size (wb2_ HB.out GE235.out GE236.out)))
      have n7_ := A0_ (blk_below (g := gb235) (o := .cells #[.string t223, .string t224, .string t225, .int .u8 t226, .int .i64 t227, .int .i64 t228, .int .i64 t229, .int .i64 t230, .slice Ao10 t231.length co10] 49 (0, 0)) (wB_ BK235.out) hb)
      have n8_ := A0_ (blk_below (g := gb236) (o := .cells #[.string t223, .string t224, .int .u8 t226, .int .i64 t227, .int .i64 t228, .int .i64 t229, .int .i64 t230, .slice Ao10 t231.length co10] 43 (0, 0)) (wB_ BK236.out) hb)
      have n9_ := A0_ (below_step (wb2_ HB.out GE235.out GE236.out) hb)
      clear HO_0
      clear HO_5
      clear HO_6
      clear HO_7
      clear HO_236008
      clear HO_237007
      clear BK235
      clear BK236
      clear HB
      have HO_0 := n0_
      have HO_5 := n1_
      have HO_6 := n2_
      have HO_7 := n3_
      have HO_236008 := n4_
      have HO_237007 := n5_
      have HO247 := n6_
      have BK235 := n7_
      have BK236 := n8_
      have HB := n9_
      clear n0_ n1_ n2_ n3_ n4_ n5_ n6_ n7_ n8_ n9_
      clear hb ho44
      obtain ⟨Ao46, co46, eo46⟩ := Kd.R_slice HO247.out
      (first | subst eo46 | (injection eo46 with f1_ f2_ f3_; have f4_ := f1_.symm; have f5_ := f3_.symm; clear f1_ f2_ f3_; subst f4_; subst f5_))
      refine hK.out _ _ ⟨(bc_ BK235.out 0).trans rfl, (bc_ BK235.out 1).trans rfl, (bc_ BK235.out 2).trans rfl, (bc_ BK235.out 3).trans rfl, (bc_ BK235.out 4).trans rfl, (bc_ BK235.out 5).trans rfl, (bc_ BK235.out 6).trans rfl, (bc_ BK235.out 7).trans rfl, (bc_ BK235.out 8).trans rfl⟩ (fun hHeld => ?_)
      clear hK K
      refine norm_ (a' := ?_) ?_ ?_
      rotate_left
      ·show Act.put _ (some 71) _ = _
       simp only [Act.put, List.setIfInBounds_toArray, List.set_cons_zero, List.set_cons_succ, i64_w, i32_w]
       rfl
      refine two_ (i := 4) (j := 8) (Ni := some 72) (Nj := some 76) q13_37 q13_36 rfl rfl rfl rfl (two_of HT_.out (by kernel_rfl)) (by decide) (by decide) (fun K hK => ?_) (fun K hK => ?_)
      ·skip
       refine Kd.R_append_rows_step Kd.string (w0 := w) w.heap.size (by rfl) (.tmp 68) (.tmp 71) 37 9 (.string ⟨#[]⟩) 16 rfl Tryz.underlying37 info9 rfl (by decide) (by omega) (.slice Ao40 x6_1.length co40) x6_1 y245 _ _ _ (fun k_ => (w.heap.size ≤ k_) ∧ some k_ ≠ (.slice Ao41 x7_1.length co41 : Value).ownBlock ∧ some k_ ≠ (.slice Ao46 y245.length co46 : Value).ownBlock) (fun _ => False) rfl rfl ?aO ?aR (fun _ _ h => h) (fun _ h => h.elim) ?aF ?aB ?aS ?aL ?_
       (case aR => exact wc_ (Kd.R_reads' HO247.out).2.2)
       (case aB => exact (wb2_ HB.out GE235.out GE236.out))
       (case aF => exact (fun k_ hk => ⟨(Nat.le_trans (below_size (wb2_ HB.out GE235.out GE236.out)) hk), Kd.fresh' (Kd.R_lt (wR_ HO_7.out)) k_ hk, Kd.fresh' (Kd.R_lt (wR_ HO247.out)) k_ hk⟩))
       (case aO => exact (by (with_reducible repeat (first | apply Ra_ | apply RN_ | apply R1_)); exact Kd.R_mono HO_6.out (fun _ hk => ⟨hk.1.1, ⟨hk.1.2, hk.2⟩⟩)))
       (case aS => exact (below_size (wb2_ HB.out GE235.out GE236.out)))
       (case aL => have := LMc36.out; omega)
       intro v249 w45 ho hb hg hat
       rw [← Ny248.out] at ho
       have n0_ := A0_ (Kd.V_afterv (ok := (fun k_ => (P0_ k_ ∨ w.heap.size ≤ k_) ∧ some k_ ≠ (u5 : Value).ownBlock ∧ some k_ ≠ (.slice Ao41 x7_1.length co41 : Value).ownBlock ∧ some k_ ≠ (.slice Ao46 y245.length co46 : Value).ownBlock ∧ k_ ≠ gb235 ∧ k_ ≠ gb236)) (by (with_reducible repeat (first | apply Va_ | apply VN_ | apply V1_)); exact Kd.V_mono HO_0.out (fun _ hk => ⟨⟨hk.1.1, ⟨hk.1.2.1, ⟨hk.1.2.2.2.1, ⟨hk.2, ⟨hk.1.2.2.2.2.1, hk.1.2.2.2.2.2⟩⟩⟩⟩⟩, hk.1.2.2.1⟩)) hg hat)
       have n1_ := A0_ (Kd.N_afterv (ok := (fun k_ => (P0_ k_ ∨ w.heap.size ≤ k_) ∧ some k_ ≠ (.slice Ao41 x7_1.length co41 : Value).ownBlock ∧ some k_ ≠ (.slice Ao46 y245.length co46 : Value).ownBlock ∧ k_ ≠ gb235 ∧ k_ ≠ gb236)) (by (with_reducible repeat (first | apply Kd.N_alloc | apply Kd.N_drewN | apply Kd.N_drew)); exact Kd.N_mono HO_5.out (fun _ hk => ⟨⟨hk.1.1, ⟨hk.1.2.2.1, ⟨hk.2, ⟨hk.1.2.2.2.1, hk.1.2.2.2.2⟩⟩⟩⟩, hk.1.2.1⟩)) hg hat)
       have n2_ := A0_ (Kd.R_after (ok := (fun k_ => (w.heap.size ≤ k_) ∧ some k_ ≠ (.slice Ao46 y245.length co46 : Value).ownBlock)) (by (with_reducible repeat (first | apply Ra_ | apply RN_ | apply R1_)); exact Kd.R_mono HO_7.out (fun _ hk => ⟨⟨hk.1.1, hk.2⟩, hk.1.2⟩)) hg hat)
       have n3_ := A0_ (Kd.V_afterv (ok := (fun k_ => (P0_ k_ ∨ w.heap.size ≤ k_) ∧ some k_ ≠ (u5 : Value).ownBlock ∧ some k_ ≠ (.slice Ao41 x7_1.length co41 : Value).ownBlock ∧ some k_ ≠ (.slice Ao46 y245.length co46 : Value).ownBlock ∧ k_ ≠ gb235 ∧ k_ ≠ gb236)) (by (with_reducible repeat (first | apply Va_ | apply VN_ | apply V1_)); exact Kd.V_mono HO_236008.out (fun _ hk => ⟨⟨hk.1.1, ⟨hk.1.2.1, ⟨hk.1.2.2.2.1, ⟨hk.2, ⟨hk.1.2.2.2.2.1, hk.1.2.2.2.2.2⟩⟩⟩⟩⟩, hk.1.2.2.1⟩)) hg hat)
       have n4_ := A0_ (Kd.V_afterv (ok := (fun k_ => (P0_ k_ ∨ w.heap.size ≤ k_) ∧ some k_ ≠ (u5 : Value).ownBlock ∧ some k_ ≠ (.slice Ao41 x7_1.length co41 : Value).ownBlock ∧ some k_ ≠ (.slice Ao46 y245.length co46 : Value).ownBlock ∧ k_ ≠ gb235 ∧ k_ ≠ gb236)) (by (with_reducible repeat (first | apply Va_ | apply VN_ | apply V1_)); exact Kd.V_mono HO_237007.out (fun _ hk => ⟨⟨hk.1.1, ⟨hk.1.2.1, ⟨hk.1.2.2.2.1, ⟨hk.2, ⟨hk.1.2.2.2.2.1, hk.1.2.2.2.2.2⟩⟩⟩⟩⟩, hk.1.2.2.1⟩)) hg hat)
       have n5_ := A0_ (blk_grown (g := gb235) (o := .cells #[.string t223, .string t224, .string t225, .int .u8 t226, .int .i64 t227, .int .i64 t228, .int .i64 t229, .int .i64 t230, .slice Ao10 t231.length co10] 49 (0, 0)) (wB_ BK235.out) hg (Kd.R_ne HO_6.out BK235.out (by decide)))
       have n6_ := A0_ (blk_grown (g := gb236) (o := .cells #[.string t223, .string t224, .int .u8 t226, .int .i64 t227, .int .i64 t228, .int .i64 t229, .int .i64 t230, .slice Ao10 t231.length co10] 43 (0, 0)) (wB_ BK236.out) hg (Kd.R_ne HO_6.out BK236.out (by decide)))
       have n7_ := A0_ (Kd.R_after (ok := (fun k_ => (w.heap.size ≤ k_) ∧ some k_ ≠ (.slice Ao41 x7_1.length co41 : Value).ownBlock)) (by (with_reducible repeat (first | apply Ra_ | apply RN_ | apply R1_)); exact Kd.R_mono HO247.out (fun _ hk => ⟨⟨hk.1.1.1, hk.2⟩, hk.1.2⟩)) hg hat)
       have n8_ := A0_ (hb)
       have n9_ := A0_ (ho)
       clear HO_0
       clear HO_5
       clear HO_7
       clear HO_236008
       clear HO_237007
       clear BK235
       clear BK236
       clear HO247
       clear HB
       clear HO_6
       have HO_0 := n0_
       have HO_5 := n1_
       have HO_7 := n2_
       have HO_236008 := n3_
       have HO_237007 := n4_
       have BK235 := n5_
       have BK236 := n6_
       have HO247 := n7_
       have HB := n8_
       have HO250 := n9_
       clear n0_ n1_ n2_ n3_ n4_ n5_ n6_ n7_ n8_ n9_
       clear ho hb hg hat
       refine hK.out _ _ ⟨(bc_ BK235.out 0).trans rfl, (bc_ BK235.out 1).trans rfl, (bc_ BK235.out 2).trans rfl, (bc_ BK235.out 3).trans rfl, (bc_ BK235.out 4).trans rfl, (bc_ BK235.out 5).trans rfl, (bc_ BK235.out 6).trans rfl, (bc_ BK235.out 7).trans rfl, (bc_ BK235.out 8).trans rfl⟩ (fun hHeld => ?_)
       clear hK K
       refine norm_ (a' := ?_) ?_ ?_
       rotate_left
       ·show Act.put _ (some 72) _ = _
        simp only [Act.put, List.setIfInBounds_toArray, List.set_cons_zero, List.set_cons_succ, i64_w, i32_w]
        rfl
       refine one_ (i := 8) (N := some 76) q13_33 rfl rfl (one_of HT_.out (by kernel_rfl)) (by decide) (fun K hK => ?_)
       refine Kd.R_lit_step Kd.string _ 9 ?hg (N := 76) ?hd (xs := ([t223] : List ByteArray)) (inner := [.string t223]) (ok := fun _ => True) (okp := fun _ => True) ?hr ?hp (fun _ hk => hk) trivial (Below.refl _ _) (Nat.le_refl _) (by simp) ?_; (case hd => rfl); (case hg => rfl); (case hr => first | (go_simp; done) | (go_simp; rfl)); (case hp => exact (Reps.one (show Kd.M Kd.string _ _ _ t223 [.string t223] from rfl) (Reps.none _ _)))
       intro v252 w47 ho48 hb hg_ hnew_
       clear hg_ hnew_
       (first | rw [← Ny251.out] at ho48 | (simp only [Int.reduceToNat] at ho48; rw [← Ny251.out] at ho48))
       have n0_ := A0_ (Kd.V_elder' (wV_ HO_0.out) (Kd.R_base ho48) hb)
       have n1_ := A0_ (Kd.N_elder' (wN_ HO_5.out) (Kd.R_base ho48) hb)
       have n2_ := A0_ (Kd.R_elder' (wR_ HO_7.out) (Kd.R_base ho48) hb)
       have n3_ := A0_ (Kd.V_elder' (wV_ HO_236008.out) (Kd.R_base ho48) hb)
       have n4_ := A0_ (Kd.V_elder' (wV_ HO_237007.out) (Kd.R_base ho48) hb)
       have n5_ := A0_ (Kd.R_elder' (wR_ HO247.out) (Kd.R_base ho48) hb)
       have n6_ := A0_ (Kd.R_elder' (wR_ HO250.out) (Kd.R_base ho48) hb)
       have n7_ := A0_ (Kd.R_lower (Kd.R_new' (Kd.R_new' (Kd.R_new' (Kd.R_newM (M := fun k_ => (w.heap.size ≤ k_)) ho48 (below_size (wb2_ HB.out GE235.out GE236.out)) (fun k_ h_ => h_)) (Kd.R_lt (wR_ HO_7.out))) (Kd.R_lt (wR_ HO247.out))) (Kd.R_lt (wR_ HO250.out))) (below_size (wb2_ HB.out GE235.out GE236.out)))
       have n8_ := A0_ (blk_below (g := gb235) (o := .cells #[.string t223, .string t224, .string t225, .int .u8 t226, .int .i64 t227, .int .i64 t228, .int .i64 t229, .int .i64 t230, .slice Ao10 t231.length co10] 49 (0, 0)) (wB_ BK235.out) hb)
       have n9_ := A0_ (blk_below (g := gb236) (o := .cells #[.string t223, .string t224, .int .u8 t226, .int .i64 t227, .int .i64 t228, .int .i64 t229, .int .i64 t230, .slice Ao10 t231.length co10] 43 (0, 0)) (wB_ BK236.out) hb)
       have n10_ := A0_ (below_step (wb2_ HB.out GE235.out GE236.out) hb)
       clear HO_0
       clear HO_5
       clear HO_7
       clear HO_236008
       clear HO_237007
       clear HO247
       clear HO250
       clear BK235
       clear BK236
       clear HB
       have HO_0 := n0_
       have HO_5 := n1_
       have HO_7 := n2_
       have HO_236008 := n3_
       have HO_237007 := n4_
       have HO247 := n5_
       have HO250 := n6_
       have HO253 := n7_
       have BK235 := n8_
       have BK236 := n9_
       have HB := n10_
       clear n0_ n1_ n2_ n3_ n4_ n5_ n6_ n7_ n8_ n9_ n10_
       clear hb ho48
       refine hK.out _ _ ⟨(bc_ BK235.out 0).trans rfl, (bc_ BK235.out 1).trans rfl, (bc_ BK235.out 2).trans rfl, (bc_ BK235.out 3).trans rfl, (bc_ BK235.out 4).trans rfl, (bc_ BK235.out 5).trans rfl, (bc_ BK235.out 6).trans rfl, (bc_ BK235.out 7).trans rfl, (bc_ BK235.out 8).trans rfl⟩ (fun hHeld => ?_)
       clear hK K
       refine norm_ (a' := ?_) ?_ ?_
       rotate_left
       ·show Act.put _ (some 76) _ = _
        simp only [Act.put, List.setIfInBounds_toArray, List.set_cons_zero, List.set_cons_succ, i64_w, i32_w]
        rfl
       exact norm_ (by simp only [putAll, Act.put, List.setIfInBounds_toArray, List.set_cons_zero, List.set_cons_succ]) (hCont (.slice Ao46 y245.length co46, v249, v252) _ ⟨hHeld, (by (with_reducible repeat (first | apply Ra_ | apply RN_ | apply R1_)); exact Kd.R_mono HO247.out (fun _ hk => ⟨hk.1.1.1, ⟨hk.1.2, ⟨hk.2, hk.1.1.2⟩⟩⟩)), (by (with_reducible repeat (first | apply Ra_ | apply RN_ | apply R1_)); exact Kd.R_mono HO250.out (fun _ hk => ⟨hk.1.1, ⟨hk.1.2.2, ⟨hk.2, hk.1.2.1⟩⟩⟩)), (by (with_reducible repeat (first | apply Ra_ | apply RN_ | apply R1_)); exact Kd.R_mono HO253.out (fun _ hk => ⟨hk.1.1.1.1, ⟨hk.1.2, ⟨hk.2, hk.1.1.2⟩⟩⟩)), (by (with_reducible repeat (first | apply Va_ | apply VN_ | apply V1_)); exact Kd.V_mono HO_0.out (fun _ hk => ⟨hk.1.1.1, ⟨hk.1.1.2.2.2.1, ⟨hk.1.2, ⟨hk.2, ⟨hk.1.1.2.1, ⟨hk.1.1.2.2.1, ⟨hk.1.1.2.2.2.2.1, hk.1.1.2.2.2.2.2⟩⟩⟩⟩⟩⟩⟩)), (by (with_reducible repeat (first | apply Va_ | apply VN_ | apply V1_)); exact Kd.V_mono HO_236008.out (fun _ hk => ⟨hk.1.1.1, ⟨hk.1.1.2.2.2.1, ⟨hk.1.2, ⟨hk.2, ⟨hk.1.1.2.1, ⟨hk.1.1.2.2.1, ⟨hk.1.1.2.2.2.2.1, hk.1.1.2.2.2.2.2⟩⟩⟩⟩⟩⟩⟩)), (by (with_reducible repeat (first | apply Va_ | apply VN_ | apply V1_)); exact Kd.V_mono HO_237007.out (fun _ hk => ⟨hk.1.1.1, ⟨hk.1.1.2.2.2.1, ⟨hk.1.2, ⟨hk.2, ⟨hk.1.1.2.1, ⟨hk.1.1.2.2.1, ⟨hk.1.1.2.2.2.2.1, hk.1.1.2.2.2.2.2⟩⟩⟩⟩⟩⟩⟩)), (by (with_reducible repeat (first | apply Kd.N_alloc | apply Kd.N_drewN | apply Kd.N_drew)); exact Kd.N_mono HO_5.out (fun _ hk => ⟨hk.1.1.1, ⟨hk.1.1.2.2.1, ⟨hk.1.2, ⟨hk.2, ⟨hk.1.1.2.1, ⟨hk.1.1.2.2.2.1, hk.1.1.2.2.2.2⟩⟩⟩⟩⟩⟩)), (by (with_reducible repeat (first | apply Ra_ | apply RN_ | apply R1_)); exact Kd.R_mono HO_7.out (fun _ hk => ⟨hk.1.1.1, ⟨hk.1.1.2, ⟨hk.1.2, hk.2⟩⟩⟩)), (wB_ BK235.out), (wB_ BK236.out), (wb2_ HB.out GE235.out GE236.out)⟩)
      skip
      refine Kd.R_lit_step Kd.string _ 9 ?hg (N := 76) ?hd (xs := ([t223] : List ByteArray)) (inner := [.string t223]) (ok := fun _ => True) (okp := fun _ => True) ?hr ?hp (fun _ hk => hk) trivial (Below.refl _ _) (Nat.le_refl _) (by simp) ?_; (case hd => rfl); (case hg => rfl); (case hr => first | (go_simp; done) | (go_simp; rfl)); (case hp => exact (Reps.one (show Kd.M Kd.string _ _ _ t223 [.string t223] from rfl) (Reps.none _ _)))
      intro v252 w45 ho46 hb hg_ hnew_
      clear hg_ hnew_
      (first | rw [← Ny251.out] at ho46 | (simp only [Int.reduceToNat] at ho46; rw [← Ny251.out] at ho46))
      have n0_ := A0_ (Kd.V_elder' (wV_ HO_0.out) (Kd.R_base ho46) hb)
      have n1_ := A0_ (Kd.N_elder' (wN_ HO_5.out) (Kd.R_base ho46) hb)
      have n2_ := A0_ (Kd.R_elder' (wR_ HO_6.out) (Kd.R_base ho46) hb)
      have n3_ := A0_ (Kd.R_elder' (wR_ HO_7.out) (Kd.R_base ho46) hb)
      have n4_ := A0_ (Kd.V_elder' (wV_ HO_236008.out) (Kd.R_base ho46) hb)
      have n5_ := A0_ (Kd.V_elder' (wV_ HO_237007.out) (Kd.R_base ho46) hb)
      have n6_ := A0_ (Kd.R_elder' (wR_ HO247.out) (Kd.R_base ho46) hb)
      have n7_ := A0_ (Kd.R_lower (Kd.R_new' (Kd.R_new' (Kd.R_new' (Kd.R_newM (M := fun k_ => (w.heap.size ≤ k_)) ho46 (below_size (wb2_ HB.out GE235.out GE236.out)) (fun k_ h_ => h_)) (Kd.R_lt (wR_ HO_6.out))) (Kd.R_lt (wR_ HO_7.out))) (Kd.R_lt (wR_ HO247.out))) (below_size (wb2_ HB.out GE235.out GE236.out)))
      have n8_ := A0_ (blk_below (g := gb235) (o := .cells #[.string t223, .string t224, .string t225, .int .u8 t226, .int .i64 t227, .int .i64 t228, .int .i64 t229, .int .i64 t230, .slice Ao10 t231.length co10] 49 (0, 0)) (wB_ BK235.out) hb)
      have n9_ := A0_ (blk_below (g := gb236) (o := .cells #[.string t223, .string t224, .int .u8 t226, .int .i64 t227, .int .i64 t228, .int .i64 t229, .int .i64 t230, .slice Ao10 t231.length co10] 43 (0, 0)) (wB_ BK236.out) hb)
      have n10_ := A0_ (below_step (wb2_ HB.out GE235.out GE236.out) hb)
      clear HO_0
      clear HO_5
      clear HO_6
      clear HO_7
      clear HO_236008
      clear HO_237007
      clear HO247
      clear BK235
      clear BK236
      clear HB
      have HO_0 := n0_
      have HO_5 := n1_
      have HO_6 := n2_
      have HO_7 := n3_
      have HO_236008 := n4_
      have HO_237007 := n5_
      have HO247 := n6_
      have HO253 := n7_
      have BK235 := n8_
      have BK236 := n9_
      have HB := n10_
      clear n0_ n1_ n2_ n3_ n4_ n5_ n6_ n7_ n8_ n9_ n10_
      clear hb ho46
      obtain ⟨Ao48, co48, eo48⟩ := Kd.R_slice HO247.out
      (first | subst eo48 | (injection eo48 with f1_ f2_ f3_; have f4_ := f1_.symm; have f5_ := f3_.symm; clear f1_ f2_ f3_; subst f4_; subst f5_))
      refine hK.out _ _ ⟨(bc_ BK235.out 0).trans rfl, (bc_ BK235.out 1).trans rfl, (bc_ BK235.out 2).trans rfl, (bc_ BK235.out 3).trans rfl, (bc_ BK235.out 4).trans rfl, (bc_ BK235.out 5).trans rfl, (bc_ BK235.out 6).trans rfl, (bc_ BK235.out 7).trans rfl, (bc_ BK235.out 8).trans rfl⟩ (fun hHeld => ?_)
      clear hK K
      refine norm_ (a' := ?_) ?_ ?_
      rotate_left
      ·show Act.put _ (some 76) _ = _
       simp only [Act.put, List.setIfInBounds_toArray, List.set_cons_zero, List.set_cons_succ, i64_w, i32_w]
       rfl
      refine one_ (i := 4) (N := some 72) q13_33 rfl rfl (one_of HT_.out (by kernel_rfl)) (by decide) (fun K hK => ?_)
      refine Kd.R_append_rows_step Kd.string (w0 := w) w.heap.size (by rfl) (.tmp 68) (.tmp 71) 37 9 (.string ⟨#[]⟩) 16 rfl Tryz.underlying37 info9 rfl (by decide) (by omega) (.slice Ao40 x6_1.length co40) x6_1 y245 _ _ _ (fun k_ => (w.heap.size ≤ k_) ∧ some k_ ≠ (.slice Ao41 x7_1.length co41 : Value).ownBlock ∧ some k_ ≠ (.slice Ao48 y245.length co48 : Value).ownBlock ∧ some k_ ≠ (v252 : Value).ownBlock) (fun _ => False) rfl rfl ?aO ?aR (fun _ _ h => h) (fun _ h => h.elim) ?aF ?aB ?aS ?aL ?_
      (case aR => exact wc_ (Kd.R_reads' HO247.out).2.2)
      (case aB => exact (wb2_ HB.out GE235.out GE236.out))
      (case aF => exact (fun k_ hk => ⟨(Nat.le_trans (below_size (wb2_ HB.out GE235.out GE236.out)) hk), Kd.fresh' (Kd.R_lt (wR_ HO_7.out)) k_ hk, Kd.fresh' (Kd.R_lt (wR_ HO247.out)) k_ hk, Kd.fresh' (Kd.R_lt (wR_ HO253.out)) k_ hk⟩))
      (case aO => exact (by (with_reducible repeat (first | apply Ra_ | apply RN_ | apply R1_)); exact Kd.R_mono HO_6.out (fun _ hk => ⟨hk.1.1.1, ⟨hk.1.1.2, ⟨hk.1.2, hk.2⟩⟩⟩)))
      (case aS => exact (below_size (wb2_ HB.out GE235.out GE236.out)))
      (case aL => have := LMc36.out; omega)
      intro v249 w47 ho hb hg hat
      rw [← Ny248.out] at ho
      have n0_ := A0_ (Kd.V_afterv (ok := (fun k_ => (P0_ k_ ∨ w.heap.size ≤ k_) ∧ some k_ ≠ (u5 : Value).ownBlock ∧ some k_ ≠ (.slice Ao41 x7_1.length co41 : Value).ownBlock ∧ some k_ ≠ (.slice Ao48 y245.length co48 : Value).ownBlock ∧ some k_ ≠ (v252 : Value).ownBlock ∧ k_ ≠ gb235 ∧ k_ ≠ gb236)) (by (with_reducible repeat (first | apply Va_ | apply VN_ | apply V1_)); exact Kd.V_mono HO_0.out (fun _ hk => ⟨⟨hk.1.1.1, ⟨hk.1.1.2.1, ⟨hk.1.1.2.2.2.1, ⟨hk.1.2, ⟨hk.2, ⟨hk.1.1.2.2.2.2.1, hk.1.1.2.2.2.2.2⟩⟩⟩⟩⟩⟩, hk.1.1.2.2.1⟩)) hg hat)
      have n1_ := A0_ (Kd.N_afterv (ok := (fun k_ => (P0_ k_ ∨ w.heap.size ≤ k_) ∧ some k_ ≠ (.slice Ao41 x7_1.length co41 : Value).ownBlock ∧ some k_ ≠ (.slice Ao48 y245.length co48 : Value).ownBlock ∧ some k_ ≠ (v252 : Value).ownBlock ∧ k_ ≠ gb235 ∧ k_ ≠ gb236)) (by (with_reducible repeat (first | apply Kd.N_alloc | apply Kd.N_drewN | apply Kd.N_drew)); exact Kd.N_mono HO_5.out (fun _ hk => ⟨⟨hk.1.1.1, ⟨hk.1.1.2.2.1, ⟨hk.1.2, ⟨hk.2, ⟨hk.1.1.2.2.2.1, hk.1.1.2.2.2.2⟩⟩⟩⟩⟩, hk.1.1.2.1⟩)) hg hat)
      have n2_ := A0_ (Kd.R_after (ok := (fun k_ => (w.heap.size ≤ k_) ∧ some k_ ≠ (.slice Ao48 y245.length co48 : Value).ownBlock ∧ some k_ ≠ (v252 : Value).ownBlock)) (by (with_reducible repeat (first | apply Ra_ | apply RN_ | apply R1_)); exact Kd.R_mono HO_7.out (fun _ hk => ⟨⟨hk.1.1.1, ⟨hk.1.2, hk.2⟩⟩, hk.1.1.2⟩)) hg hat)
      have n3_ := A0_ (Kd.V_afterv (ok := (fun k_ => (P0_ k_ ∨ w.heap.size ≤ k_) ∧ some k_ ≠ (u5 : Value).ownBlock ∧ some k_ ≠ (.slice Ao41 x7_1.length co41 : Value).ownBlock ∧ some k_ ≠ (.slice Ao48 y245.length co48 : Value).ownBlock ∧ some k_ ≠ (v252 : Value).ownBlock ∧ k_ ≠ gb235 ∧ k_ ≠ gb236)) (by (with_reducible repeat (first | apply Va_ | apply VN_ | apply V1_)); exact Kd.V_mono HO_236008.out (fun _ hk => ⟨⟨hk.1.1.1, ⟨hk.1.1.2.1, ⟨hk.1.1.2.2.2.1, ⟨hk.1.2, ⟨hk.2, ⟨hk.1.1.2.2.2.2.1, hk.1.1.2.2.2.2.2⟩⟩⟩⟩⟩⟩, hk.1.1.2.2.1⟩)) hg hat)
      have n4_ := A0_ (Kd.V_afterv (ok := (fun k_ => (P0_ k_ ∨ w.heap.size ≤ k_) ∧ some k_ ≠ (u5 : Value).ownBlock ∧ some k_ ≠ (.slice Ao41 x7_1.length co41 : Value).ownBlock ∧ some k_ ≠ (.slice Ao48 y245.length co48 : Value).ownBlock ∧ some k_ ≠ (v252 : Value).ownBlock ∧ k_ ≠ gb235 ∧ k_ ≠ gb236)) (by (with_reducible repeat (first | apply Va_ | apply VN_ | apply V1_)); exact Kd.V_mono HO_237007.out (fun _ hk => ⟨⟨hk.1.1.1, ⟨hk.1.1.2.1, ⟨hk.1.1.2.2.2.1, ⟨hk.1.2, ⟨hk.2, ⟨hk.1.1.2.2.2.2.1, hk.1.1.2.2.2.2.2⟩⟩⟩⟩⟩⟩, hk.1.1.2.2.1⟩)) hg hat)
      have n5_ := A0_ (blk_grown (g := gb235) (o := .cells #[.string t223, .string t224, .string t225, .int .u8 t226, .int .i64 t227, .int .i64 t228, .int .i64 t229, .int .i64 t230, .slice Ao10 t231.length co10] 49 (0, 0)) (wB_ BK235.out) hg (Kd.R_ne HO_6.out BK235.out (by decide)))
      have n6_ := A0_ (blk_grown (g := gb236) (o := .cells #[.string t223, .string t224, .int .u8 t226, .int .i64 t227, .int .i64 t228, .int .i64 t229, .int .i64 t230, .slice Ao10 t231.length co10] 43 (0, 0)) (wB_ BK236.out) hg (Kd.R_ne HO_6.out BK236.out (by decide)))
      have n7_ := A0_ (Kd.R_after (ok := (fun k_ => (w.heap.size ≤ k_) ∧ some k_ ≠ (.slice Ao41 x7_1.length co41 : Value).ownBlock ∧ some k_ ≠ (v252 : Value).ownBlock)) (by (with_reducible repeat (first | apply Ra_ | apply RN_ | apply R1_)); exact Kd.R_mono HO247.out (fun _ hk => ⟨⟨hk.1.1.1.1, ⟨hk.1.2, hk.2⟩⟩, hk.1.1.2⟩)) hg hat)
      have n8_ := A0_ (Kd.R_after (ok := (fun k_ => (w.heap.size ≤ k_) ∧ some k_ ≠ (.slice Ao41 x7_1.length co41 : Value).ownBlock ∧ some k_ ≠ (.slice Ao48 y245.length co48 : Value).ownBlock)) (by (with_reducible repeat (first | apply Ra_ | apply RN_ | apply R1_)); exact Kd.R_mono HO253.out (fun _ hk => ⟨⟨hk.1.1.1.1, ⟨hk.1.2, hk.2⟩⟩, hk.1.1.2⟩)) hg hat)
      have n9_ := A0_ (hb)
      have n10_ := A0_ (ho)
      clear HO_0
      clear HO_5
      clear HO_7
      clear HO_236008
      clear HO_237007
      clear BK235
      clear BK236
      clear HO247
      clear HO253
      clear HB
      clear HO_6
      have HO_0 := n0_
      have HO_5 := n1_
      have HO_7 := n2_
      have HO_236008 := n3_
      have HO_237007 := n4_
      have BK235 := n5_
      have BK236 := n6_
      have HO247 := n7_
      have HO253 := n8_
      have HB := n9_
      have HO250 := n10_
      clear n0_ n1_ n2_ n3_ n4_ n5_ n6_ n7_ n8_ n9_ n10_
      clear ho hb hg hat
      refine hK.out _ _ ⟨(bc_ BK235.out 0).trans rfl, (bc_ BK235.out 1).trans rfl, (bc_ BK235.out 2).trans rfl, (bc_ BK235.out 3).trans rfl, (bc_ BK235.out 4).trans rfl, (bc_ BK235.out 5).trans rfl, (bc_ BK235.out 6).trans rfl, (bc_ BK235.out 7).trans rfl, (bc_ BK235.out 8).trans rfl⟩ (fun hHeld => ?_)
      clear hK K
      refine norm_ (a' := ?_) ?_ ?_
      rotate_left
      ·show Act.put _ (some 72) _ = _
       simp only [Act.put, List.setIfInBounds_toArray, List.set_cons_zero, List.set_cons_succ, i64_w, i32_w]
       rfl
      exact norm_ (by simp only [putAll, Act.put, List.setIfInBounds_toArray, List.set_cons_zero, List.set_cons_succ]) (hCont (.slice Ao48 y245.length co48, v249, v252) _ ⟨hHeld, (by (with_reducible repeat (first | apply Ra_ | apply RN_ | apply R1_)); exact Kd.R_mono HO247.out (fun _ hk => ⟨hk.1.1, ⟨hk.2, ⟨hk.1.2.2, hk.1.2.1⟩⟩⟩)), (by (with_reducible repeat (first | apply Ra_ | apply RN_ | apply R1_)); exact Kd.R_mono HO250.out (fun _ hk => ⟨hk.1, ⟨hk.2.2.1, ⟨hk.2.2.2, hk.2.1⟩⟩⟩)), (by (with_reducible repeat (first | apply Ra_ | apply RN_ | apply R1_)); exact Kd.R_mono HO253.out (fun _ hk => ⟨hk.1.1, ⟨hk.1.2.2, ⟨hk.2, hk.1.2.1⟩⟩⟩)), (by (with_reducible repeat (first | apply Va_ | apply VN_ | apply V1_)); exact Kd.V_mono HO_0.out (fun _ hk => ⟨hk.1.1, ⟨hk.1.2.2.2.1, ⟨hk.2, ⟨hk.1.2.2.2.2.1, ⟨hk.1.2.1, ⟨hk.1.2.2.1, ⟨hk.1.2.2.2.2.2.1, hk.1.2.2.2.2.2.2⟩⟩⟩⟩⟩⟩⟩)), (by (with_reducible repeat (first | apply Va_ | apply VN_ | apply V1_)); exact Kd.V_mono HO_236008.out (fun _ hk => ⟨hk.1.1, ⟨hk.1.2.2.2.1, ⟨hk.2, ⟨hk.1.2.2.2.2.1, ⟨hk.1.2.1, ⟨hk.1.2.2.1, ⟨hk.1.2.2.2.2.2.1, hk.1.2.2.2.2.2.2⟩⟩⟩⟩⟩⟩⟩)), (by (with_reducible repeat (first | apply Va_ | apply VN_ | apply V1_)); exact Kd.V_mono HO_237007.out (fun _ hk => ⟨hk.1.1, ⟨hk.1.2.2.2.1, ⟨hk.2, ⟨hk.1.2.2.2.2.1, ⟨hk.1.2.1, ⟨hk.1.2.2.1, ⟨hk.1.2.2.2.2.2.1, hk.1.2.2.2.2.2.2⟩⟩⟩⟩⟩⟩⟩)), (by (with_reducible repeat (first | apply Kd.N_alloc | apply Kd.N_drewN | apply Kd.N_drew)); exact Kd.N_mono HO_5.out (fun _ hk => ⟨hk.1.1, ⟨hk.1.2.2.1, ⟨hk.2, ⟨hk.1.2.2.2.1, ⟨hk.1.2.1, ⟨hk.1.2.2.2.2.1, hk.1.2.2.2.2.2⟩⟩⟩⟩⟩⟩)), (by (with_reducible repeat (first | apply Ra_ | apply RN_ | apply R1_)); exact Kd.R_mono HO_7.out (fun _ hk => ⟨hk.1.1, ⟨hk.1.2.1, ⟨hk.2, hk.1.2.2⟩⟩⟩)), (wB_ BK235.out), (wB_ BK236.out), (wb2_ HB.out GE235.out GE236.out)⟩)
     rintro ⟨v246, v249, v252⟩ w49 ⟨hS_, h0_, h1_, h2_, h3_, h4_, h5_, h6_, h7_, h8_, h9_, h10_⟩
     have n0_ : Aside0 (Kd.R Kd.string 9 w49 w.heap.size (fun k_ => (w.heap.size ≤ k_) ∧ some k_ ≠ (v249 : Value).ownBlock ∧ some k_ ≠ (v252 : Value).ownBlock ∧ some k_ ≠ (.slice Ao41 x7_1.length co41 : Value).ownBlock) v246 y245) := ⟨h0_⟩
     have n1_ : Aside0 (Kd.R Kd.string 9 w49 w.heap.size (fun k_ => (w.heap.size ≤ k_) ∧ some k_ ≠ (v246 : Value).ownBlock ∧ some k_ ≠ (v252 : Value).ownBlock ∧ some k_ ≠ (.slice Ao41 x7_1.length co41 : Value).ownBlock) v249 y248) := ⟨h1_⟩
     have n2_ : Aside0 (Kd.R Kd.string 9 w49 w.heap.size (fun k_ => (w.heap.size ≤ k_) ∧ some k_ ≠ (v246 : Value).ownBlock ∧ some k_ ≠ (v249 : Value).ownBlock ∧ some k_ ≠ (.slice Ao41 x7_1.length co41 : Value).ownBlock) v252 y251) := ⟨h2_⟩
     have n3_ : Aside0 (Kd.V k49 49 w49 w.heap.size (fun k_ => (P0_ k_ ∨ w.heap.size ≤ k_) ∧ some k_ ≠ (v246 : Value).ownBlock ∧ some k_ ≠ (v249 : Value).ownBlock ∧ some k_ ≠ (v252 : Value).ownBlock ∧ some k_ ≠ (u5 : Value).ownBlock ∧ some k_ ≠ (.slice Ao41 x7_1.length co41 : Value).ownBlock ∧ k_ ≠ gb235 ∧ k_ ≠ gb236) (.slice A0 l0.length c0) l0) := ⟨h3_⟩
     have n4_ : Aside0 (Kd.V (Kd.int .u8) 5 w49 w.heap.size (fun k_ => (P0_ k_ ∨ w.heap.size ≤ k_) ∧ some k_ ≠ (v246 : Value).ownBlock ∧ some k_ ≠ (v249 : Value).ownBlock ∧ some k_ ≠ (v252 : Value).ownBlock ∧ some k_ ≠ (u5 : Value).ownBlock ∧ some k_ ≠ (.slice Ao41 x7_1.length co41 : Value).ownBlock ∧ k_ ≠ gb235 ∧ k_ ≠ gb236) (.slice Ao10 t231.length co10) t231) := ⟨h4_⟩
     have n5_ : Aside0 (Kd.V (Kd.int .u8) 5 w49 w.heap.size (fun k_ => (P0_ k_ ∨ w.heap.size ≤ k_) ∧ some k_ ≠ (v246 : Value).ownBlock ∧ some k_ ≠ (v249 : Value).ownBlock ∧ some k_ ≠ (v252 : Value).ownBlock ∧ some k_ ≠ (u5 : Value).ownBlock ∧ some k_ ≠ (.slice Ao41 x7_1.length co41 : Value).ownBlock ∧ k_ ≠ gb235 ∧ k_ ≠ gb236) (.slice Ao10 t231.length co10) t231) := ⟨h5_⟩
     have n6_ : Aside0 (Kd.N k43 43 w49 w.heap.size (fun k_ => (P0_ k_ ∨ w.heap.size ≤ k_) ∧ some k_ ≠ (v246 : Value).ownBlock ∧ some k_ ≠ (v249 : Value).ownBlock ∧ some k_ ≠ (v252 : Value).ownBlock ∧ some k_ ≠ (.slice Ao41 x7_1.length co41 : Value).ownBlock ∧ k_ ≠ gb235 ∧ k_ ≠ gb236) u5 x5_1) := ⟨h6_⟩
     have n7_ : Aside0 (Kd.R Kd.string 9 w49 w.heap.size (fun k_ => (w.heap.size ≤ k_) ∧ some k_ ≠ (v246 : Value).ownBlock ∧ some k_ ≠ (v249 : Value).ownBlock ∧ some k_ ≠ (v252 : Value).ownBlock) (.slice Ao41 x7_1.length co41) x7_1) := ⟨h7_⟩
     have n8_ : Aside0 (w49.heap[gb235]? = some (.cells #[.string t223, .string t224, .string t225, .int .u8 t226, .int .i64 t227, .int .i64 t228, .int .i64 t229, .int .i64 t230, .slice Ao10 t231.length co10] 49 (0, 0))) := ⟨h8_⟩
     have n9_ : Aside0 (w49.heap[gb236]? = some (.cells #[.string t223, .string t224, .int .u8 t226, .int .i64 t227, .int .i64 t228, .int .i64 t229, .int .i64 t230, .slice Ao10 t231.length co10] 43 (0, 0))) := ⟨h9_⟩
     have n10_ : Aside0 (Below w.heap.size w w49) := ⟨h10_⟩
     clear HO_0
     clear HO_5
     clear HO_6
     clear HO_7
     clear HO_236008
     clear HO_237007
     clear BK235
     clear BK236
     clear HB
     clear h0_ h1_ h2_ h3_ h4_ h5_ h6_ h7_ h8_ h9_ h10_
     have HO247 := n0_
     have HO250 := n1_
     have HO253 := n2_
     have HO_0 := n3_
     have HO_236008 := n4_
     have HO_237007 := n5_
     have HO_5 := n6_
     have HO_7 := n7_
     have BK235 := n8_
     have BK236 := n9_
     have HB := n10_
     clear n0_ n1_ n2_ n3_ n4_ n5_ n6_ n7_ n8_ n9_ n10_
     have hHeld : w49.cell? ⟨gb235, 0, none⟩ = some (.string t223) ∧ w49.cell? ⟨gb235, 1, none⟩ = some (.string t224) ∧ w49.cell? ⟨gb235, 2, none⟩ = some (.string t225) ∧ w49.cell? ⟨gb235, 3, none⟩ = some (.int .u8 t226) ∧ w49.cell? ⟨gb235, 4, none⟩ = some (.int .i64 t227) ∧ w49.cell? ⟨gb235, 5, none⟩ = some (.int .i64 t228) ∧ w49.cell? ⟨gb235, 6, none⟩ = some (.int .i64 t229) ∧ w49.cell? ⟨gb235, 7, none⟩ = some (.int .i64 t230) ∧ w49.cell? ⟨gb235, 8, none⟩ = some (.slice Ao10 t231.length co10) := hS_
     obtain ⟨Ao51, co51, eo51⟩ := Kd.R_slice HO253.out
     (first | subst eo51 | (injection eo51 with f1_ f2_ f3_; have f4_ := f1_.symm; have f5_ := f3_.symm; clear f1_ f2_ f3_; subst f4_; subst f5_))
     refine norm_ (a' := ?_) ?_ ?_
     rotate_left
     ·simp only [putAll, Act.put, List.setIfInBounds_toArray, List.set_cons_zero, List.set_cons_succ]
      rfl
     refine one_ (i := 9) (N := some 77) q13_38 rfl rfl (one_of HT_.out (by kernel_rfl)) (by decide) (fun K hK => ?_)
     refine Kd.R_append_rows_step Kd.string (w0 := w) w.heap.size (by rfl) (.tmp 73) (.tmp 76) 37 9 (.string ⟨#[]⟩) 16 rfl Tryz.underlying37 info9 rfl (by decide) (by omega) (.slice Ao41 x7_1.length co41) x7_1 y251 _ _ _ (fun k_ => (w.heap.size ≤ k_) ∧ some k_ ≠ (v246 : Value).ownBlock ∧ some k_ ≠ (v249 : Value).ownBlock ∧ some k_ ≠ (.slice Ao51 y251.length co51 : Value).ownBlock) (fun _ => False) rfl rfl ?aO ?aR (fun _ _ h => h) (fun _ h => h.elim) ?aF ?aB ?aS ?aL ?_
     (case aR => exact wc_ (Kd.R_reads' HO253.out).2.2)
     (case aB => exact (wb2_ HB.out GE235.out GE236.out))
     (case aF => exact (fun k_ hk => ⟨(Nat.le_trans (below_size (wb2_ HB.out GE235.out GE236.out)) hk), Kd.fresh' (Kd.R_lt (wR_ HO247.out)) k_ hk, Kd.fresh' (Kd.R_lt (wR_ HO250.out)) k_ hk, Kd.fresh' (Kd.R_lt (wR_ HO253.out)) k_ hk⟩))
     (case aO => exact (wR_ HO_7.out))
     (case aS => exact (below_size (wb2_ HB.out GE235.out GE236.out)))
     (case aL => have := LMc37.out; omega)
     intro v255 w50 ho hb hg hat
     rw [← Ny254.out] at ho
     have n0_ := A0_ (Kd.V_afterv (ok := (fun k_ => (P0_ k_ ∨ w.heap.size ≤ k_) ∧ some k_ ≠ (u5 : Value).ownBlock ∧ some k_ ≠ (v246 : Value).ownBlock ∧ some k_ ≠ (v249 : Value).ownBlock ∧ some k_ ≠ (.slice Ao51 y251.length co51 : Value).ownBlock ∧ k_ ≠ gb235 ∧ k_ ≠ gb236)) (by (with_reducible repeat (first | apply Va_ | apply VN_ | apply V1_)); exact Kd.V_mono HO_0.out (fun _ hk => ⟨⟨hk.1, ⟨hk.2.2.2.2.1, ⟨hk.2.1, ⟨hk.2.2.1, ⟨hk.2.2.2.1, ⟨hk.2.2.2.2.2.2.1, hk.2.2.2.2.2.2.2⟩⟩⟩⟩⟩⟩, hk.2.2.2.2.2.1⟩)) hg hat)
     have n1_ := A0_ (Kd.N_afterv (ok := (fun k_ => (P0_ k_ ∨ w.heap.size ≤ k_) ∧ some k_ ≠ (v246 : Value).ownBlock ∧ some k_ ≠ (v249 : Value).ownBlock ∧ some k_ ≠ (.slice Ao51 y251.length co51 : Value).ownBlock ∧ k_ ≠ gb235 ∧ k_ ≠ gb236)) (by (with_reducible repeat (first | apply Kd.N_alloc | apply Kd.N_drewN | apply Kd.N_drew)); exact Kd.N_mono HO_5.out (fun _ hk => ⟨⟨hk.1, ⟨hk.2.1, ⟨hk.2.2.1, ⟨hk.2.2.2.1, ⟨hk.2.2.2.2.2.1, hk.2.2.2.2.2.2⟩⟩⟩⟩⟩, hk.2.2.2.2.1⟩)) hg hat)
     have n2_ := A0_ (Kd.V_afterv (ok := (fun k_ => (P0_ k_ ∨ w.heap.size ≤ k_) ∧ some k_ ≠ (u5 : Value).ownBlock ∧ some k_ ≠ (v246 : Value).ownBlock ∧ some k_ ≠ (v249 : Value).ownBlock ∧ some k_ ≠ (.slice Ao51 y251.length co51 : Value).ownBlock ∧ k_ ≠ gb235 ∧ k_ ≠ gb236)) (by (with_reducible repeat (first | apply Va_ | apply VN_ | apply V1_)); exact Kd.V_mono HO_236008.out (fun _ hk => ⟨⟨hk.1, ⟨hk.2.2.2.2.1, ⟨hk.2.1, ⟨hk.2.2.1, ⟨hk.2.2.2.1, ⟨hk.2.2.2.2.2.2.1, hk.2.2.2.2.2.2.2⟩⟩⟩⟩⟩⟩, hk.2.2.2.2.2.1⟩)) hg hat)
     have n3_ := A0_ (Kd.V_afterv (ok := (fun k_ => (P0_ k_ ∨ w.heap.size ≤ k_) ∧ some k_ ≠ (u5 : Value).ownBlock ∧ some k_ ≠ (v246 : Value).ownBlock ∧ some k_ ≠ (v249 : Value).ownBlock ∧ some k_ ≠ (.slice Ao51 y251.length co51 : Value).ownBlock ∧ k_ ≠ gb235 ∧ k_ ≠ gb236)) (by (with_reducible repeat (first | apply Va_ | apply VN_ | apply V1_)); exact Kd.V_mono HO_237007.out (fun _ hk => ⟨⟨hk.1, ⟨hk.2.2.2.2.1, ⟨hk.2.1, ⟨hk.2.2.1, ⟨hk.2.2.2.1, ⟨hk.2.2.2.2.2.2.1, hk.2.2.2.2.2.2.2⟩⟩⟩⟩⟩⟩, hk.2.2.2.2.2.1⟩)) hg hat)
     have n4_ := A0_ (blk_grown (g := gb235) (o := .cells #[.string t223, .string t224, .string t225, .int .u8 t226, .int .i64 t227, .int .i64 t228, .int .i64 t229, .int .i64 t230, .slice Ao10 t231.length co10] 49 (0, 0)) (wB_ BK235.out) hg (Kd.R_ne HO_7.out BK235.out (by decide)))
     have n5_ := A0_ (blk_grown (g := gb236) (o := .cells #[.string t223, .string t224, .int .u8 t226, .int .i64 t227, .int .i64 t228, .int .i64 t229, .int .i64 t230, .slice Ao10 t231.length co10] 43 (0, 0)) (wB_ BK236.out) hg (Kd.R_ne HO_7.out BK236.out (by decide)))
     have n6_ := A0_ (Kd.R_after (ok := (fun k_ => (w.heap.size ≤ k_) ∧ some k_ ≠ (v249 : Value).ownBlock ∧ some k_ ≠ (.slice Ao51 y251.length co51 : Value).ownBlock)) (by (with_reducible repeat (first | apply Ra_ | apply RN_ | apply R1_)); exact Kd.R_mono HO247.out (fun _ hk => ⟨⟨hk.1, ⟨hk.2.1, hk.2.2.1⟩⟩, hk.2.2.2⟩)) hg hat)
     have n7_ := A0_ (Kd.R_after (ok := (fun k_ => (w.heap.size ≤ k_) ∧ some k_ ≠ (v246 : Value).ownBlock ∧ some k_ ≠ (.slice Ao51 y251.length co51 : Value).ownBlock)) (by (with_reducible repeat (first | apply Ra_ | apply RN_ | apply R1_)); exact Kd.R_mono HO250.out (fun _ hk => ⟨⟨hk.1, ⟨hk.2.1, hk.2.2.1⟩⟩, hk.2.2.2⟩)) hg hat)
     have n8_ := A0_ (Kd.R_after (ok := (fun k_ => (w.heap.size ≤ k_) ∧ some k_ ≠ (v246 : Value).ownBlock ∧ some k_ ≠ (v249 : Value).ownBlock)) (by (with_reducible repeat (first | apply Ra_ | apply RN_ | apply R1_)); exact Kd.R_mono HO253.out (fun _ hk => ⟨⟨hk.1, ⟨hk.2.1, hk.2.2.1⟩⟩, hk.2.2.2⟩)) hg hat)
     have n9_ := A0_ (hb)
     have n10_ := A0_ (ho)
     clear HO_0
     clear HO_5
     clear HO_236008
     clear HO_237007
     clear BK235
     clear BK236
     clear HO247
     clear HO250
     clear HO253
     clear HB
     clear HO_7
     have HO_0 := n0_
     have HO_5 := n1_
     have HO_236008 := n2_
     have HO_237007 := n3_
     have BK235 := n4_
     have BK236 := n5_
     have HO247 := n6_
     have HO250 := n7_
     have HO253 := n8_
     have HB := n9_
     have HO256 := n10_
     clear n0_ n1_ n2_ n3_ n4_ n5_ n6_ n7_ n8_ n9_ n10_
     clear ho hb hg hat
     refine hK.out _ _ ⟨(bc_ BK235.out 0).trans rfl, (bc_ BK235.out 1).trans rfl, (bc_ BK235.out 2).trans rfl, (bc_ BK235.out 3).trans rfl, (bc_ BK235.out 4).trans rfl, (bc_ BK235.out 5).trans rfl, (bc_ BK235.out 6).trans rfl, (bc_ BK235.out 7).trans rfl, (bc_ BK235.out 8).trans rfl⟩ (fun hHeld => ?_)
     clear hK K
     refine norm_ (a' := ?_) ?_ ?_
     rotate_left
     ·show Act.put _ (some 77) _ = _
      simp only [Act.put, List.setIfInBounds_toArray, List.set_cons_zero, List.set_cons_succ, i64_w, i32_w]
      rfl
     refine pur_ (i := 10) (N := some 6) q13_39 (any_of HT_.out (by kernel_rfl)) ?_
     refine pur_ (i := 11) (N := some 7) q13_40 (any_of HT_.out (by kernel_rfl)) ?_
     refine done_ (done_of HT_.out (by kernel_rfl)) ?_
     have hnb52 := NB236_235.out
     have hnc52 := NB235_236.out
     have hcz53_0 : w50.cell? ⟨gb236, 0, none⟩ = some (.string t223) := (bc_ BK236.out 0).trans rfl
     have hcz53_1 : w50.cell? ⟨gb236, 1, none⟩ = some (.string t224) := (bc_ BK236.out 1).trans rfl
     have hcz53_2 : w50.cell? ⟨gb236, 2, none⟩ = some (.int .u8 t226) := (bc_ BK236.out 2).trans rfl
     have hcz53_3 : w50.cell? ⟨gb236, 3, none⟩ = some (.int .i64 t227) := (bc_ BK236.out 3).trans rfl
     have hcz53_4 : w50.cell? ⟨gb236, 4, none⟩ = some (.int .i64 t228) := (bc_ BK236.out 4).trans rfl
     have hcz53_5 : w50.cell? ⟨gb236, 5, none⟩ = some (.int .i64 t229) := (bc_ BK236.out 5).trans rfl
     have hcz53_6 : w50.cell? ⟨gb236, 6, none⟩ = some (.int .i64 t230) := (bc_ BK236.out 6).trans rfl
     have hcz53_7 : w50.cell? ⟨gb236, 7, none⟩ = some (.slice Ao10 t231.length co10) := (bc_ BK236.out 7).trans rfl
     have hfz53_0 := bf_ BK236.out 0
     have hfz53_1 := bf_ BK236.out 1
     have hfz53_2 := bf_ BK236.out 2
     have hfz53_3 := bf_ BK236.out 3
     have hfz53_4 := bf_ BK236.out 4
     have hfz53_5 := bf_ BK236.out 5
     have hfz53_6 := bf_ BK236.out 6
     have hfz53_7 := bf_ BK236.out 7
     try go_wp2_with (first | ((with_reducible refine gate_dst (N := 80) rfl ?_); refine Kd.N_lit k43 _ 43 ?hg (N' := 80) ?hd (xs := ([(⟨t223, t224, t226, (⟨t227, t228, t229, t230⟩ : S40), t231⟩ : S43)] : List (S43))) (inner := [.string t223, .string t224, .int .u8 t226, .int .i64 t227, .int .i64 t228, .int .i64 t229, .int .i64 t230, .slice Ao10 t231.length co10]) (ok := (fun k_ => (P0_ k_ ∨ w.heap.size ≤ k_) ∧ some k_ ≠ (u5 : Value).ownBlock ∧ some k_ ≠ (v246 : Value).ownBlock ∧ some k_ ≠ (v249 : Value).ownBlock ∧ some k_ ≠ (.slice Ao51 y251.length co51 : Value).ownBlock ∧ some k_ ≠ (v255 : Value).ownBlock ∧ k_ ≠ gb235 ∧ k_ ≠ gb236)) (okp := (fun k_ => (P0_ k_ ∨ w.heap.size ≤ k_) ∧ some k_ ≠ (u5 : Value).ownBlock ∧ some k_ ≠ (v246 : Value).ownBlock ∧ some k_ ≠ (v249 : Value).ownBlock ∧ some k_ ≠ (.slice Ao51 y251.length co51 : Value).ownBlock ∧ some k_ ≠ (v255 : Value).ownBlock ∧ k_ ≠ gb235 ∧ k_ ≠ gb236)) ?hr ?hp (fun _ hk => hk) ((show ∀ k_, w50.heap.size ≤ k_ → (fun k_ => (P0_ k_ ∨ w.heap.size ≤ k_) ∧ some k_ ≠ (u5 : Value).ownBlock ∧ some k_ ≠ (v246 : Value).ownBlock ∧ some k_ ≠ (v249 : Value).ownBlock ∧ some k_ ≠ (.slice Ao51 y251.length co51 : Value).ownBlock ∧ some k_ ≠ (v255 : Value).ownBlock ∧ k_ ≠ gb235 ∧ k_ ≠ gb236) k_ from fun k_ hk => ⟨(.inr (Nat.le_trans (below_size (wb2_ HB.out GE235.out GE236.out)) hk)), Kd.fresh' (Kd.N_lt (wN_ HO_5.out)) k_ hk, Kd.fresh' (Kd.R_lt (wR_ HO247.out)) k_ hk, Kd.fresh' (Kd.R_lt (wR_ HO250.out)) k_ hk, Kd.fresh' (Kd.R_lt (wR_ HO253.out)) k_ hk, Kd.fresh' (Kd.R_lt (wR_ HO256.out)) k_ hk, Kd.freshB (g := gb235) (o := .cells #[.string t223, .string t224, .string t225, .int .u8 t226, .int .i64 t227, .int .i64 t228, .int .i64 t229, .int .i64 t230, .slice Ao10 t231.length co10] 49 (0, 0)) (wB_ BK235.out) k_ hk, Kd.freshB (g := gb236) (o := .cells #[.string t223, .string t224, .int .u8 t226, .int .i64 t227, .int .i64 t228, .int .i64 t229, .int .i64 t230, .slice Ao10 t231.length co10] 43 (0, 0)) (wB_ BK236.out) k_ hk⟩) _ (Nat.le_refl _)) (Below.refl _ _) (Nat.le_refl _) (by simp) ?_; (case hd => rfl); (case hg => rfl); (case hr => first | (go_simp; done) | (go_simp; rfl)); (case hp => exact (Reps.c8 (show Kd.FK k43 _ _ (⟨t223, t224, t226, (⟨t227, t228, t229, t230⟩ : S40), t231⟩ : S43) [.string t223, .string t224, .int .u8 t226, .int .i64 t227, .int .i64 t228, .int .i64 t229, .int .i64 t230, .slice Ao10 t231.length co10] from (k43_mkF _ _ (⟨t223, t224, t226, (⟨t227, t228, t229, t230⟩ : S40), t231⟩ : S43) (Kd.V_reads' (Kd.V_mono (ok' := (fun k_ => (P0_ k_ ∨ w.heap.size ≤ k_) ∧ some k_ ≠ (u5 : Value).ownBlock ∧ some k_ ≠ (v246 : Value).ownBlock ∧ some k_ ≠ (v249 : Value).ownBlock ∧ some k_ ≠ (.slice Ao51 y251.length co51 : Value).ownBlock ∧ some k_ ≠ (v255 : Value).ownBlock ∧ k_ ≠ gb235 ∧ k_ ≠ gb236)) (HO_237007.out) (fun k_ hk => ⟨hk.1.1, ⟨hk.1.2.1, ⟨hk.1.2.2.1, ⟨hk.1.2.2.2.1, ⟨hk.1.2.2.2.2.1, ⟨hk.2, ⟨hk.1.2.2.2.2.2.1, hk.1.2.2.2.2.2.2⟩⟩⟩⟩⟩⟩⟩))).2.1 (Kd.V_F (Kd.V_mono (ok' := (fun k_ => (P0_ k_ ∨ w.heap.size ≤ k_) ∧ some k_ ≠ (u5 : Value).ownBlock ∧ some k_ ≠ (v246 : Value).ownBlock ∧ some k_ ≠ (v249 : Value).ownBlock ∧ some k_ ≠ (.slice Ao51 y251.length co51 : Value).ownBlock ∧ some k_ ≠ (v255 : Value).ownBlock ∧ k_ ≠ gb235 ∧ k_ ≠ gb236)) (HO_237007.out) (fun k_ hk => ⟨hk.1.1, ⟨hk.1.2.1, ⟨hk.1.2.2.1, ⟨hk.1.2.2.2.1, ⟨hk.1.2.2.2.2.1, ⟨hk.2, ⟨hk.1.2.2.2.2.2.1, hk.1.2.2.2.2.2.2⟩⟩⟩⟩⟩⟩⟩))))) (Reps.none _ _))); intro v258 w54 ho55 hb hg_ hnew_; clear hg_ hnew_; (first | rw [← Ny257.out] at ho55 | (simp only [Int.reduceToNat] at ho55; rw [← Ny257.out] at ho55)); have n0_ := A0_ (Kd.V_elder' (wV_ HO_0.out) (Kd.N_base ho55) hb); have n1_ := A0_ (Kd.N_elder' (wN_ HO_5.out) (Kd.N_base ho55) hb); have n2_ := A0_ (Kd.V_elder' (wV_ HO_236008.out) (Kd.N_base ho55) hb); have n3_ := A0_ (Kd.V_elder' (wV_ HO_237007.out) (Kd.N_base ho55) hb); have n4_ := A0_ (Rb_ (wR_ HO247.out) hb); have n5_ := A0_ (Rb_ (wR_ HO250.out) hb); have n6_ := A0_ (Rb_ (wR_ HO253.out) hb); have n7_ := A0_ (Rb_ (wR_ HO256.out) hb); have n8_ := A0_ (Kd.N_lower ho55 (below_size (wb2_ HB.out GE235.out GE236.out))); have n9_ := A0_ (blk_below (g := gb235) (o := .cells #[.string t223, .string t224, .string t225, .int .u8 t226, .int .i64 t227, .int .i64 t228, .int .i64 t229, .int .i64 t230, .slice Ao10 t231.length co10] 49 (0, 0)) (wB_ BK235.out) hb); have n10_ := A0_ (blk_below (g := gb236) (o := .cells #[.string t223, .string t224, .int .u8 t226, .int .i64 t227, .int .i64 t228, .int .i64 t229, .int .i64 t230, .slice Ao10 t231.length co10] 43 (0, 0)) (wB_ BK236.out) hb); have n11_ := A0_ (below_step (wb2_ HB.out GE235.out GE236.out) hb); clear HO_0; clear HO_5; clear HO_236008; clear HO_237007; clear HO247; clear HO250; clear HO253; clear HO256; clear BK235; clear BK236; clear HB; have HO_0 := n0_; have HO_5 := n1_; have HO_236008 := n2_; have HO_237007 := n3_; have HO247 := n4_; have HO250 := n5_; have HO253 := n6_; have HO256 := n7_; have HO259 := n8_; have BK235 := n9_; have BK236 := n10_; have HB := n11_; clear n0_ n1_ n2_ n3_ n4_ n5_ n6_ n7_ n8_ n9_ n10_ n11_; clear hb ho55; obtain ⟨Ao57, co57, eo57⟩ := Kd.N_slice HO259.out; subst eo57) | ((with_reducible refine gate_builtin (b := .append) (xs := #[.tmp 78, .tmp 80]) rfl ?_); at_builtin; refine Kd.N_append_rows k43 (w0 := w) w.heap.size rfl (.tmp 78) (.tmp 80) 22 43 (.agg #[(.string ⟨#[]⟩), (.string ⟨#[]⟩), (.int .u8 0), (.int .i64 0), (.int .i64 0), (.int .i64 0), (.int .i64 0), (.slice none 0 0)]) 96 rfl Tryz.underlying22 info43 rfl (by decide) (by omega) u5 x5_1 y257 _ _ _ (fun k_ => (P0_ k_ ∨ w.heap.size ≤ k_) ∧ some k_ ≠ (v246 : Value).ownBlock ∧ some k_ ≠ (v249 : Value).ownBlock ∧ some k_ ≠ (.slice Ao51 y251.length co51 : Value).ownBlock ∧ some k_ ≠ (v255 : Value).ownBlock ∧ k_ ≠ gb235 ∧ k_ ≠ gb236) (fun k_ => ((fun k_ => (P0_ k_ ∨ w.heap.size ≤ k_) ∧ some k_ ≠ (v246 : Value).ownBlock ∧ some k_ ≠ (v249 : Value).ownBlock ∧ some k_ ≠ (.slice Ao51 y251.length co51 : Value).ownBlock ∧ some k_ ≠ (v255 : Value).ownBlock ∧ k_ ≠ gb235 ∧ k_ ≠ gb236)) k_ ∧ some k_ ≠ (u5 : Value).ownBlock) rfl rfl ?aO ?aR (fun _ hk => hk) ?aF ?aB ?aS ?aL ?_; (case aR => exact (by skip; exact Kd.N_F (Kd.N_mono (ok' := (fun k_ => ((fun k_ => (P0_ k_ ∨ w.heap.size ≤ k_) ∧ some k_ ≠ (v246 : Value).ownBlock ∧ some k_ ≠ (v249 : Value).ownBlock ∧ some k_ ≠ (.slice Ao51 y251.length co51 : Value).ownBlock ∧ some k_ ≠ (v255 : Value).ownBlock ∧ k_ ≠ gb235 ∧ k_ ≠ gb236)) k_ ∧ some k_ ≠ (u5 : Value).ownBlock)) (HO259.out) (fun k_ hk => ⟨⟨hk.1, ⟨hk.2.2.1, ⟨hk.2.2.2.1, ⟨hk.2.2.2.2.1, ⟨hk.2.2.2.2.2.1, ⟨hk.2.2.2.2.2.2.1, hk.2.2.2.2.2.2.2⟩⟩⟩⟩⟩⟩, hk.2.1⟩)))); (case aB => exact (wb2_ HB.out GE235.out GE236.out)); (case aF => exact (fun k_ hk => ⟨(.inr (Nat.le_trans (below_size (wb2_ HB.out GE235.out GE236.out)) hk)), Kd.fresh' (Kd.R_lt (wR_ HO247.out)) k_ hk, Kd.fresh' (Kd.R_lt (wR_ HO250.out)) k_ hk, Kd.fresh' (Kd.R_lt (wR_ HO253.out)) k_ hk, Kd.fresh' (Kd.R_lt (wR_ HO256.out)) k_ hk, Kd.freshB (g := gb235) (o := .cells #[.string t223, .string t224, .string t225, .int .u8 t226, .int .i64 t227, .int .i64 t228, .int .i64 t229, .int .i64 t230, .slice Ao10 t231.length co10] 49 (0, 0)) (wB_ BK235.out) k_ hk, Kd.freshB (g := gb236) (o := .cells #[.string t223, .string t224, .int .u8 t226, .int .i64 t227, .int .i64 t228, .int .i64 t229, .int .i64 t230, .slice Ao10 t231.length co10] 43 (0, 0)) (wB_ BK236.out) k_ hk⟩)); (case aO => exact (by (with_reducible repeat (first | apply Kd.N_alloc | apply Kd.N_drewN | apply Kd.N_drew)); exact Kd.N_mono HO_5.out (fun _ hk => ⟨hk.1.1.1, ⟨hk.1.1.2.1, ⟨hk.1.1.2.2.1, ⟨hk.1.1.2.2.2.1, ⟨hk.1.2, ⟨hk.1.1.2.2.2.2.1, hk.1.1.2.2.2.2.2⟩⟩⟩⟩⟩⟩))); (case aS => exact (below_size (wb2_ HB.out GE235.out GE236.out))); (case aL => have := LMc38.out; omega); intro v261 w56 ho hb hg hat; rw [← Ny260.out] at ho; have n0_ := A0_ (Kd.V_afterv (ok := (fun k_ => (P0_ k_ ∨ w.heap.size ≤ k_) ∧ some k_ ≠ (v246 : Value).ownBlock ∧ some k_ ≠ (v249 : Value).ownBlock ∧ some k_ ≠ (.slice Ao51 y251.length co51 : Value).ownBlock ∧ some k_ ≠ (v255 : Value).ownBlock ∧ some k_ ≠ (.slice Ao57 y257.length co57 : Value).ownBlock ∧ k_ ≠ gb235 ∧ k_ ≠ gb236)) (by (with_reducible repeat (first | apply Va_ | apply VN_ | apply V1_)); exact Kd.V_mono HO_0.out (fun _ hk => ⟨⟨hk.1.1.1, ⟨hk.1.1.2.2.1, ⟨hk.1.1.2.2.2.1, ⟨hk.1.1.2.2.2.2.1, ⟨hk.1.2, ⟨hk.2, ⟨hk.1.1.2.2.2.2.2.1, hk.1.1.2.2.2.2.2.2⟩⟩⟩⟩⟩⟩⟩, hk.1.1.2.1⟩)) hg hat); have n1_ := A0_ (Kd.V_afterv (ok := (fun k_ => (P0_ k_ ∨ w.heap.size ≤ k_) ∧ some k_ ≠ (v246 : Value).ownBlock ∧ some k_ ≠ (v249 : Value).ownBlock ∧ some k_ ≠ (.slice Ao51 y251.length co51 : Value).ownBlock ∧ some k_ ≠ (v255 : Value).ownBlock ∧ some k_ ≠ (.slice Ao57 y257.length co57 : Value).ownBlock ∧ k_ ≠ gb235 ∧ k_ ≠ gb236)) (by (with_reducible repeat (first | apply Va_ | apply VN_ | apply V1_)); exact Kd.V_mono HO_236008.out (fun _ hk => ⟨⟨hk.1.1.1, ⟨hk.1.1.2.2.1, ⟨hk.1.1.2.2.2.1, ⟨hk.1.1.2.2.2.2.1, ⟨hk.1.2, ⟨hk.2, ⟨hk.1.1.2.2.2.2.2.1, hk.1.1.2.2.2.2.2.2⟩⟩⟩⟩⟩⟩⟩, hk.1.1.2.1⟩)) hg hat); have n2_ := A0_ (Kd.V_afterv (ok := (fun k_ => (P0_ k_ ∨ w.heap.size ≤ k_) ∧ some k_ ≠ (v246 : Value).ownBlock ∧ some k_ ≠ (v249 : Value).ownBlock ∧ some k_ ≠ (.slice Ao51 y251.length co51 : Value).ownBlock ∧ some k_ ≠ (v255 : Value).ownBlock ∧ some k_ ≠ (.slice Ao57 y257.length co57 : Value).ownBlock ∧ k_ ≠ gb235 ∧ k_ ≠ gb236)) (by (with_reducible repeat (first | apply Va_ | apply VN_ | apply V1_)); exact Kd.V_mono HO_237007.out (fun _ hk => ⟨⟨hk.1.1.1, ⟨hk.1.1.2.2.1, ⟨hk.1.1.2.2.2.1, ⟨hk.1.1.2.2.2.2.1, ⟨hk.1.2, ⟨hk.2, ⟨hk.1.1.2.2.2.2.2.1, hk.1.1.2.2.2.2.2.2⟩⟩⟩⟩⟩⟩⟩, hk.1.1.2.1⟩)) hg hat); have n3_ := A0_ (blk_grown (g := gb235) (o := .cells #[.string t223, .string t224, .string t225, .int .u8 t226, .int .i64 t227, .int .i64 t228, .int .i64 t229, .int .i64 t230, .slice Ao10 t231.length co10] 49 (0, 0)) (wB_ BK235.out) hg (Kd.N_ne HO_5.out BK235.out (by decide))); have n4_ := A0_ (blk_grown (g := gb236) (o := .cells #[.string t223, .string t224, .int .u8 t226, .int .i64 t227, .int .i64 t228, .int .i64 t229, .int .i64 t230, .slice Ao10 t231.length co10] 43 (0, 0)) (wB_ BK236.out) hg (Kd.N_away HO_5.out (fun _ hk => hk.1.1.2.2.2.2.2))); have n5_ := A0_ (Kd.R_over' (wR_ HO247.out) (Kd.N_typed (wN_ HO_5.out)) (by decide) hg); have n6_ := A0_ (Kd.R_over' (wR_ HO250.out) (Kd.N_typed (wN_ HO_5.out)) (by decide) hg); have n7_ := A0_ (Kd.R_over' (wR_ HO253.out) (Kd.N_typed (wN_ HO_5.out)) (by decide) hg); have n8_ := A0_ (Kd.R_over' (wR_ HO256.out) (Kd.N_typed (wN_ HO_5.out)) (by decide) hg); have n9_ := A0_ (Kd.N_afterv (ok := (fun k_ => (P0_ k_ ∨ w.heap.size ≤ k_) ∧ some k_ ≠ (v246 : Value).ownBlock ∧ some k_ ≠ (v249 : Value).ownBlock ∧ some k_ ≠ (.slice Ao51 y251.length co51 : Value).ownBlock ∧ some k_ ≠ (v255 : Value).ownBlock ∧ k_ ≠ gb235 ∧ k_ ≠ gb236)) (by (with_reducible repeat (first | apply Kd.N_alloc | apply Kd.N_drewN | apply Kd.N_drew)); exact Kd.N_mono HO259.out (fun _ hk => ⟨⟨hk.1, ⟨hk.2.2.1, ⟨hk.2.2.2.1, ⟨hk.2.2.2.2.1, ⟨hk.2.2.2.2.2.1, ⟨hk.2.2.2.2.2.2.1, hk.2.2.2.2.2.2.2⟩⟩⟩⟩⟩⟩, hk.2.1⟩)) hg hat); have n10_ := A0_ (hb); have n11_ := A0_ (ho); clear HO_0; clear HO_236008; clear HO_237007; clear BK235; clear BK236; clear HO247; clear HO250; clear HO253; clear HO256; clear HO259; clear HB; clear HO_5; have HO_0 := n0_; have HO_236008 := n1_; have HO_237007 := n2_; have BK235 := n3_; have BK236 := n4_; have HO247 := n5_; have HO250 := n6_; have HO253 := n7_; have HO256 := n8_; have HO259 := n9_; have HB := n10_; have HO262 := n11_; clear n0_ n1_ n2_ n3_ n4_ n5_ n6_ n7_ n8_ n9_ n10_ n11_; clear ho hb hg hat))
     go_roundg k2
     case measure => have := HK1.out; have := HK2.out; omega
     case rel => exact ⟨(y260), (y248), (y254), (wrap64 (x8_1 + 1)), wr_, H', ⟨by have := HK1.out; have := HK2.out; omega⟩, ⟨by (with_reducible repeat (first | apply Va_ | apply VN_ | apply V1_)); exact Kd.V_mono HO_0.out (fun _ hk => ⟨hk.1.1, ⟨hk.2, ⟨hk.1.2.2.1, hk.1.2.2.2.2.1⟩⟩⟩)⟩, ⟨by (with_reducible repeat (first | apply Kd.N_alloc | apply Kd.N_drewN | apply Kd.N_drew)); exact Kd.N_mono HO262.out (fun _ hk => ⟨hk.1, ⟨hk.2.2.1, hk.2.2.2.2.1⟩⟩)⟩, ⟨by (with_reducible repeat (first | apply Ra_ | apply RN_ | apply R1_)); exact Kd.R_mono HO250.out (fun _ hk => ⟨hk.1.1, hk.2⟩)⟩, ⟨by (with_reducible repeat (first | apply Ra_ | apply RN_ | apply R1_)); exact Kd.R_mono HO256.out (fun _ hk => ⟨hk.1, hk.2.2.1⟩)⟩, ⟨wb2_ HB.out GE235.out GE236.out⟩⟩
end Go.Proofs.YtiijbmaamblidaaGreatDoor.Print

namespace Go.Proofs.YtiijbmaamblidaaGreatDoor.Print
open Go.RowKit Go.Proofs.YtiijbmaamblidaaGreatDoorW.PrintWords Go.Proofs.YtiijbmaamblidaaGreatDoorW.PrintLast Go.Proofs.YtiijbmaamblidaaGreatDoorW.PrintMore
attribute [local go_sem] max2_int min2_int max_two min_two max_three min_three max_four min_four   -- for this text's walks alone
set_option linter.unusedVariables false
set_option linter.unusedSimpArgs false
theorem eqA40 (d : Nat) (w : World) (x0 y0 : Int) (x1 y1 : Int) (x2 y2 : Int) (x3 y3 : Int) :
  (Op.equalIn (d + 2) 40 (.agg #[.int .i64 x0, .int .i64 x1, .int .i64 x2, .int .i64 x3]) (.agg #[.int .i64 y0, .int .i64 y1, .int .i64 y2, .int .i64 y3])).run Tryz.prog w = .ok (x0 == y0 && (x1 == y1 && (x2 == y2 && (x3 == y3)))) w := by
 refine eqA_of Tryz.underlying40 (by kernel_rfl) ?_
 refine eqf_cons (by rfl) (by go_simp; rfl) (by go_simp; rfl) (by go_simp) ?_
 refine eqf_cons (by rfl) (by go_simp; rfl) (by go_simp; rfl) (by go_simp) ?_
 refine eqf_cons (by rfl) (by go_simp; rfl) (by go_simp; rfl) (by go_simp) ?_
 exact eqf_last (by rfl) (by go_simp; rfl) (by go_simp; rfl) (by go_simp)
end Go.Proofs.YtiijbmaamblidaaGreatDoor.Print

namespace Go.Proofs.YtiijbmaamblidaaGreatDoor.Print
open Go.RowKit Go.Proofs.YtiijbmaamblidaaGreatDoorW.PrintWords Go.Proofs.YtiijbmaamblidaaGreatDoorW.PrintLast Go.Proofs.YtiijbmaamblidaaGreatDoorW.PrintMore
attribute [local go_sem] max2_int min2_int max_two min_two max_three min_three max_four min_four   -- for this text's walks alone
set_option linter.unusedVariables false
set_option linter.unusedSimpArgs false
attribute [local go_sem high] eqA40
def bindleref08_Same.f (a0_0 : ByteArray) (a0_1 : ByteArray) (a0_2 : Int) (a0_3 : Int) (a0_4 : Int) (a0_5 : Int) (a0_6 : Int) (l0_7 : List Int) (a1_0 : ByteArray) (a1_1 : ByteArray) (a1_2 : Int) (a1_3 : Int) (a1_4 : Int) (a1_5 : Int) (a1_6 : Int) (l1_7 : List Int) : Option (Bool) := if a0_0.toList = a1_0.toList then (if a0_1.toList = a1_1.toList then (if a0_2 = a1_2 then (if (a0_3 == a1_3 && (a0_4 == a1_4 && (a0_5 == a1_5 && (a0_6 == a1_6)))) = true then (some ((strOfNums l0_7).toList == (strOfNums l1_7).toList)) else (some false)) else (some false)) else (some false)) else (some false)
set_option maxHeartbeats 8000000 in
set_option maxRecDepth 100000 in
theorem bindleref08_Same.calls (a0_0 : ByteArray) (a0_1 : ByteArray) (a0_2 : Int) (a0_3 : Int) (a0_4 : Int) (a0_5 : Int) (a0_6 : Int) (A0_7 : Option Addr) (c0_7 : Nat) (l0_7 : List Int) (a1_0 : ByteArray) (a1_1 : ByteArray) (a1_2 : Int) (a1_3 : Int) (a1_4 : Int) (a1_5 : Int) (a1_6 : Int) (A1_7 : Option Addr) (c1_7 : Nat) (l1_7 : List Int) (r : Bool) (w : World) (hr0_7 : Kd.C (Kd.int .u8) w A0_7 l0_7.length l0_7) (hc0_7 : l0_7.length ≤ c0_7) (hr1_7 : Kd.C (Kd.int .u8) w A1_7 l1_7.length l1_7) (hc1_7 : l1_7.length ≤ c1_7) (h : bindleref08_Same.f a0_0 a0_1 a0_2 a0_3 a0_4 a0_5 a0_6 l0_7 a1_0 a1_1 a1_2 a1_3 a1_4 a1_5 a1_6 l1_7 = some r) :
  Calls Tryz.prog 22 #[.agg #[.string a0_0, .string a0_1, .int .u8 a0_2, .int .i64 a0_3, .int .i64 a0_4, .int .i64 a0_5, .int .i64 a0_6, .slice A0_7 l0_7.length c0_7], .agg #[.string a1_0, .string a1_1, .int .u8 a1_2, .int .i64 a1_3, .int .i64 a1_4, .int .i64 a1_5, .int .i64 a1_6, .slice A1_7 l1_7.length c1_7]] w fun e w' => e = .returned (.bool r) ∧ Below w.heap.size w w' := by
 have hu43 := Tryz.underlying43
 have hu40 := Tryz.underlying40
 have HR0_7 := A0_ hr0_7
 have HC0_7 := A0_ hc0_7
 clear hr0_7 hc0_7
 have HR1_7 := A0_ hr1_7
 have HC1_7 := A0_ hc1_7
 clear hr1_7 hc1_7
 have HB := A0_ (Below.refl w.heap.size w)
 have H : (if a0_0.toList = a1_0.toList then (if a0_1.toList = a1_1.toList then (if a0_2 = a1_2 then (if (a0_3 == a1_3 && (a0_4 == a1_4 && (a0_5 == a1_5 && (a0_6 == a1_6)))) = true then (some ((strOfNums l0_7).toList == (strOfNums l1_7).toList)) else (some false)) else (some false)) else (some false)) else (some false)) = some r := h
 clear h
 by_cases c3 : a0_0.toList = a1_0.toList
 rotate_left
 ·rw [if_neg c3] at H
  have c3b0 : (a0_0.toList == a1_0.toList) = false := beq_eq_false_iff_ne.mpr c3
  have c3b1 : (a0_0.toList != a1_0.toList) = true := bne_iff_ne.mpr c3
  obtain rfl := Option.some.inj H
  go_enter Tryz.func22, Tryz.ntmps22
  go_wp2_with (first | ((with_reducible refine gate_dst (N := 2) rfl ?_); refine box_event ?hg (N := 2) ?hd (cs := #[.string a0_0, .string a0_1, .int .u8 a0_2, .int .i64 a0_3, .int .i64 a0_4, .int .i64 a0_5, .int .i64 a0_6, .slice A0_7 l0_7.length c0_7]) (t := 43) ?hr ?_; (case hd => rfl); (case hg => rfl); (case hr => first | (go_simp; done) | (go_simp; rfl)); intro gb214 hg w29 hbox hb; have n0_ := A0_ (below_step (wb_ HB.out) hb); have n1_ := A0_ (hbox); have n2_ := A0_ ((by rw [hg]; exact (below_size (wb_ HB.out)) : w.heap.size ≤ gb214)); have n3_ := A0_ ((by rw [hg]; exact (below_size (wb_ HB.out)) : w.heap.size ≤ gb214)); clear HB; have HB := n0_; have BK214 := n1_; have GW214 := n2_; have GE214 := n3_; clear n0_ n1_ n2_ n3_; clear hb hbox hg) | ((with_reducible refine gate_dst (N := 3) rfl ?_); refine box_event ?hg (N := 3) ?hd (cs := #[.string a1_0, .string a1_1, .int .u8 a1_2, .int .i64 a1_3, .int .i64 a1_4, .int .i64 a1_5, .int .i64 a1_6, .slice A1_7 l1_7.length c1_7]) (t := 43) ?hr ?_; (case hd => rfl); (case hg => rfl); (case hr => first | (go_simp; done) | (go_simp; rfl)); intro gb215 hg w30 hbox hb; have n0_ := A0_ (blk_below (g := gb214) (o := .cells #[.string a0_0, .string a0_1, .int .u8 a0_2, .int .i64 a0_3, .int .i64 a0_4, .int .i64 a0_5, .int .i64 a0_6, .slice A0_7 l0_7.length c0_7] 43 (0, 0)) (wB_ BK214.out) hb); have n1_ := A0_ (below_step (wb1_ HB.out GE214.out) hb); have n2_ := A0_ (hbox); have n3_ := A0_ ((by rw [hg]; exact (below_size (wb1_ HB.out GE214.out)) : w.heap.size ≤ gb215)); have n4_ := A0_ ((by rw [hg]; exact (below_size (wb1_ HB.out GE214.out)) : w.heap.size ≤ gb215)); have n5_ := A0_ ((by rw [hg]; exact Nat.ne_of_lt (blk_lt (g := gb214) (o := .cells #[.string a0_0, .string a0_1, .int .u8 a0_2, .int .i64 a0_3, .int .i64 a0_4, .int .i64 a0_5, .int .i64 a0_6, .slice A0_7 l0_7.length c0_7] 43 (0, 0)) (wB_ BK214.out)) : gb214 ≠ gb215)); have n6_ := A0_ ((by rw [hg]; exact Nat.ne_of_gt (blk_lt (g := gb214) (o := .cells #[.string a0_0, .string a0_1, .int .u8 a0_2, .int .i64 a0_3, .int .i64 a0_4, .int .i64 a0_5, .int .i64 a0_6, .slice A0_7 l0_7.length c0_7] 43 (0, 0)) (wB_ BK214.out)) : gb215 ≠ gb214)); clear BK214; clear HB; have BK214 := n0_; have HB := n1_; have BK215 := n2_; have GW215 := n3_; have GE215 := n4_; have NB214_215 := n5_; have NB215_214 := n6_; clear n0_ n1_ n2_ n3_ n4_ n5_ n6_; clear hb hbox hg; have hnb31 := NB214_215.out; have hnc31 := NB215_214.out; have hcz32_0 : w30.cell? ⟨gb214, 0, none⟩ = some (.string a0_0) := (bc_ BK214.out 0).trans rfl; have hcz32_1 : w30.cell? ⟨gb214, 1, none⟩ = some (.string a0_1) := (bc_ BK214.out 1).trans rfl; have hcz32_2 : w30.cell? ⟨gb214, 2, none⟩ = some (.int .u8 a0_2) := (bc_ BK214.out 2).trans rfl; have hcz32_3 : w30.cell? ⟨gb214, 3, none⟩ = some (.int .i64 a0_3) := (bc_ BK214.out 3).trans rfl; have hcz32_4 : w30.cell? ⟨gb214, 4, none⟩ = some (.int .i64 a0_4) := (bc_ BK214.out 4).trans rfl; have hcz32_5 : w30.cell? ⟨gb214, 5, none⟩ = some (.int .i64 a0_5) := (bc_ BK214.out 5).trans rfl; have hcz32_6 : w30.cell? ⟨gb214, 6, none⟩ = some (.int .i64 a0_6) := (bc_ BK214.out 6).trans rfl; have hcz32_7 : w30.cell? ⟨gb214, 7, none⟩ = some (.slice A0_7 l0_7.length c0_7) := (bc_ BK214.out 7).trans rfl; have hfz32_0 := bf_ BK214.out 0; have hfz32_1 := bf_ BK214.out 1; have hfz32_2 := bf_ BK214.out 2; have hfz32_3 := bf_ BK214.out 3; have hfz32_4 := bf_ BK214.out 4; have hfz32_5 := bf_ BK214.out 5; have hfz32_6 := bf_ BK214.out 6; have hfz32_7 := bf_ BK214.out 7; have hcz33_0 : w30.cell? ⟨gb215, 0, none⟩ = some (.string a1_0) := (bc_ BK215.out 0).trans rfl; have hcz33_1 : w30.cell? ⟨gb215, 1, none⟩ = some (.string a1_1) := (bc_ BK215.out 1).trans rfl; have hcz33_2 : w30.cell? ⟨gb215, 2, none⟩ = some (.int .u8 a1_2) := (bc_ BK215.out 2).trans rfl; have hcz33_3 : w30.cell? ⟨gb215, 3, none⟩ = some (.int .i64 a1_3) := (bc_ BK215.out 3).trans rfl; have hcz33_4 : w30.cell? ⟨gb215, 4, none⟩ = some (.int .i64 a1_4) := (bc_ BK215.out 4).trans rfl; have hcz33_5 : w30.cell? ⟨gb215, 5, none⟩ = some (.int .i64 a1_5) := (bc_ BK215.out 5).trans rfl; have hcz33_6 : w30.cell? ⟨gb215, 6, none⟩ = some (.int .i64 a1_6) := (bc_ BK215.out 6).trans rfl; have hcz33_7 : w30.cell? ⟨gb215, 7, none⟩ = some (.slice A1_7 l1_7.length c1_7) := (bc_ BK215.out 7).trans rfl; have hfz33_0 := bf_ BK215.out 0; have hfz33_1 := bf_ BK215.out 1; have hfz33_2 := bf_ BK215.out 2; have hfz33_3 := bf_ BK215.out 3; have hfz33_4 := bf_ BK215.out 4; have hfz33_5 := bf_ BK215.out 5; have hfz33_6 := bf_ BK215.out 6; have hfz33_7 := bf_ BK215.out 7))
  go_ret
  exact ⟨we_, wb2_ HB.out GE214.out GE215.out⟩
 rw [if_pos c3] at H
 have c3b0 : (a0_0.toList == a1_0.toList) = true := beq_iff_eq.mpr c3
 have c3b1 : (a0_0.toList != a1_0.toList) = false := bne_eq_false_iff_eq.mpr c3
 clear c3
 by_cases c4 : a0_1.toList = a1_1.toList
 rotate_left
 ·rw [if_neg c4] at H
  have c4b0 : (a0_1.toList == a1_1.toList) = false := beq_eq_false_iff_ne.mpr c4
  have c4b1 : (a0_1.toList != a1_1.toList) = true := bne_iff_ne.mpr c4
  obtain rfl := Option.some.inj H
  go_enter Tryz.func22, Tryz.ntmps22
  go_wp2_with (first | ((with_reducible refine gate_dst (N := 2) rfl ?_); refine box_event ?hg (N := 2) ?hd (cs := #[.string a0_0, .string a0_1, .int .u8 a0_2, .int .i64 a0_3, .int .i64 a0_4, .int .i64 a0_5, .int .i64 a0_6, .slice A0_7 l0_7.length c0_7]) (t := 43) ?hr ?_; (case hd => rfl); (case hg => rfl); (case hr => first | (go_simp; done) | (go_simp; rfl)); intro gb214 hg w24 hbox hb; have n0_ := A0_ (below_step (wb_ HB.out) hb); have n1_ := A0_ (hbox); have n2_ := A0_ ((by rw [hg]; exact (below_size (wb_ HB.out)) : w.heap.size ≤ gb214)); have n3_ := A0_ ((by rw [hg]; exact (below_size (wb_ HB.out)) : w.heap.size ≤ gb214)); clear HB; have HB := n0_; have BK214 := n1_; have GW214 := n2_; have GE214 := n3_; clear n0_ n1_ n2_ n3_; clear hb hbox hg) | ((with_reducible refine gate_dst (N := 3) rfl ?_); refine box_event ?hg (N := 3) ?hd (cs := #[.string a1_0, .string a1_1, .int .u8 a1_2, .int .i64 a1_3, .int .i64 a1_4, .int .i64 a1_5, .int .i64 a1_6, .slice A1_7 l1_7.length c1_7]) (t := 43) ?hr ?_; (case hd => rfl); (case hg => rfl); (case hr => first | (go_simp; done) | (go_simp; rfl)); intro gb215 hg w25 hbox hb; have n0_ := A0_ (blk_below (g := gb214) (o := .cells #[.string a0_0, .string a0_1, .int .u8 a0_2, .int .i64 a0_3, .int .i64 a0_4, .int .i64 a0_5, .int .i64 a0_6, .slice A0_7 l0_7.length c0_7] 43 (0, 0)) (wB_ BK214.out) hb); have n1_ := A0_ (below_step (wb1_ HB.out GE214.out) hb); have n2_ := A0_ (hbox); have n3_ := A0_ ((by rw [hg]; exact (below_size (wb1_ HB.out GE214.out)) : w.heap.size ≤ gb215)); have n4_ := A0_ ((by rw [hg]; exact (below_size (wb1_ HB.out GE214.out)) : w.heap.size ≤ gb215)); have n5_ := A0_ ((by rw [hg]; exact Nat.ne_of_lt (blk_lt (g := gb214) (o := .cells #[.string a0_0, .string a0_1, .int .u8 a0_2, .int .i64 a0_3, .int .i64 a0_4, .int .i64 a0_5, .int .i64 a0_6, .slice A0_7 l0_7.length c0_7] 43 (0, 0)) (wB_ BK214.out)) : gb214 ≠ gb215)); have n6_ := A0_ ((by rw [hg]; exact Nat.ne_of_gt (blk_lt (g := gb214) (o := .cells #[.string a0_0, .string a0_1, .int .u8 a0_2, .int .i64 a0_3, .int .i64 a0_4, .int .i64 a0_5, .int .i64 a0_6, .slice A0_7 l0_7.length c0_7] 43 (0, 0)) (wB_ BK214.out)) : gb215 ≠ gb214)); clear BK214; clear HB; have BK214 := n0_; have HB := n1_; have BK215 := n2_; have GW215 := n3_; have GE215 := n4_; have NB214_215 := n5_; have NB215_214 := n6_; clear n0_ n1_ n2_ n3_ n4_ n5_ n6_; clear hb hbox hg; have hnb26 := NB214_215.out; have hnc26 := NB215_214.out; have hcz27_0 : w25.cell? ⟨gb214, 0, none⟩ = some (.string a0_0) := (bc_ BK214.out 0).trans rfl; have hcz27_1 : w25.cell? ⟨gb214, 1, none⟩ = some (.string a0_1) := (bc_ BK214.out 1).trans rfl; have hcz27_2 : w25.cell? ⟨gb214, 2, none⟩ = some (.int .u8 a0_2) := (bc_ BK214.out 2).trans rfl; have hcz27_3 : w25.cell? ⟨gb214, 3, none⟩ = some (.int .i64 a0_3) := (bc_ BK214.out 3).trans rfl; have hcz27_4 : w25.cell? ⟨gb214, 4, none⟩ = some (.int .i64 a0_4) := (bc_ BK214.out 4).trans rfl; have hcz27_5 : w25.cell? ⟨gb214, 5, none⟩ = some (.int .i64 a0_5) := (bc_ BK214.out 5).trans rfl; have hcz27_6 : w25.cell? ⟨gb214, 6, none⟩ = some (.int .i64 a0_6) := (bc_ BK214.out 6).trans rfl; have hcz27_7 : w25.cell? ⟨gb214, 7, none⟩ = some (.slice A0_7 l0_7.length c0_7) := (bc_ BK214.out 7).trans rfl; have hfz27_0 := bf_ BK214.out 0; have hfz27_1 := bf_ BK214.out 1; have hfz27_2 := bf_ BK214.out 2; have hfz27_3 := bf_ BK214.out 3; have hfz27_4 := bf_ BK214.out 4; have hfz27_5 := bf_ BK214.out 5; have hfz27_6 := bf_ BK214.out 6; have hfz27_7 := bf_ BK214.out 7; have hcz28_0 : w25.cell? ⟨gb215, 0, none⟩ = some (.string a1_0) := (bc_ BK215.out 0).trans rfl; have hcz28_1 : w25.cell? ⟨gb215, 1, none⟩ = some (.string a1_1) := (bc_ BK215.out 1).trans rfl; have hcz28_2 : w25.cell? ⟨gb215, 2, none⟩ = some (.int .u8 a1_2) := (bc_ BK215.out 2).trans rfl; have hcz28_3 : w25.cell? ⟨gb215, 3, none⟩ = some (.int .i64 a1_3) := (bc_ BK215.out 3).trans rfl; have hcz28_4 : w25.cell? ⟨gb215, 4, none⟩ = some (.int .i64 a1_4) := (bc_ BK215.out 4).trans rfl; have hcz28_5 : w25.cell? ⟨gb215, 5, none⟩ = some (.int .i64 a1_5) := (bc_ BK215.out 5).trans rfl; have hcz28_6 : w25.cell? ⟨gb215, 6, none⟩ = some (.int .i64 a1_6) := (bc_ BK215.out 6).trans rfl; have hcz28_7 : w25.cell? ⟨gb215, 7, none⟩ = some (.slice A1_7 l1_7.length c1_7) := (bc_ BK215.out 7).trans rfl; have hfz28_0 := bf_ BK215.out 0; have hfz28_1 := bf_ BK215.out 1; have hfz28_2 := bf_ BK215.out 2; have hfz28_3 := bf_ BK215.out 3; have hfz28_4 := bf_ BK215.out 4; have hfz28_5 := bf_ BK215.out 5; have hfz28_6 := bf_ BK215.out 6; have hfz28_7 := bf_ BK215.out 7))
  go_ret
  exact ⟨we_, wb2_ HB.out GE214.out GE215.out⟩
 rw [if_pos c4] at H
 have c4b0 : (a0_1.toList == a1_1.toList) = true := beq_iff_eq.mpr c4
 have c4b1 : (a0_1.toList != a1_1.toList) = false := bne_eq_false_iff_eq.mpr c4
 clear c4
 by_cases c5 : a0_2 = a1_2
 rotate_left
 ·rw [if_neg c5] at H
  have c5b0 : (a0_2 == a1_2) = false := beq_eq_false_iff_ne.mpr c5
  have c5b1 : (a0_2 != a1_2) = true := bne_iff_ne.mpr c5
  obtain rfl := Option.some.inj H
  go_enter Tryz.func22, Tryz.ntmps22
  go_wp2_with (first | ((with_reducible refine gate_dst (N := 2) rfl ?_); refine box_event ?hg (N := 2) ?hd (cs := #[.string a0_0, .string a0_1, .int .u8 a0_2, .int .i64 a0_3, .int .i64 a0_4, .int .i64 a0_5, .int .i64 a0_6, .slice A0_7 l0_7.length c0_7]) (t := 43) ?hr ?_; (case hd => rfl); (case hg => rfl); (case hr => first | (go_simp; done) | (go_simp; rfl)); intro gb214 hg w19 hbox hb; have n0_ := A0_ (below_step (wb_ HB.out) hb); have n1_ := A0_ (hbox); have n2_ := A0_ ((by rw [hg]; exact (below_size (wb_ HB.out)) : w.heap.size ≤ gb214)); have n3_ := A0_ ((by rw [hg]; exact (below_size (wb_ HB.out)) : w.heap.size ≤ gb214)); clear HB; have HB := n0_; have BK214 := n1_; have GW214 := n2_; have GE214 := n3_; clear n0_ n1_ n2_ n3_; clear hb hbox hg) | ((with_reducible refine gate_dst (N := 3) rfl ?_); refine box_event ?hg (N := 3) ?hd (cs := #[.string a1_0, .string a1_1, .int .u8 a1_2, .int .i64 a1_3, .int .i64 a1_4, .int .i64 a1_5, .int .i64 a1_6, .slice A1_7 l1_7.length c1_7]) (t := 43) ?hr ?_; (case hd => rfl); (case hg => rfl); (case hr => first | (go_simp; done) | (go_simp; rfl)); intro gb215 hg w20 hbox hb; have n0_ := A0_ (blk_below (g := gb214) (o := .cells #[.string a0_0, .string a0_1, .int .u8 a0_2, .int .i64 a0_3, .int .i64 a0_4, .int .i64 a0_5, .int .i64 a0_6, .slice A0_7 l0_7.length c0_7] 43 (0, 0)) (wB_ BK214.out) hb); have n1_ := A0_ (below_step (wb1_ HB.out GE214.out) hb); have n2_ := A0_ (hbox); have n3_ := A0_ ((by rw [hg]; exact (below_size (wb1_ HB.out GE214.out)) : w.heap.size ≤ gb215)); have n4_ := A0_ ((by rw [hg]; exact (below_size (wb1_ HB.out GE214.out)) : w.heap.size ≤ gb215)); have n5_ := A0_ ((by rw [hg]; exact Nat.ne_of_lt (blk_lt (g := gb214) (o := .cells #[.string a0_0, .string a0_1, .int .u8 a0_2, .int .i64 a0_3, .int .i64 a0_4, .int .i64 a0_5, .int .i64 a0_6, .slice A0_7 l0_7.length c0_7] 43 (0, 0)) (wB_ BK214.out)) : gb214 ≠ gb215)); have n6_ := A0_ ((by rw [hg]; exact Nat.ne_of_gt (blk_lt (g := gb214) (o := .cells #[.string a0_0, .string a0_1, .int .u8 a0_2, .int .i64 a0_3, .int .i64 a0_4, .int .i64 a0_5, .int .i64 a0_6, .slice A0_7 l0_7.length c0_7] 43 (0, 0)) (wB_ BK214.out)) : gb215 ≠ gb214)); clear BK214; clear HB; have BK214 := n0_; have HB := n1_; have BK215 := n2_; have GW215 := n3_; have GE215 := n4_; have NB214_215 := n5_; have NB215_214 := n6_; clear n0_ n1_ n2_ n3_ n4_ n5_ n6_; clear hb hbox hg; have hnb21 := NB214_215.out; have hnc21 := NB215_214.out; have hcz22_0 : w20.cell? ⟨gb214, 0, none⟩ = some (.string a0_0) := (bc_ BK214.out 0).trans rfl; have hcz22_1 : w20.cell? ⟨gb214, 1, none⟩ = some (.string a0_1) := (bc_ BK214.out 1).trans rfl; have hcz22_2 : w20.cell? ⟨gb214, 2, none⟩ = some (.int .u8 a0_2) := (bc_ BK214.out 2).trans rfl; have hcz22_3 : w20.cell? ⟨gb214, 3, none⟩ = some (.int .i64 a0_3) := (bc_ BK214.out 3).trans rfl; have hcz22_4 : w20.cell? ⟨gb214, 4, none⟩ = some (.int .i64 a0_4) := (bc_ BK214.out 4).trans rfl; have hcz22_5 : w20.cell? ⟨gb214, 5, none⟩ = some (.int .i64 a0_5) := (bc_ BK214.out 5).trans rfl; have hcz22_6 : w20.cell? ⟨gb214, 6, none⟩ = some (.int .i64 a0_6) := (bc_ BK214.out 6).trans rfl; have hcz22_7 : w20.cell? ⟨gb214, 7, none⟩ = some (.slice A0_7 l0_7.length c0_7) := (bc_ BK214.out 7).trans rfl; have hfz22_0 := bf_ BK214.out 0; have hfz22_1 := bf_ BK214.out 1; have hfz22_2 := bf_ BK214.out 2; have hfz22_3 := bf_ BK214.out 3; have hfz22_4 := bf_ BK214.out 4; have hfz22_5 := bf_ BK214.out 5; have hfz22_6 := bf_ BK214.out 6; have hfz22_7 := bf_ BK214.out 7; have hcz23_0 : w20.cell? ⟨gb215, 0, none⟩ = some (.string a1_0) := (bc_ BK215.out 0).trans rfl; have hcz23_1 : w20.cell? ⟨gb215, 1, none⟩ = some (.string a1_1) := (bc_ BK215.out 1).trans rfl; have hcz23_2 : w20.cell? ⟨gb215, 2, none⟩ = some (.int .u8 a1_2) := (bc_ BK215.out 2).trans rfl; have hcz23_3 : w20.cell? ⟨gb215, 3, none⟩ = some (.int .i64 a1_3) := (bc_ BK215.out 3).trans rfl; have hcz23_4 : w20.cell? ⟨gb215, 4, none⟩ = some (.int .i64 a1_4) := (bc_ BK215.out 4).trans rfl; have hcz23_5 : w20.cell? ⟨gb215, 5, none⟩ = some (.int .i64 a1_5) := (bc_ BK215.out 5).trans rfl; have hcz23_6 : w20.cell? ⟨gb215, 6, none⟩ = some (.int .i64 a1_6) := (bc_ BK215.out 6).trans rfl; have hcz23_7 : w20.cell? ⟨gb215, 7, none⟩ = some (.slice A1_7 l1_7.length c1_7) := (bc_ BK215.out 7).trans rfl; have hfz23_0 := bf_ BK215.out 0; have hfz23_1 := bf_ BK215.out 1; have hfz23_2 := bf_ BK215.out 2; have hfz23_3 := bf_ BK215.out 3; have hfz23_4 := bf_ BK215.out 4; have hfz23_5 := bf_ BK215.out 5; have hfz23_6 := bf_ BK215.out 6; have hfz23_7 := bf_ BK215.out 7))
  go_ret
  exact ⟨we_, wb2_ HB.out GE214.out GE215.out⟩
 rw [if_pos c5] at H
 have c5b0 : (a0_2 == a1_2) = true := beq_iff_eq.mpr c5
 have c5b1 : (a0_2 != a1_2) = false := bne_eq_false_iff_eq.mpr c5
 clear c5
 by_cases c6 : (a0_3 == a1_3 && (a0_4 == a1_4 && (a0_5 == a1_5 && (a0_6 == a1_6)))) = true
 rotate_left
 ·rw [if_neg c6] at H
  have c6b0 : (a0_3 == a1_3 && (a0_4 == a1_4 && (a0_5 == a1_5 && (a0_6 == a1_6)))) = false := by simpa using c6
  (try (have c6b1 : decide (a0_3 = a1_3 && (a0_4 == a1_4 && (a0_5 == a1_5 && (a0_6 == a1_6)))) = false := by simpa using c6))
  (try (have c6b2 : (a0_3 == a1_3 && (a0_4 == a1_4 && (a0_5 == a1_5 && (a0_6 == a1_6)))) = false := by simpa using c6))
  (try (have c6b3 : ¬ (a0_3 = a1_3 && (a0_4 == a1_4 && (a0_5 == a1_5 && (a0_6 == a1_6)))) := by simpa using c6))
  clear c6
  obtain rfl := Option.some.inj H
  go_enter Tryz.func22, Tryz.ntmps22
  go_wp2_with (first | ((with_reducible refine gate_dst (N := 2) rfl ?_); refine box_event ?hg (N := 2) ?hd (cs := #[.string a0_0, .string a0_1, .int .u8 a0_2, .int .i64 a0_3, .int .i64 a0_4, .int .i64 a0_5, .int .i64 a0_6, .slice A0_7 l0_7.length c0_7]) (t := 43) ?hr ?_; (case hd => rfl); (case hg => rfl); (case hr => first | (go_simp; done) | (go_simp; rfl)); intro gb214 hg w14 hbox hb; have n0_ := A0_ (below_step (wb_ HB.out) hb); have n1_ := A0_ (hbox); have n2_ := A0_ ((by rw [hg]; exact (below_size (wb_ HB.out)) : w.heap.size ≤ gb214)); have n3_ := A0_ ((by rw [hg]; exact (below_size (wb_ HB.out)) : w.heap.size ≤ gb214)); clear HB; have HB := n0_; have BK214 := n1_; have GW214 := n2_; have GE214 := n3_; clear n0_ n1_ n2_ n3_; clear hb hbox hg) | ((with_reducible refine gate_dst (N := 3) rfl ?_); refine box_event ?hg (N := 3) ?hd (cs := #[.string a1_0, .string a1_1, .int .u8 a1_2, .int .i64 a1_3, .int .i64 a1_4, .int .i64 a1_5, .int .i64 a1_6, .slice A1_7 l1_7.length c1_7]) (t := 43) ?hr ?_; (case hd => rfl); (case hg => rfl); (case hr => first | (go_simp; done) | (go_simp; rfl)); intro gb215 hg w15 hbox hb; have n0_ := A0_ (blk_below (g := gb214) (o := .cells #[.string a0_0, .string a0_1, .int .u8 a0_2, .int .i64 a0_3, .int .i64 a0_4, .int .i64 a0_5, .int .i64 a0_6, .slice A0_7 l0_7.length c0_7] 43 (0, 0)) (wB_ BK214.out) hb); have n1_ := A0_ (below_step (wb1_ HB.out GE214.out) hb); have n2_ := A0_ (hbox); have n3_ := A0_ ((by rw [hg]; exact (below_size (wb1_ HB.out GE214.out)) : w.heap.size ≤ gb215)); have n4_ := A0_ ((by rw [hg]; exact (below_size (wb1_ HB.out GE214.out)) : w.heap.size ≤ gb215)); have n5_ := A0_ ((by rw [hg]; exact Nat.ne_of_lt (blk_lt (g := gb214) (o := .cells #[.string a0_0, .string a0_1, .int .u8 a0_2, .int .i64 a0_3, .int .i64 a0_4, .int .i64 a0_5, .int .i64 a0_6, .slice A0_7 l0_7.length c0_7] 43 (0, 0)) (wB_ BK214.out)) : gb214 ≠ gb215)); have n6_ := A0_ ((by rw [hg]; exact Nat.ne_of_gt (blk_lt (g := gb214) (o := .cells #[.string a0_0, .string a0_1, .int .u8 a0_2, .int .i64 a0_3, .int .i64 a0_4, .int .i64 a0_5, .int .i64 a0_6, .slice A0_7 l0_7.length c0_7] 43 (0, 0)) (wB_ BK214.out)) : gb215 ≠ gb214)); clear BK214; clear HB; have BK214 := n0_; have HB := n1_; have BK215 := n2_; have GW215 := n3_; have GE215 := n4_; have NB214_215 := n5_; have NB215_214 := n6_; clear n0_ n1_ n2_ n3_ n4_ n5_ n6_; clear hb hbox hg; have hnb16 := NB214_215.out; have hnc16 := NB215_214.out; have hcz17_0 : w15.cell? ⟨gb214, 0, none⟩ = some (.string a0_0) := (bc_ BK214.out 0).trans rfl; have hcz17_1 : w15.cell? ⟨gb214, 1, none⟩ = some (.string a0_1) := (bc_ BK214.out 1).trans rfl; have hcz17_2 : w15.cell? ⟨gb214, 2, none⟩ = some (.int .u8 a0_2) := (bc_ BK214.out 2).trans rfl; have hcz17_3 : w15.cell? ⟨gb214, 3, none⟩ = some (.int .i64 a0_3) := (bc_ BK214.out 3).trans rfl; have hcz17_4 : w15.cell? ⟨gb214, 4, none⟩ = some (.int .i64 a0_4) := (bc_ BK214.out 4).trans rfl; have hcz17_5 : w15.cell? ⟨gb214, 5, none⟩ = some (.int .i64 a0_5) := (bc_ BK214.out 5).trans rfl; have hcz17_6 : w15.cell? ⟨gb214, 6, none⟩ = some (.int .i64 a0_6) := (bc_ BK214.out 6).trans rfl; have hcz17_7 : w15.cell? ⟨gb214, 7, none⟩ = some (.slice A0_7 l0_7.length c0_7) := (bc_ BK214.out 7).trans rfl; have hfz17_0 := bf_ BK214.out 0; have hfz17_1 := bf_ BK214.out 1; have hfz17_2 := bf_ BK214.out 2; have hfz17_3 := bf_ BK214.out 3; have hfz17_4 := bf_ BK214.out 4; have hfz17_5 := bf_ BK214.out 5; have hfz17_6 := bf_ BK214.out 6; have hfz17_7 := bf_ BK214.out 7; have hcz18_0 : w15.cell? ⟨gb215, 0, none⟩ = some (.string a1_0) := (bc_ BK215.out 0).trans rfl; have hcz18_1 : w15.cell? ⟨gb215, 1, none⟩ = some (.string a1_1) := (bc_ BK215.out 1).trans rfl; have hcz18_2 : w15.cell? ⟨gb215, 2, none⟩ = some (.int .u8 a1_2) := (bc_ BK215.out 2).trans rfl; have hcz18_3 : w15.cell? ⟨gb215, 3, none⟩ = some (.int .i64 a1_3) := (bc_ BK215.out 3).trans rfl; have hcz18_4 : w15.cell? ⟨gb215, 4, none⟩ = some (.int .i64 a1_4) := (bc_ BK215.out 4).trans rfl; have hcz18_5 : w15.cell? ⟨gb215, 5, none⟩ = some (.int .i64 a1_5) := (bc_ BK215.out 5).trans rfl; have hcz18_6 : w15.cell? ⟨gb215, 6, none⟩ = some (.int .i64 a1_6) := (bc_ BK215.out 6).trans rfl; have hcz18_7 : w15.cell? ⟨gb215, 7, none⟩ = some (.slice A1_7 l1_7.length c1_7) := (bc_ BK215.out 7).trans rfl; have hfz18_0 := bf_ BK215.out 0; have hfz18_1 := bf_ BK215.out 1; have hfz18_2 := bf_ BK215.out 2; have hfz18_3 := bf_ BK215.out 3; have hfz18_4 := bf_ BK215.out 4; have hfz18_5 := bf_ BK215.out 5; have hfz18_6 := bf_ BK215.out 6; have hfz18_7 := bf_ BK215.out 7))
  go_ret
  exact ⟨we_, wb2_ HB.out GE214.out GE215.out⟩
 rw [if_pos c6] at H
 have c6b0 : (a0_3 == a1_3 && (a0_4 == a1_4 && (a0_5 == a1_5 && (a0_6 == a1_6)))) = true := c6
 (try (have c6b1 : decide (a0_3 = a1_3 && (a0_4 == a1_4 && (a0_5 == a1_5 && (a0_6 == a1_6)))) = true := by simpa using c6))
 (try (have c6b2 : (a0_3 == a1_3 && (a0_4 == a1_4 && (a0_5 == a1_5 && (a0_6 == a1_6)))) = true := by simpa using c6))
 clear c6
 obtain rfl := Option.some.inj H
 go_enter Tryz.func22, Tryz.ntmps22
 go_wp2_with (first | ((with_reducible refine gate_dst (N := 2) rfl ?_); refine box_event ?hg (N := 2) ?hd (cs := #[.string a0_0, .string a0_1, .int .u8 a0_2, .int .i64 a0_3, .int .i64 a0_4, .int .i64 a0_5, .int .i64 a0_6, .slice A0_7 l0_7.length c0_7]) (t := 43) ?hr ?_; (case hd => rfl); (case hg => rfl); (case hr => first | (go_simp; done) | (go_simp; rfl)); intro gb214 hg w7 hbox hb; have n0_ := A0_ (below_step (wb_ HB.out) hb); have n1_ := A0_ (hbox); have n2_ := A0_ ((by rw [hg]; exact (below_size (wb_ HB.out)) : w.heap.size ≤ gb214)); have n3_ := A0_ ((by rw [hg]; exact (below_size (wb_ HB.out)) : w.heap.size ≤ gb214)); clear HB; have HB := n0_; have BK214 := n1_; have GW214 := n2_; have GE214 := n3_; clear n0_ n1_ n2_ n3_; clear hb hbox hg) | ((with_reducible refine gate_dst (N := 3) rfl ?_); refine box_event ?hg (N := 3) ?hd (cs := #[.string a1_0, .string a1_1, .int .u8 a1_2, .int .i64 a1_3, .int .i64 a1_4, .int .i64 a1_5, .int .i64 a1_6, .slice A1_7 l1_7.length c1_7]) (t := 43) ?hr ?_; (case hd => rfl); (case hg => rfl); (case hr => first | (go_simp; done) | (go_simp; rfl)); intro gb215 hg w8 hbox hb; have n0_ := A0_ (blk_below (g := gb214) (o := .cells #[.string a0_0, .string a0_1, .int .u8 a0_2, .int .i64 a0_3, .int .i64 a0_4, .int .i64 a0_5, .int .i64 a0_6, .slice A0_7 l0_7.length c0_7] 43 (0, 0)) (wB_ BK214.out) hb); have n1_ := A0_ (below_step (wb1_ HB.out GE214.out) hb); have n2_ := A0_ (hbox); have n3_ := A0_ ((by rw [hg]; exact (below_size (wb1_ HB.out GE214.out)) : w.heap.size ≤ gb215)); have n4_ := A0_ ((by rw [hg]; exact (below_size (wb1_ HB.out GE214.out)) : w.heap.size ≤ gb215)); have n5_ := A0_ ((by rw [hg]; exact Nat.ne_of_lt (blk_lt (g := gb214) (o := .cells #[.string a0_0, .string a0_1, .int .u8 a0_2, .int .i64 a0_3, .int .i64 a0_4, .int .i64 a0_5, .int .i64 a0_6, .slice A0_7 l0_7.length c0_7] 43 (0, 0)) (wB_ BK214.out)) : gb214 ≠ gb215)); have n6_ := A0_ ((by rw [hg]; exact Nat.ne_of_gt (blk_lt (g := gb214) (o := .cells #[.string a0_0, .string a0_1, .int .u8 a0_2, .int .i64 a0_3, .int .i64 a0_4, .int .i64 a0_5, .int .i64 a0_6, .slice A0_7 l0_7.length c0_7] 43 (0, 0)) (wB_ BK214.out)) : gb215 ≠ gb214)); clear BK214; clear HB; have BK214 := n0_; have HB := n1_; have BK215 := n2_; have GW215 := n3_; have GE215 := n4_; have NB214_215 := n5_; have NB215_214 := n6_; clear n0_ n1_ n2_ n3_ n4_ n5_ n6_; clear hb hbox hg; have hnb9 := NB214_215.out; have hnc9 := NB215_214.out; have hcz10_0 : w8.cell? ⟨gb214, 0, none⟩ = some (.string a0_0) := (bc_ BK214.out 0).trans rfl; have hcz10_1 : w8.cell? ⟨gb214, 1, none⟩ = some (.string a0_1) := (bc_ BK214.out 1).trans rfl; have hcz10_2 : w8.cell? ⟨gb214, 2, none⟩ = some (.int .u8 a0_2) := (bc_ BK214.out 2).trans rfl; have hcz10_3 : w8.cell? ⟨gb214, 3, none⟩ = some (.int .i64 a0_3) := (bc_ BK214.out 3).trans rfl; have hcz10_4 : w8.cell? ⟨gb214, 4, none⟩ = some (.int .i64 a0_4) := (bc_ BK214.out 4).trans rfl; have hcz10_5 : w8.cell? ⟨gb214, 5, none⟩ = some (.int .i64 a0_5) := (bc_ BK214.out 5).trans rfl; have hcz10_6 : w8.cell? ⟨gb214, 6, none⟩ = some (.int .i64 a0_6) := (bc_ BK214.out 6).trans rfl; have hcz10_7 : w8.cell? ⟨gb214, 7, none⟩ = some (.slice A0_7 l0_7.length c0_7) := (bc_ BK214.out 7).trans rfl; have hfz10_0 := bf_ BK214.out 0; have hfz10_1 := bf_ BK214.out 1; have hfz10_2 := bf_ BK214.out 2; have hfz10_3 := bf_ BK214.out 3; have hfz10_4 := bf_ BK214.out 4; have hfz10_5 := bf_ BK214.out 5; have hfz10_6 := bf_ BK214.out 6; have hfz10_7 := bf_ BK214.out 7; have hcz11_0 : w8.cell? ⟨gb215, 0, none⟩ = some (.string a1_0) := (bc_ BK215.out 0).trans rfl; have hcz11_1 : w8.cell? ⟨gb215, 1, none⟩ = some (.string a1_1) := (bc_ BK215.out 1).trans rfl; have hcz11_2 : w8.cell? ⟨gb215, 2, none⟩ = some (.int .u8 a1_2) := (bc_ BK215.out 2).trans rfl; have hcz11_3 : w8.cell? ⟨gb215, 3, none⟩ = some (.int .i64 a1_3) := (bc_ BK215.out 3).trans rfl; have hcz11_4 : w8.cell? ⟨gb215, 4, none⟩ = some (.int .i64 a1_4) := (bc_ BK215.out 4).trans rfl; have hcz11_5 : w8.cell? ⟨gb215, 5, none⟩ = some (.int .i64 a1_5) := (bc_ BK215.out 5).trans rfl; have hcz11_6 : w8.cell? ⟨gb215, 6, none⟩ = some (.int .i64 a1_6) := (bc_ BK215.out 6).trans rfl; have hcz11_7 : w8.cell? ⟨gb215, 7, none⟩ = some (.slice A1_7 l1_7.length c1_7) := (bc_ BK215.out 7).trans rfl; have hfz11_0 := bf_ BK215.out 0; have hfz11_1 := bf_ BK215.out 1; have hfz11_2 := bf_ BK215.out 2; have hfz11_3 := bf_ BK215.out 3; have hfz11_4 := bf_ BK215.out 4; have hfz11_5 := bf_ BK215.out 5; have hfz11_6 := bf_ BK215.out 6; have hfz11_7 := bf_ BK215.out 7; have hcv12 := Kd.C_string (P := Tryz.prog) (A := A0_7) (c := c0_7) Tryz.underlying41 Tryz.underlying5 Tryz.underlying9 (Kd.C_below HR0_7.out HB.out); have hcv13 := Kd.C_string (P := Tryz.prog) (A := A1_7) (c := c1_7) Tryz.underlying41 Tryz.underlying5 Tryz.underlying9 (Kd.C_below HR1_7.out HB.out)))
 go_ret
 exact ⟨we_, wb2_ HB.out GE214.out GE215.out⟩
end Go.Proofs.YtiijbmaamblidaaGreatDoor.Print

namespace Go.Proofs.YtiijbmaamblidaaGreatDoor.Print
open Go.RowKit Go.Proofs.YtiijbmaamblidaaGreatDoorW.PrintWords Go.Proofs.YtiijbmaamblidaaGreatDoorW.PrintLast Go.Proofs.YtiijbmaamblidaaGreatDoorW.PrintMore
attribute [local go_sem] max2_int min2_int max_two min_two max_three min_three max_four min_four   -- for this text's walks alone
set_option linter.unusedVariables false
set_option linter.unusedSimpArgs false
abbrev q12_0 : Array Bool := #[false, false, false, false, false, false, false, false, false, false]
abbrev q12_1 : Array Bool := #[true, false, false, false, false, false, false, false, false, false]
abbrev q12_2 : Array Bool := #[true, true, false, false, false, false, false, false, false, false]
abbrev q12_3 : Array Bool := #[true, true, true, false, false, false, false, false, false, false]
abbrev q12_4 : Array Bool := #[true, true, true, false, true, false, false, false, false, false]
abbrev q12_5 : Array Bool := #[true, true, true, false, true, true, false, false, false, false]
abbrev q12_6 : Array Bool := #[true, true, true, false, true, true, true, false, false, false]
abbrev q12_7 : Array Bool := #[true, true, true, true, true, true, true, false, false, false]
abbrev q12_8 : Array Bool := #[true, true, true, true, true, true, true, true, false, false]
abbrev q12_9 : Array Bool := #[true, true, true, true, true, true, true, true, true, false]
abbrev q12_10 : Array Bool := #[true, true, true, true, true, true, true, true, true, true]
def bindleref08_SameAll.l0 : Nat → List (S43) → List (S43) → Int → Option (Bool)
 | 0, _, _, _ => none
 | k + 1, x0, x1, x5 => if x5 < (x0.length : Int) then (if 0 ≤ x5 then (if x5 < (x1.length : Int) then ((bindleref08_Same.f ((rd_T43 x0 x5).f0) ((rd_T43 x0 x5).f1) ((rd_T43 x0 x5).f2) ((rd_T43 x0 x5).f3.f0) ((rd_T43 x0 x5).f3.f1) ((rd_T43 x0 x5).f3.f2) ((rd_T43 x0 x5).f3.f3) ((rd_T43 x0 x5).f4) ((rd_T43 x1 x5).f0) ((rd_T43 x1 x5).f1) ((rd_T43 x1 x5).f2) ((rd_T43 x1 x5).f3.f0) ((rd_T43 x1 x5).f3.f1) ((rd_T43 x1 x5).f3.f2) ((rd_T43 x1 x5).f3.f3) ((rd_T43 x1 x5).f4)).bind fun t218 => (if t218 = true then (bindleref08_SameAll.l0 k x0 x1 (wrap64 (x5 + 1))) else (some false))) else (none)) else (none)) else (some true)
def bindleref08_SameAll.f (k : Nat) (l0 : List (S43)) (l1 : List (S43)) : Option (Bool) := if (l0.length : Int) = (l1.length : Int) then (bindleref08_SameAll.l0 k l0 l1 0) else (some false)
def bindleref08_SameAll.T6 : Bool × List (List Nat × List Nat) := (true, [([], []), ([], []), ([0, 1], [0, 1]), ([2], [2]), ([], []), ([], []), ([4, 5], [4, 5]), ([6], [6]), ([3, 7], [3, 7]), ([8], [8])])
def bindleref08_SameAll.B6 : List Nat := [0, 0, 3, 7, 0, 0, 48, 112, 255, 511]
theorem bindleref08_SameAll.tab6 : rtab .any (opsOf Tryz.f12 6) = bindleref08_SameAll.T6 := by kernel_rfl
theorem bindleref08_SameAll.bits6 : waitsOk bindleref08_SameAll.T6.2 bindleref08_SameAll.B6 = true := by kernel_rfl
set_option maxHeartbeats 8000000 in
set_option maxRecDepth 100000 in
theorem bindleref08_SameAll.calls (k : Nat) (A0 : Option Addr) (c0 : Nat) (l0 : List (S43)) (A1 : Option Addr) (c1 : Nat) (l1 : List (S43)) (r : Bool) (w : World) (hr0 : Kd.C k43 w A0 l0.length l0) (hc0 : l0.length ≤ c0) (hr1 : Kd.C k43 w A1 l1.length l1) (hc1 : l1.length ≤ c1) (h : bindleref08_SameAll.f k l0 l1 = some r) :
  Calls Tryz.prog 12 #[.slice A0 l0.length c0, .slice A1 l1.length c1] w fun e w' => e = .returned (.bool r) ∧ Below w.heap.size w w' := by
 have hu43 := Tryz.underlying43
 have HR0 := A0_ hr0
 have HC0 := A0_ hc0
 clear hr0 hc0
 have HR1 := A0_ hr1
 have HC1 := A0_ hc1
 clear hr1 hc1
 have HB := A0_ (Below.refl w.heap.size w)
 have H : (if (l0.length : Int) = (l1.length : Int) then (bindleref08_SameAll.l0 k l0 l1 0) else (some false)) = some r := h
 clear h
 by_cases c3 : (l0.length : Int) = (l1.length : Int)
 rotate_left
 ·rw [if_neg c3] at H
  have c3b0 : ((l0.length : Int) == (l1.length : Int)) = false := beq_eq_false_iff_ne.mpr c3
  have c3b1 : ((l0.length : Int) != (l1.length : Int)) = true := bne_iff_ne.mpr c3
  have c3b2 : (l0.length == l1.length) = false := by first | simpa using c3 | (simp at c3 ⊢; omega)
  obtain rfl := Option.some.inj H
  go_enter Tryz.func12, Tryz.ntmps12
  go_wp2
  go_ret
  exact ⟨we_, wb_ HB.out⟩
 rw [if_pos c3] at H
 have c3b0 : ((l0.length : Int) == (l1.length : Int)) = true := beq_iff_eq.mpr c3
 have c3b1 : ((l0.length : Int) != (l1.length : Int)) = false := bne_eq_false_iff_eq.mpr c3
 have c3b2 : (l0.length == l1.length) = true := by first | simpa using c3 | (simp at c3 ⊢; omega)
 clear c3
 have H' := A0_ H
 clear H
 go_enter Tryz.func12, Tryz.ntmps12
 go_wp2
 go_loopg [5] k (fun kq v5 w' => ∃ (x5_1 : Int), v5 = .int .i64 x5_1 ∧ Aside0 (bindleref08_SameAll.l0 kq l0 l1 x5_1 = some r) ∧ Aside0 (kq ≤ k) ∧ Aside0 (Below w.heap.size w w'))
 case atStart => exact ⟨(0), wr_, H', ⟨Nat.le_refl _⟩, ⟨wb_ HB.out⟩⟩
 case round =>
  clear H'
  try clear c1
  try clear p2
  try clear c3
  try clear c3b0
  try clear c3b1
  try clear c3b2
  obtain ⟨x5_1, rfl, HA, HK1, HB⟩ := hrel
  cases gk with
  | zero => exact absurd HA.out (by simp [bindleref08_SameAll.l0])
  | succ k1 =>
   have H := HA.out
   clear HA
   simp only [bindleref08_SameAll.l0] at H
   by_cases c4 : x5_1 < (l0.length : Int)
   rotate_left
   ·rw [if_neg c4] at H
    have c4b0 : decide (x5_1 < (l0.length : Int)) = false := decide_eq_false c4
    clear c4
    obtain rfl := Option.some.inj H
    go_wp2
    go_ret
    exact ⟨we_, wb_ HB.out⟩
   rw [if_pos c4] at H
   have c4b0 : decide (x5_1 < (l0.length : Int)) = true := decide_eq_true c4
   clear c4
   by_cases c5 : 0 ≤ x5_1
   rotate_left
   ·rw [if_neg c5] at H
    exact absurd H (by simp)
   rw [if_pos c5] at H
   have c5b0 : decide (0 ≤ x5_1) = true := decide_eq_true c5
   clear c5
   by_cases c6 : x5_1 < (l1.length : Int)
   rotate_left
   ·rw [if_neg c6] at H
    exact absurd H (by simp)
   rw [if_pos c6] at H
   have c6b0 : decide (x5_1 < (l1.length : Int)) = true := decide_eq_true c6
   clear c6
   replace H := Option.bind_eq_some_iff.mp H
   obtain ⟨t218, A70, H⟩ := H
   replace H : (if t218 = true then (bindleref08_SameAll.l0 k1 l0 l1 (wrap64 (x5_1 + 1))) else (some false)) = some r := H
   have A7 := A0_ A70
   clear A70
   by_cases c8 : t218 = true
   rotate_left
   ·replace c8 := Bool.eq_false_iff.mpr c8
    subst c8
    have H1 : (some false) = some r := by rw [if_neg (show ¬ (false = true) by decide)] at H; exact H
    clear H
    have H := H1
    clear H1
    obtain rfl := Option.some.inj H
    try go_wp2
    have n0_ := A0_ (b1_ HB.out)
    clear HB
    have HB := n0_
    clear n0_
    have p216 : 0 ≤ (x5_1 : Int) := wd_
    have q216 : x5_1 < (l0.length : Int) := wd_
    obtain ⟨ad216, A216_7, c216_7, e216, hx216_0, hx216_1, hx216_2, hx216_3, hx216_4, hx216_5, hx216_6, hx216_7, hl216_7, hi216_7⟩ := at_T43 HR0.out x5_1 p216 q216
    have hw216_7 := hx216_7
    have hw216_6 := hx216_6
    have hw216_5 := hx216_5
    have hw216_4 := hx216_4
    have hw216_3 := hx216_3
    have hw216_2 := hx216_2
    have hw216_1 := hx216_1
    have hw216_0 := hx216_0
    cases e216
    replace hx216_0 := (HB.out.cell (World.block_lt_of_cell? w _ hx216_0)).trans hx216_0
    replace hx216_1 := (HB.out.cell (World.block_lt_of_cell? w _ hx216_1)).trans hx216_1
    replace hx216_2 := (HB.out.cell (World.block_lt_of_cell? w _ hx216_2)).trans hx216_2
    replace hx216_3 := (HB.out.cell (World.block_lt_of_cell? w _ hx216_3)).trans hx216_3
    replace hx216_4 := (HB.out.cell (World.block_lt_of_cell? w _ hx216_4)).trans hx216_4
    replace hx216_5 := (HB.out.cell (World.block_lt_of_cell? w _ hx216_5)).trans hx216_5
    replace hx216_6 := (HB.out.cell (World.block_lt_of_cell? w _ hx216_6)).trans hx216_6
    replace hx216_7 := (HB.out.cell (World.block_lt_of_cell? w _ hx216_7)).trans hx216_7
    have HR216_7 := A0_ hi216_7
    have HC216_7 := A0_ hl216_7
    clear hi216_7 hl216_7
    replace p216 := eq_true p216
    replace q216 := eq_true q216
    have p217 : 0 ≤ (x5_1 : Int) := wd_
    have q217 : x5_1 < (l1.length : Int) := wd_
    obtain ⟨ad217, A217_7, c217_7, e217, hx217_0, hx217_1, hx217_2, hx217_3, hx217_4, hx217_5, hx217_6, hx217_7, hl217_7, hi217_7⟩ := at_T43 HR1.out x5_1 p217 q217
    have hw217_7 := hx217_7
    have hw217_6 := hx217_6
    have hw217_5 := hx217_5
    have hw217_4 := hx217_4
    have hw217_3 := hx217_3
    have hw217_2 := hx217_2
    have hw217_1 := hx217_1
    have hw217_0 := hx217_0
    cases e217
    replace hx217_0 := (HB.out.cell (World.block_lt_of_cell? w _ hx217_0)).trans hx217_0
    replace hx217_1 := (HB.out.cell (World.block_lt_of_cell? w _ hx217_1)).trans hx217_1
    replace hx217_2 := (HB.out.cell (World.block_lt_of_cell? w _ hx217_2)).trans hx217_2
    replace hx217_3 := (HB.out.cell (World.block_lt_of_cell? w _ hx217_3)).trans hx217_3
    replace hx217_4 := (HB.out.cell (World.block_lt_of_cell? w _ hx217_4)).trans hx217_4
    replace hx217_5 := (HB.out.cell (World.block_lt_of_cell? w _ hx217_5)).trans hx217_5
    replace hx217_6 := (HB.out.cell (World.block_lt_of_cell? w _ hx217_6)).trans hx217_6
    replace hx217_7 := (HB.out.cell (World.block_lt_of_cell? w _ hx217_7)).trans hx217_7
    have HR217_7 := A0_ hi217_7
    have HC217_7 := A0_ hl217_7
    clear hi217_7 hl217_7
    replace p217 := eq_true p217
    replace q217 := eq_true q217
    refine start_ (n := 10) (S := fun w' => w'.cell? (ad216.add ((x5_1).toNat * 8)) = some (.string ((rd_T43 l0 x5_1).f0)) ∧ w'.cell? ⟨(ad216.add ((x5_1).toNat * 8)).block, (ad216.add ((x5_1).toNat * 8)).off + 1, none⟩ = some (.string ((rd_T43 l0 x5_1).f1)) ∧ w'.cell? ⟨(ad216.add ((x5_1).toNat * 8)).block, (ad216.add ((x5_1).toNat * 8)).off + 2, none⟩ = some (.int .u8 ((rd_T43 l0 x5_1).f2)) ∧ w'.cell? ⟨(ad216.add ((x5_1).toNat * 8)).block, (ad216.add ((x5_1).toNat * 8)).off + 3, none⟩ = some (.int .i64 ((rd_T43 l0 x5_1).f3.f0)) ∧ w'.cell? ⟨(ad216.add ((x5_1).toNat * 8)).block, (ad216.add ((x5_1).toNat * 8)).off + 4, none⟩ = some (.int .i64 ((rd_T43 l0 x5_1).f3.f1)) ∧ w'.cell? ⟨(ad216.add ((x5_1).toNat * 8)).block, (ad216.add ((x5_1).toNat * 8)).off + 5, none⟩ = some (.int .i64 ((rd_T43 l0 x5_1).f3.f2)) ∧ w'.cell? ⟨(ad216.add ((x5_1).toNat * 8)).block, (ad216.add ((x5_1).toNat * 8)).off + 6, none⟩ = some (.int .i64 ((rd_T43 l0 x5_1).f3.f3)) ∧ w'.cell? ⟨(ad216.add ((x5_1).toNat * 8)).block, (ad216.add ((x5_1).toNat * 8)).off + 7, none⟩ = some (.slice A216_7 ((rd_T43 l0 x5_1).f4).length c216_7) ∧ w'.cell? (ad217.add ((x5_1).toNat * 8)) = some (.string ((rd_T43 l1 x5_1).f0)) ∧ w'.cell? ⟨(ad217.add ((x5_1).toNat * 8)).block, (ad217.add ((x5_1).toNat * 8)).off + 1, none⟩ = some (.string ((rd_T43 l1 x5_1).f1)) ∧ w'.cell? ⟨(ad217.add ((x5_1).toNat * 8)).block, (ad217.add ((x5_1).toNat * 8)).off + 2, none⟩ = some (.int .u8 ((rd_T43 l1 x5_1).f2)) ∧ w'.cell? ⟨(ad217.add ((x5_1).toNat * 8)).block, (ad217.add ((x5_1).toNat * 8)).off + 3, none⟩ = some (.int .i64 ((rd_T43 l1 x5_1).f3.f0)) ∧ w'.cell? ⟨(ad217.add ((x5_1).toNat * 8)).block, (ad217.add ((x5_1).toNat * 8)).off + 4, none⟩ = some (.int .i64 ((rd_T43 l1 x5_1).f3.f1)) ∧ w'.cell? ⟨(ad217.add ((x5_1).toNat * 8)).block, (ad217.add ((x5_1).toNat * 8)).off + 5, none⟩ = some (.int .i64 ((rd_T43 l1 x5_1).f3.f2)) ∧ w'.cell? ⟨(ad217.add ((x5_1).toNat * 8)).block, (ad217.add ((x5_1).toNat * 8)).off + 6, none⟩ = some (.int .i64 ((rd_T43 l1 x5_1).f3.f3)) ∧ w'.cell? ⟨(ad217.add ((x5_1).toNat * 8)).block, (ad217.add ((x5_1).toNat * 8)).off + 7, none⟩ = some (.slice A217_7 ((rd_T43 l1 x5_1).f4).length c217_7)) (ds := []) q12_0 (by kernel_rfl) rfl rfl ⟨((HB.out.cell (World.block_lt_of_cell? w _ hw216_0)).trans hw216_0), ((HB.out.cell (World.block_lt_of_cell? w _ hw216_1)).trans hw216_1), ((HB.out.cell (World.block_lt_of_cell? w _ hw216_2)).trans hw216_2), ((HB.out.cell (World.block_lt_of_cell? w _ hw216_3)).trans hw216_3), ((HB.out.cell (World.block_lt_of_cell? w _ hw216_4)).trans hw216_4), ((HB.out.cell (World.block_lt_of_cell? w _ hw216_5)).trans hw216_5), ((HB.out.cell (World.block_lt_of_cell? w _ hw216_6)).trans hw216_6), ((HB.out.cell (World.block_lt_of_cell? w _ hw216_7)).trans hw216_7), ((HB.out.cell (World.block_lt_of_cell? w _ hw217_0)).trans hw217_0), ((HB.out.cell (World.block_lt_of_cell? w _ hw217_1)).trans hw217_1), ((HB.out.cell (World.block_lt_of_cell? w _ hw217_2)).trans hw217_2), ((HB.out.cell (World.block_lt_of_cell? w _ hw217_3)).trans hw217_3), ((HB.out.cell (World.block_lt_of_cell? w _ hw217_4)).trans hw217_4), ((HB.out.cell (World.block_lt_of_cell? w _ hw217_5)).trans hw217_5), ((HB.out.cell (World.block_lt_of_cell? w _ hw217_6)).trans hw217_6), ((HB.out.cell (World.block_lt_of_cell? w _ hw217_7)).trans hw217_7)⟩ (fun hHeld => ?_); refine with_tabW bindleref08_SameAll.tab6 bindleref08_SameAll.bits6 (fun HT_ HW_ => ?_)
    generalize wr.drew = w11 at HB HR216_7 HR217_7 hx216_0 hx216_1 hx216_2 hx216_3 hx216_4 hx216_5 hx216_6 hx216_7 hx217_0 hx217_1 hx217_2 hx217_3 hx217_4 hx217_5 hx217_6 hx217_7 hHeld ⊢
    refine pur_ (i := 0) (N := some 17) q12_1 (any_of HT_.out (by kernel_rfl)) ?_
    refine pur_ (i := 1) (N := some 18) q12_2 (any_of HT_.out (by kernel_rfl)) ?_
    refine pur_ (i := 2) (N := some 19) q12_3 (any_of HT_.out (by kernel_rfl)) ?_
    refine pur_ (i := 4) (N := some 21) q12_4 (any_of HT_.out (by kernel_rfl)) ?_
    refine pur_ (i := 5) (N := some 22) q12_5 (any_of HT_.out (by kernel_rfl)) ?_
    refine pur_ (i := 6) (N := some 23) q12_6 (any_of HT_.out (by kernel_rfl)) ?_
    refine take_ (i := 3) (N := some 20) (v := ?_) (a' := ?_) q12_7 rfl rfl (take_ofW HT_.out HW_.out (by kernel_rfl)) (fun _ _ _ h => h) (Or.inl ⟨by rfl, ?_⟩) hHeld ?_ ?_
    rotate_left
    ·rintro w' ⟨s0, s1, s2, s3, s4, s5, s6, s7, s8, s9, s10, s11, s12, s13, s14, s15⟩
     go_simp
     with_reducible rfl
    rotate_left
    ·simp only [Act.put, List.setIfInBounds_toArray, List.set_cons_zero, List.set_cons_succ, i64_w, i32_w]
     rfl
    refine take_ (i := 7) (N := some 24) (v := ?_) (a' := ?_) q12_8 rfl rfl (take_ofW HT_.out HW_.out (by kernel_rfl)) (fun _ _ _ h => h) (Or.inl ⟨by rfl, ?_⟩) hHeld ?_ ?_
    rotate_left
    ·rintro w' ⟨s0, s1, s2, s3, s4, s5, s6, s7, s8, s9, s10, s11, s12, s13, s14, s15⟩
     go_simp
     with_reducible rfl
    rotate_left
    ·simp only [Act.put, List.setIfInBounds_toArray, List.set_cons_zero, List.set_cons_succ, i64_w, i32_w]
     rfl
    refine one_ (i := 8) (N := some 25) q12_9 rfl rfl (one_of HT_.out (by kernel_rfl)) (by decide) (fun K hK => ?_)
    refine goes_ Tryz.func22 (by kernel_rfl) rfl #[.agg #[.string ((rd_T43 l0 x5_1).f0), .string ((rd_T43 l0 x5_1).f1), .int .u8 ((rd_T43 l0 x5_1).f2), .int .i64 ((rd_T43 l0 x5_1).f3.f0), .int .i64 ((rd_T43 l0 x5_1).f3.f1), .int .i64 ((rd_T43 l0 x5_1).f3.f2), .int .i64 ((rd_T43 l0 x5_1).f3.f3), .slice A216_7 ((rd_T43 l0 x5_1).f4).length c216_7], .agg #[.string ((rd_T43 l1 x5_1).f0), .string ((rd_T43 l1 x5_1).f1), .int .u8 ((rd_T43 l1 x5_1).f2), .int .i64 ((rd_T43 l1 x5_1).f3.f0), .int .i64 ((rd_T43 l1 x5_1).f3.f1), .int .i64 ((rd_T43 l1 x5_1).f3.f2), .int .i64 ((rd_T43 l1 x5_1).f3.f3), .slice A217_7 ((rd_T43 l1 x5_1).f4).length c217_7]] (by rfl) rfl rfl wm_ ?_
    with_reducible refine (bindleref08_Same.calls ((rd_T43 l0 x5_1).f0) ((rd_T43 l0 x5_1).f1) ((rd_T43 l0 x5_1).f2) ((rd_T43 l0 x5_1).f3.f0) ((rd_T43 l0 x5_1).f3.f1) ((rd_T43 l0 x5_1).f3.f2) ((rd_T43 l0 x5_1).f3.f3) _ _ ((rd_T43 l0 x5_1).f4) ((rd_T43 l1 x5_1).f0) ((rd_T43 l1 x5_1).f1) ((rd_T43 l1 x5_1).f2) ((rd_T43 l1 x5_1).f3.f0) ((rd_T43 l1 x5_1).f3.f1) ((rd_T43 l1 x5_1).f3.f2) ((rd_T43 l1 x5_1).f3.f3) _ _ ((rd_T43 l1 x5_1).f4) false _ ?side1 ?side2 ?side3 ?side4 A7.out).mono ?_
    (case side1 => exact wc_ (Kd.C_below HR216_7.out HB.out))
    (case side2 => exact HC216_7.out)
    (case side3 => exact wc_ (Kd.C_below HR217_7.out HB.out))
    (case side4 => exact HC217_7.out)
    rintro e w12 ⟨rfl, hb⟩
    refine ⟨_, rfl, ?_⟩
    have n0_ := A0_ (below_step (wb_ HB.out) hb)
    clear HB
    have HB := n0_
    clear n0_
    (try clear hb)
    (try clear hb2)
    (try clear hk)
    (try clear hi)
    refine hK.out _ _ ⟨((HB.out.cell (World.block_lt_of_cell? w _ hw216_0)).trans hw216_0), ((HB.out.cell (World.block_lt_of_cell? w _ hw216_1)).trans hw216_1), ((HB.out.cell (World.block_lt_of_cell? w _ hw216_2)).trans hw216_2), ((HB.out.cell (World.block_lt_of_cell? w _ hw216_3)).trans hw216_3), ((HB.out.cell (World.block_lt_of_cell? w _ hw216_4)).trans hw216_4), ((HB.out.cell (World.block_lt_of_cell? w _ hw216_5)).trans hw216_5), ((HB.out.cell (World.block_lt_of_cell? w _ hw216_6)).trans hw216_6), ((HB.out.cell (World.block_lt_of_cell? w _ hw216_7)).trans hw216_7), ((HB.out.cell (World.block_lt_of_cell? w _ hw217_0)).trans hw217_0), ((HB.out.cell (World.block_lt_of_cell? w _ hw217_1)).trans hw217_1), ((HB.out.cell (World.block_lt_of_cell? w _ hw217_2)).trans hw217_2), ((HB.out.cell (World.block_lt_of_cell? w _ hw217_3)).trans hw217_3), ((HB.out.cell (World.block_lt_of_cell? w _ hw217_4)).trans hw217_4), ((HB.out.cell (World.block_lt_of_cell? w _ hw217_5)).trans hw217_5), ((HB.out.cell (World.block_lt_of_cell? w _ hw217_6)).trans hw217_6), ((HB.out.cell (World.block_lt_of_cell? w _ hw217_7)).trans hw217_7)⟩ (fun hHeld => ?_)
    clear hK K
    refine norm_ (a' := ?_) ?_ ?_
    rotate_left
    ·show Act.put _ (some 25) _ = _
     simp only [Act.put, List.setIfInBounds_toArray, List.set_cons_zero, List.set_cons_succ, i64_w, i32_w]
     rfl
    refine pur_ (i := 9) (N := some 26) q12_10 (any_of HT_.out (by kernel_rfl)) ?_
    refine done_ (done_of HT_.out (by kernel_rfl)) ?_
    try go_wp2
    go_ret
    exact ⟨we_, wb_ HB.out⟩
   subst c8
   have H1 : (bindleref08_SameAll.l0 k1 l0 l1 (wrap64 (x5_1 + 1))) = some r := by rw [if_pos rfl] at H; exact H
   clear H
   have H := H1
   clear H1
   have H' := A0_ H
   clear H
   try go_wp2
   have n0_ := A0_ (b1_ HB.out)
   clear HB
   have HB := n0_
   clear n0_
   have p216 : 0 ≤ (x5_1 : Int) := wd_
   have q216 : x5_1 < (l0.length : Int) := wd_
   obtain ⟨ad216, A216_7, c216_7, e216, hx216_0, hx216_1, hx216_2, hx216_3, hx216_4, hx216_5, hx216_6, hx216_7, hl216_7, hi216_7⟩ := at_T43 HR0.out x5_1 p216 q216
   have hw216_7 := hx216_7
   have hw216_6 := hx216_6
   have hw216_5 := hx216_5
   have hw216_4 := hx216_4
   have hw216_3 := hx216_3
   have hw216_2 := hx216_2
   have hw216_1 := hx216_1
   have hw216_0 := hx216_0
   cases e216
   replace hx216_0 := (HB.out.cell (World.block_lt_of_cell? w _ hx216_0)).trans hx216_0
   replace hx216_1 := (HB.out.cell (World.block_lt_of_cell? w _ hx216_1)).trans hx216_1
   replace hx216_2 := (HB.out.cell (World.block_lt_of_cell? w _ hx216_2)).trans hx216_2
   replace hx216_3 := (HB.out.cell (World.block_lt_of_cell? w _ hx216_3)).trans hx216_3
   replace hx216_4 := (HB.out.cell (World.block_lt_of_cell? w _ hx216_4)).trans hx216_4
   replace hx216_5 := (HB.out.cell (World.block_lt_of_cell? w _ hx216_5)).trans hx216_5
   replace hx216_6 := (HB.out.cell (World.block_lt_of_cell? w _ hx216_6)).trans hx216_6
   replace hx216_7 := (HB.out.cell (World.block_lt_of_cell? w _ hx216_7)).trans hx216_7
   have HR216_7 := A0_ hi216_7
   have HC216_7 := A0_ hl216_7
   clear hi216_7 hl216_7
   replace p216 := eq_true p216
   replace q216 := eq_true q216
   have p217 : 0 ≤ (x5_1 : Int) := wd_
   have q217 : x5_1 < (l1.length : Int) := wd_
   obtain ⟨ad217, A217_7, c217_7, e217, hx217_0, hx217_1, hx217_2, hx217_3, hx217_4, hx217_5, hx217_6, hx217_7, hl217_7, hi217_7⟩ := at_T43 HR1.out x5_1 p217 q217
   have hw217_7 := hx217_7
   have hw217_6 := hx217_6
   have hw217_5 := hx217_5
   have hw217_4 := hx217_4
   have hw217_3 := hx217_3
   have hw217_2 := hx217_2
   have hw217_1 := hx217_1
   have hw217_0 := hx217_0
   cases e217
   replace hx217_0 := (HB.out.cell (World.block_lt_of_cell? w _ hx217_0)).trans hx217_0
   replace hx217_1 := (HB.out.cell (World.block_lt_of_cell? w _ hx217_1)).trans hx217_1
   replace hx217_2 := (HB.out.cell (World.block_lt_of_cell? w _ hx217_2)).trans hx217_2
   replace hx217_3 := (HB.out.cell (World.block_lt_of_cell? w _ hx217_3)).trans hx217_3
   replace hx217_4 := (HB.out.cell (World.block_lt_of_cell? w _ hx217_4)).trans hx217_4
   replace hx217_5 := (HB.out.cell (World.block_lt_of_cell? w _ hx217_5)).trans hx217_5
   replace hx217_6 := (HB.out.cell (World.block_lt_of_cell? w _ hx217_6)).trans hx217_6
   replace hx217_7 := (HB.out.cell (World.block_lt_of_cell? w _ hx217_7)).trans hx217_7
   have HR217_7 := A0_ hi217_7
   have HC217_7 := A0_ hl217_7
   clear hi217_7 hl217_7
   replace p217 := eq_true p217
   replace q217 := eq_true q217
   refine start_ (n := 10) (S := fun w' => w'.cell? (ad216.add ((x5_1).toNat * 8)) = some (.string ((rd_T43 l0 x5_1).f0)) ∧ w'.cell? ⟨(ad216.add ((x5_1).toNat * 8)).block, (ad216.add ((x5_1).toNat * 8)).off + 1, none⟩ = some (.string ((rd_T43 l0 x5_1).f1)) ∧ w'.cell? ⟨(ad216.add ((x5_1).toNat * 8)).block, (ad216.add ((x5_1).toNat * 8)).off + 2, none⟩ = some (.int .u8 ((rd_T43 l0 x5_1).f2)) ∧ w'.cell? ⟨(ad216.add ((x5_1).toNat * 8)).block, (ad216.add ((x5_1).toNat * 8)).off + 3, none⟩ = some (.int .i64 ((rd_T43 l0 x5_1).f3.f0)) ∧ w'.cell? ⟨(ad216.add ((x5_1).toNat * 8)).block, (ad216.add ((x5_1).toNat * 8)).off + 4, none⟩ = some (.int .i64 ((rd_T43 l0 x5_1).f3.f1)) ∧ w'.cell? ⟨(ad216.add ((x5_1).toNat * 8)).block, (ad216.add ((x5_1).toNat * 8)).off + 5, none⟩ = some (.int .i64 ((rd_T43 l0 x5_1).f3.f2)) ∧ w'.cell? ⟨(ad216.add ((x5_1).toNat * 8)).block, (ad216.add ((x5_1).toNat * 8)).off + 6, none⟩ = some (.int .i64 ((rd_T43 l0 x5_1).f3.f3)) ∧ w'.cell? ⟨(ad216.add ((x5_1).toNat * 8)).block, (ad216.add ((x5_1).toNat * 8)).off + 7, none⟩ = some (.slice A216_7 ((rd_T43 l0 x5_1).f4).length c216_7) ∧ w'.cell? (ad217.add ((x5_1).toNat * 8)) = some (.string ((rd_T43 l1 x5_1).f0)) ∧ w'.cell? ⟨(ad217.add ((x5_1).toNat * 8)).block, (ad217.add ((x5_1).toNat * 8)).off + 1, none⟩ = some (.string ((rd_T43 l1 x5_1).f1)) ∧ w'.cell? ⟨(ad217.add ((x5_1).toNat * 8)).block, (ad217.add ((x5_1).toNat * 8)).off + 2, none⟩ = some (.int .u8 ((rd_T43 l1 x5_1).f2)) ∧ w'.cell? ⟨(ad217.add ((x5_1).toNat * 8)).block, (ad217.add ((x5_1).toNat * 8)).off + 3, none⟩ = some (.int .i64 ((rd_T43 l1 x5_1).f3.f0)) ∧ w'.cell? ⟨(ad217.add ((x5_1).toNat * 8)).block, (ad217.add ((x5_1).toNat * 8)).off + 4, none⟩ = some (.int .i64 ((rd_T43 l1 x5_1).f3.f1)) ∧ w'.cell? ⟨(ad217.add ((x5_1).toNat * 8)).block, (ad217.add ((x5_1).toNat * 8)).off + 5, none⟩ = some (.int .i64 ((rd_T43 l1 x5_1).f3.f2)) ∧ w'.cell? ⟨(ad217.add ((x5_1).toNat * 8)).block, (ad217.add ((x5_1).toNat * 8)).off + 6, none⟩ = some (.int .i64 ((rd_T43 l1 x5_1).f3.f3)) ∧ w'.cell? ⟨(ad217.add ((x5_1).toNat * 8)).block, (ad217.add ((x5_1).toNat * 8)).off + 7, none⟩ = some (.slice A217_7 ((rd_T43 l1 x5_1).f4).length c217_7)) (ds := []) q12_0 (by kernel_rfl) rfl rfl ⟨((HB.out.cell (World.block_lt_of_cell? w _ hw216_0)).trans hw216_0), ((HB.out.cell (World.block_lt_of_cell? w _ hw216_1)).trans hw216_1), ((HB.out.cell (World.block_lt_of_cell? w _ hw216_2)).trans hw216_2), ((HB.out.cell (World.block_lt_of_cell? w _ hw216_3)).trans hw216_3), ((HB.out.cell (World.block_lt_of_cell? w _ hw216_4)).trans hw216_4), ((HB.out.cell (World.block_lt_of_cell? w _ hw216_5)).trans hw216_5), ((HB.out.cell (World.block_lt_of_cell? w _ hw216_6)).trans hw216_6), ((HB.out.cell (World.block_lt_of_cell? w _ hw216_7)).trans hw216_7), ((HB.out.cell (World.block_lt_of_cell? w _ hw217_0)).trans hw217_0), ((HB.out.cell (World.block_lt_of_cell? w _ hw217_1)).trans hw217_1), ((HB.out.cell (World.block_lt_of_cell? w _ hw217_2)).trans hw217_2), ((HB.out.cell (World.block_lt_of_cell? w _ hw217_3)).trans hw217_3), ((HB.out.cell (World.block_lt_of_cell? w _ hw217_4)).trans hw217_4), ((HB.out.cell (World.block_lt_of_cell? w _ hw217_5)).trans hw217_5), ((HB.out.cell (World.block_lt_of_cell? w _ hw217_6)).trans hw217_6), ((HB.out.cell (World.block_lt_of_cell? w _ hw217_7)).trans hw217_7)⟩ (fun hHeld => ?_); refine with_tabW bindleref08_SameAll.tab6 bindleref08_SameAll.bits6 (fun HT_ HW_ => ?_)
   generalize wr.drew = w9 at HB HR216_7 HR217_7 hx216_0 hx216_1 hx216_2 hx216_3 hx216_4 hx216_5 hx216_6 hx216_7 hx217_0 hx217_1 hx217_2 hx217_3 hx217_4 hx217_5 hx217_6 hx217_7 hHeld ⊢
   refine pur_ (i := 0) (N := some 17) q12_1 (any_of HT_.out (by kernel_rfl)) ?_
   refine pur_ (i := 1) (N := some 18) q12_2 (any_of HT_.out (by kernel_rfl)) ?_
   refine pur_ (i := 2) (N := some 19) q12_3 (any_of HT_.out (by kernel_rfl)) ?_
   refine pur_ (i := 4) (N := some 21) q12_4 (any_of HT_.out (by kernel_rfl)) ?_
   refine pur_ (i := 5) (N := some 22) q12_5 (any_of HT_.out (by kernel_rfl)) ?_
   refine pur_ (i := 6) (N := some 23) q12_6 (any_of HT_.out (by kernel_rfl)) ?_
   refine take_ (i := 3) (N := some 20) (v := ?_) (a' := ?_) q12_7 rfl rfl (take_ofW HT_.out HW_.out (by kernel_rfl)) (fun _ _ _ h => h) (Or.inl ⟨by rfl, ?_⟩) hHeld ?_ ?_
   rotate_left
   ·rintro w' ⟨s0, s1, s2, s3, s4, s5, s6, s7, s8, s9, s10, s11, s12, s13, s14, s15⟩
    go_simp
    with_reducible rfl
   rotate_left
   ·simp only [Act.put, List.setIfInBounds_toArray, List.set_cons_zero, List.set_cons_succ, i64_w, i32_w]
    rfl
   refine take_ (i := 7) (N := some 24) (v := ?_) (a' := ?_) q12_8 rfl rfl (take_ofW HT_.out HW_.out (by kernel_rfl)) (fun _ _ _ h => h) (Or.inl ⟨by rfl, ?_⟩) hHeld ?_ ?_
   rotate_left
   ·rintro w' ⟨s0, s1, s2, s3, s4, s5, s6, s7, s8, s9, s10, s11, s12, s13, s14, s15⟩
    go_simp
    with_reducible rfl
   rotate_left
   ·simp only [Act.put, List.setIfInBounds_toArray, List.set_cons_zero, List.set_cons_succ, i64_w, i32_w]
    rfl
   refine one_ (i := 8) (N := some 25) q12_9 rfl rfl (one_of HT_.out (by kernel_rfl)) (by decide) (fun K hK => ?_)
   refine goes_ Tryz.func22 (by kernel_rfl) rfl #[.agg #[.string ((rd_T43 l0 x5_1).f0), .string ((rd_T43 l0 x5_1).f1), .int .u8 ((rd_T43 l0 x5_1).f2), .int .i64 ((rd_T43 l0 x5_1).f3.f0), .int .i64 ((rd_T43 l0 x5_1).f3.f1), .int .i64 ((rd_T43 l0 x5_1).f3.f2), .int .i64 ((rd_T43 l0 x5_1).f3.f3), .slice A216_7 ((rd_T43 l0 x5_1).f4).length c216_7], .agg #[.string ((rd_T43 l1 x5_1).f0), .string ((rd_T43 l1 x5_1).f1), .int .u8 ((rd_T43 l1 x5_1).f2), .int .i64 ((rd_T43 l1 x5_1).f3.f0), .int .i64 ((rd_T43 l1 x5_1).f3.f1), .int .i64 ((rd_T43 l1 x5_1).f3.f2), .int .i64 ((rd_T43 l1 x5_1).f3.f3), .slice A217_7 ((rd_T43 l1 x5_1).f4).length c217_7]] (by rfl) rfl rfl wm_ ?_
   with_reducible refine (bindleref08_Same.calls ((rd_T43 l0 x5_1).f0) ((rd_T43 l0 x5_1).f1) ((rd_T43 l0 x5_1).f2) ((rd_T43 l0 x5_1).f3.f0) ((rd_T43 l0 x5_1).f3.f1) ((rd_T43 l0 x5_1).f3.f2) ((rd_T43 l0 x5_1).f3.f3) _ _ ((rd_T43 l0 x5_1).f4) ((rd_T43 l1 x5_1).f0) ((rd_T43 l1 x5_1).f1) ((rd_T43 l1 x5_1).f2) ((rd_T43 l1 x5_1).f3.f0) ((rd_T43 l1 x5_1).f3.f1) ((rd_T43 l1 x5_1).f3.f2) ((rd_T43 l1 x5_1).f3.f3) _ _ ((rd_T43 l1 x5_1).f4) true _ ?side1 ?side2 ?side3 ?side4 A7.out).mono ?_
   (case side1 => exact wc_ (Kd.C_below HR216_7.out HB.out))
   (case side2 => exact HC216_7.out)
   (case side3 => exact wc_ (Kd.C_below HR217_7.out HB.out))
   (case side4 => exact HC217_7.out)
   rintro e w10 ⟨rfl, hb⟩
   refine ⟨_, rfl, ?_⟩
   have n0_ := A0_ (below_step (wb_ HB.out) hb)
   clear HB
   have HB := n0_
   clear n0_
   (try clear hb)
   (try clear hb2)
   (try clear hk)
   (try clear hi)
   refine hK.out _ _ ⟨((HB.out.cell (World.block_lt_of_cell? w _ hw216_0)).trans hw216_0), ((HB.out.cell (World.block_lt_of_cell? w _ hw216_1)).trans hw216_1), ((HB.out.cell (World.block_lt_of_cell? w _ hw216_2)).trans hw216_2), ((HB.out.cell (World.block_lt_of_cell? w _ hw216_3)).trans hw216_3), ((HB.out.cell (World.block_lt_of_cell? w _ hw216_4)).trans hw216_4), ((HB.out.cell (World.block_lt_of_cell? w _ hw216_5)).trans hw216_5), ((HB.out.cell (World.block_lt_of_cell? w _ hw216_6)).trans hw216_6), ((HB.out.cell (World.block_lt_of_cell? w _ hw216_7)).trans hw216_7), ((HB.out.cell (World.block_lt_of_cell? w _ hw217_0)).trans hw217_0), ((HB.out.cell (World.block_lt_of_cell? w _ hw217_1)).trans hw217_1), ((HB.out.cell (World.block_lt_of_cell? w _ hw217_2)).trans hw217_2), ((HB.out.cell (World.block_lt_of_cell? w _ hw217_3)).trans hw217_3), ((HB.out.cell (World.block_lt_of_cell? w _ hw217_4)).trans hw217_4), ((HB.out.cell (World.block_lt_of_cell? w _ hw217_5)).trans hw217_5), ((HB.out.cell (World.block_lt_of_cell? w _ hw217_6)).trans hw217_6), ((HB.out.cell (World.block_lt_of_cell? w _ hw217_7)).trans hw217_7)⟩ (fun hHeld => ?_)
   clear hK K
   refine norm_ (a' := ?_) ?_ ?_
   rotate_left
   ·show Act.put _ (some 25) _ = _
    simp only [Act.put, List.setIfInBounds_toArray, List.set_cons_zero, List.set_cons_succ, i64_w, i32_w]
    rfl
   refine pur_ (i := 9) (N := some 26) q12_10 (any_of HT_.out (by kernel_rfl)) ?_
   refine done_ (done_of HT_.out (by kernel_rfl)) ?_
   try go_wp2
   go_roundg k1
   case measure => have := HK1.out; omega
   case rel => exact ⟨(wrap64 (x5_1 + 1)), wr_, H', ⟨by have := HK1.out; omega⟩, ⟨wb_ HB.out⟩⟩
end Go.Proofs.YtiijbmaamblidaaGreatDoor.Print

namespace Go.Proofs.YtiijbmaamblidaaGreatDoor
open Go.RowKit Go.Proofs.YtiijbmaamblidaaGreatDoor.Print Go.Proofs.YtiijbmaamblidaaGreatDoorW.PrintWords
set_option linter.unusedVariables false
theorem rdM_i (l : List Mem) (j : Nat) (h : j < l.length) : rd_T43 l (j : Int) = l[j] := by
 unfold rd_T43
 rw [List.getD_eq_getElem?_getD, Int.toNat_natCast, List.getElem?_eq_getElem h]
 rfl
theorem rdS_nat (l : List ByteArray) (j : Nat) (h : j < l.length) : rdOf ByteArray.empty l (j : Int) = l[j] := by
 unfold rdOf
 rw [List.getD_eq_getElem?_getD, Int.toNat_natCast, List.getElem?_eq_getElem h]
 rfl
theorem w_succ {n : Nat} (h : n ≤ 4611686018427387904) : wrap64 ((n : Int) + 1) = ((n + 1 : Nat) : Int) := by unfold wrap64; omega
def zl : List ByteArray → List ByteArray → ByteArray → Option ByteArray
 | a :: x, b :: y, q => if a = q then some b else zl x y q
 | _, _, _ => none
theorem zl_at : ∀ (x y : List ByteArray) (q : ByteArray) (hl : x.length = y.length) (t : Nat) (ht : t < x.length), x[t] = q → (∀ (j : Nat) (hj : j < x.length), j < t → x[j] ≠ q) → zl x y q = some (y[t]'(by omega)) := by
 intro x
 induction x with
 | nil => intro y q hl t ht; exact absurd ht (Nat.not_lt_zero _)
 | cons a x ih =>
  intro y q hl t ht he hn
  cases y with
  | nil => cases hl
  | cons b y =>
   rw [zl]
   cases t with
   | zero => rw [if_pos (show a = q from he)]; rfl
   | succ t =>
    rw [if_neg (show ¬ a = q from hn 0 (Nat.succ_pos _) (Nat.succ_pos _))]
    exact ih y q (by simpa using hl) t (by simpa using ht) he (fun j hj hjt => hn (j + 1) (by simpa using hj) (by omega))
theorem zl_none : ∀ (x y : List ByteArray) (q : ByteArray), (∀ (j : Nat) (hj : j < x.length), x[j] ≠ q) → zl x y q = none := by
 intro x
 induction x with
 | nil => intro y q _; unfold zl; rfl
 | cons a x ih =>
  intro y q h
  cases y with
  | nil => unfold zl; rfl
  | cons b y =>
   rw [zl, if_neg (show ¬ a = q from h 0 (Nat.succ_pos _))]
   exact ih y q (fun j hj => h (j + 1) (by simpa using hj))
theorem zl_snoc : ∀ (x y : List ByteArray) (hl : x.length = y.length) (a b q : ByteArray), zl x y a = none → zl (x ++ [a]) (y ++ [b]) q = if a = q then some b else zl x y q := by
 intro x
 induction x with
 | nil =>
  intro y hl a b q _
  cases y with
  | nil => rfl
  | cons b y => cases hl
 | cons c x ih =>
  intro y hl a b q hn
  cases y with
  | nil => cases hl
  | cons e y =>
   rw [zl] at hn
   split at hn
   ·cases hn
   ·rename_i hca
    rw [List.cons_append, List.cons_append, zl, zl, ih y (by simpa using hl) a b q hn]
    by_cases h1 : c = q
    ·rw [if_pos h1, if_pos h1, if_neg (fun h => hca (by rw [h1, h]))]
    ·rw [if_neg h1, if_neg h1]
section
variable {l : List Node} {order : List ByteArray} {R : List Mem}
theorem refm_inner {x5 : List Mem} {x6 x7 : List ByteArray} {i : Nat} {x : Node} (h67 : x6.length = x7.length) (h5 : x5.length ≤ 1000000000000) (h6 : x6.length ≤ 1000000000000) (hi : i ≤ 1000000000000)
  (hfound : ∀ (t : Nat) (ht : t < x6.length), x6[t] = x.f2 → (∀ (j : Nat) (hj : j < x6.length), j < t → x6[j] ≠ x.f2) → Ev (fun k => bindleref08_Members.l0 k l order (x5 ++ [⟨x.f0, x7[t]'(by omega), 49, x.f4, []⟩]) x6 x7 ((i + 1 : Nat) : Int)) R)
  (hnone : (∀ (j : Nat) (hj : j < x6.length), x6[j] ≠ x.f2) → Ev (fun k => bindleref08_Members.l0 k l order (x5 ++ [memOf x]) (x6 ++ [x.f2]) (x7 ++ [x.f0]) ((i + 1 : Nat) : Int)) R) :
  ∀ (d j : Nat), j + d = x6.length → (∀ (t : Nat) (ht : t < x6.length), t < j → x6[t] ≠ x.f2) →
   Ev (fun k => bindleref08_Members.l1 k l order x5 x6 x7 (i : Int) (j : Int) x.f0 x.f1 x.f2 x.f3 x.f4.f0 x.f4.f1 x.f4.f2 x.f4.f3 x.f5 x.f0 x.f1 x.f3 x.f4.f0 x.f4.f1 x.f4.f2 x.f4.f3 x.f5) R := by
 intro d
 induction d with
 | zero =>
  intro j hj hn
  refine Ev.step (fun k => ?_) (hnone (fun t ht => hn t ht (by omega)))
  rw [bindleref08_Members.l1, if_neg (by omega)]
  simp only [Option.bind_some]
  rw [if_pos (by simp; omega), if_pos (by simp; omega), if_pos (by simp; omega), w_succ (by omega)]
  rfl
 | succ d ih =>
  intro j hj hn
  have hjl : j < x6.length := by omega
  by_cases he : x6[j] = x.f2
  ·refine Ev.step (fun k => ?_) (hfound j hjl he hn)
   rw [bindleref08_Members.l1, if_pos (by omega), if_pos (by omega), rdS_nat x6 j hjl, if_pos (by rw [he]), if_pos (by omega), rdS_nat x7 j (by omega)]
   simp only [Option.bind_some]
   rw [if_pos (by simp; omega), w_succ (by omega)]
  ·refine Ev.step (fun k => ?_) (ih (j + 1) (by omega) (fun t ht h => by
    rcases Nat.lt_or_ge t j with h3 | h3
    ·exact hn t ht h3
    ·obtain rfl : t = j := by omega
     exact he))
   rw [bindleref08_Members.l1, if_pos (by omega), if_pos (by omega), rdS_nat x6 j hjl, if_neg (fun h => he (ba_ext h)), w_succ (by omega)]
theorem refm_outer (hlen : l.length ≤ 1000000000000) (ho : order.length ≤ 1000000000000) : ∀ (d i : Nat) (s sf : MemSt) (x6 x7 : List ByteArray), i + d = order.length → (order.drop i).foldlM (stepM l) s = some sf → s.out.length = i → x6.length = x7.length → x6.length ≤ i →
  (∀ q, lk s.first q.data.toList = zl x6 x7 q) → Ev (fun k => bindleref08_Members.l0 k l order s.out x6 x7 (i : Int)) sf.out := by
 intro d
 induction d with
 | zero =>
  intro i s sf x6 x7 hi hf hs h67 h6 hz
  rw [List.drop_of_length_le (by omega)] at hf
  obtain rfl : s = sf := Option.some.inj hf
  exact Ev.step (f := fun _ => some s.out) (fun k => by rw [bindleref08_Members.l0, if_neg (by omega)]) (Ev.now _)
 | succ d ih =>
  intro i s sf x6 x7 hi hf hs h67 h6 hz
  have hil : i < order.length := by omega
  rw [List.drop_eq_getElem_cons hil, List.foldlM_cons] at hf
  cases hst : stepM l s order[i] with
  | none => rw [hst] at hf; cases hf
  | some s1 =>
   rw [hst] at hf
   replace hf : (order.drop (i + 1)).foldlM (stepM l) s1 = some sf := hf
   unfold stepM at hst
   cases hfx : findF l order[i] with
   | none => rw [hfx] at hst; cases hst
   | some x =>
    rw [hfx] at hst
    dsimp only at hst
    split at hst
    ·cases hst
    ·simp only [Option.some.injEq] at hst
     subst hst
     have hfi := rfind_eq l order[i] hlen
     rw [hfx] at hfi
     refine Ev.step (f := fun k => (bindleref08_Find.f k l order[i]).bind fun bt173 => _) (fun k => by rw [bindleref08_Members.l0, if_pos (by omega), if_pos (by omega), rdS_nat order i hil]) ?_
     refine Ev.bind hfi ?_
     dsimp only [tupN]
     by_cases h48 : x.f3 = 48
     ·refine Ev.congr (fun k => by rw [if_pos h48]; rfl) (refm_inner (l := l) (order := order) (x5 := s.out) (i := i) (x := x) h67 (by omega) (by omega) (by omega) ?_ ?_ x6.length 0 (by omega) (fun t ht h => absurd h (by omega)))
      ·intro t ht he hn
       have hlk : lk s.first x.f2.data.toList = some (x7[t]'(by omega)) := by rw [hz]; exact zl_at x6 x7 x.f2 h67 t ht he hn
       have hm : memF s.first x = (⟨x.f0, x7[t]'(by omega), 49, x.f4, []⟩, s.first) := by unfold memF; rw [if_pos h48, hlk]
       rw [hm] at hf
       exact ih (i + 1) _ sf x6 x7 (by omega) hf (by simp; omega) h67 (by omega) hz
      ·intro hn
       have hzn : zl x6 x7 x.f2 = none := zl_none x6 x7 x.f2 hn
       have hlk : lk s.first x.f2.data.toList = none := by rw [hz]; exact hzn
       have hm : memF s.first x = (memOf x, (x.f2.data.toList, x.f0) :: s.first) := by unfold memF; rw [if_pos h48, hlk]; unfold memOf; rw [h48]
       rw [hm] at hf
       refine ih (i + 1) _ sf (x6 ++ [x.f2]) (x7 ++ [x.f0]) (by omega) hf (by simp; omega) (by simp [h67]) (by simp; omega) (fun q => ?_)
       rw [zl_snoc x6 x7 h67 x.f2 x.f0 q hzn]
       show lk ((x.f2.data.toList, x.f0) :: s.first) q.data.toList = _
       rw [lk, hz]
       by_cases h : x.f2 = q
       ·rw [if_pos h, if_pos (by rw [h])]
       ·rw [if_neg h, if_neg (fun e => h (ba_data.1 e).symm)]
     ·have hm : memF s.first x = (memOf x, s.first) := by unfold memF; rw [if_neg h48]; rfl
      rw [hm] at hf
      refine Ev.congr (fun k => ?_) (ih (i + 1) _ sf x6 x7 (by omega) hf (by simp; omega) h67 (by omega) hz)
      rw [if_neg h48]
      simp only [Option.bind_some]
      rw [if_pos (by simp; omega), w_succ (by omega)]
      rfl
end
theorem refMembers_eq (l : List Node) (order : List ByteArray) (hlen : l.length ≤ 1000000000000) (hok : (membersF l order).2 = 0) : Ev (fun k => bindleref08_Members.f k l order) (membersF l order).1 := by
 unfold membersF at hok ⊢
 split at hok
 ·cases hok
 ·rename_i hl
  have hl' : order.length = l.length := Decidable.of_not_not hl
  cases hf : order.foldlM (stepM l) ⟨[], [], []⟩ with
  | none => rw [hf] at hok; cases hok
  | some s =>
   rw [if_neg hl]
   exact refm_outer hlen (by omega) order.length 0 ⟨[], [], []⟩ s [] [] (by omega) hf rfl rfl (Nat.le_refl _) (fun q => rfl)
theorem same_refl (m : Mem) : bindleref08_Same.f m.f0 m.f1 m.f2 m.f3.f0 m.f3.f1 m.f3.f2 m.f3.f3 m.f4 m.f0 m.f1 m.f2 m.f3.f0 m.f3.f1 m.f3.f2 m.f3.f3 m.f4 = some true := by
 unfold bindleref08_Same.f
 rw [if_pos rfl, if_pos rfl, if_pos rfl, if_pos (by simp), beq_self_eq_true]
theorem sameAll_l (l : List Mem) (hlen : l.length ≤ 1000000000000) : ∀ (d i : Nat), i + d = l.length → Ev (fun k => bindleref08_SameAll.l0 k l l (i : Int)) true := by
 intro d
 induction d with
 | zero =>
  intro i hi
  exact Ev.step (f := fun _ => some true) (fun k => by rw [bindleref08_SameAll.l0, if_neg (by omega)]) (Ev.now _)
 | succ d ih =>
  intro i hi
  refine Ev.step (fun k => ?_) (ih (i + 1) (by omega))
  rw [bindleref08_SameAll.l0, if_pos (by omega), if_pos (by omega), if_pos (by omega), rdM_i l i (by omega), same_refl, Option.bind_some, if_pos rfl, w_succ (by omega)]
theorem sameAll_refl (l : List Mem) (hlen : l.length ≤ 1000000000000) : Ev (fun k => bindleref08_SameAll.f k l l) true := by
 refine Ev.congr (fun k => ?_) (sameAll_l l hlen l.length 0 (by omega))
 unfold bindleref08_SameAll.f
 rw [if_pos rfl]
 rfl
end Go.Proofs.YtiijbmaamblidaaGreatDoor

namespace Go.Proofs.YtiijbmaamblidaaGreatDoor.Print
open Go.RowKit Go.Proofs.YtiijbmaamblidaaGreatDoorW.PrintWords Go.Proofs.YtiijbmaamblidaaGreatDoorW.PrintLast Go.Proofs.YtiijbmaamblidaaGreatDoorW.PrintMore
attribute [local go_sem] max2_int min2_int max_two min_two max_three min_three max_four min_four   -- for this text's walks alone
set_option linter.unusedVariables false
set_option linter.unusedSimpArgs false
attribute [local go_sem high] eqA40
end Go.Proofs.YtiijbmaamblidaaGreatDoor.Print

namespace Go.Proofs.YtiijbmaamblidaaGreatDoor.Print
open Go.RowKit Go.Proofs.YtiijbmaamblidaaGreatDoorW.PrintWords Go.Proofs.YtiijbmaamblidaaGreatDoorW.PrintLast Go.Proofs.YtiijbmaamblidaaGreatDoorW.PrintMore
attribute [local go_sem] max2_int min2_int max_two min_two max_three min_three max_four min_four   -- for this text's walks alone
set_option linter.unusedVariables false
set_option linter.unusedSimpArgs false
end Go.Proofs.YtiijbmaamblidaaGreatDoor.Print

namespace Go.Proofs.YtiijbmaamblidaaGreatDoor
open Go.RowKit Go.Proofs.YtiijbmaamblidaaGreatDoor.Print Go.Proofs.YtiijbmaamblidaaGreatDoorW.PrintWords
set_option linter.unusedVariables false
abbrev Cls := S51
def insR (x : Cls) (acc : List Cls) : List Cls := (acc.reverse.dropWhile (fun y => lt x.f0.f0 y.f0.f0)).reverse ++ x :: (acc.reverse.takeWhile (fun y => lt x.f0.f0 y.f0.f0)).reverse
def sortC (l : List Cls) : List Cls := l.foldl (fun acc x => insR x acc) []
theorem insR_at (x : Cls) (a b : List Cls) (hb : ∀ y ∈ b, lt x.f0.f0 y.f0.f0 = true) (ha : ∀ y, a.getLast? = some y → lt x.f0.f0 y.f0.f0 = false) : insR x (a ++ b) = a ++ x :: b := by
 unfold insR
 rw [List.reverse_append]
 have h1 : ∀ y ∈ b.reverse, lt x.f0.f0 y.f0.f0 = true := fun y hy => hb y (List.mem_reverse.1 hy)
 have h2 : a.reverse.takeWhile (fun y => lt x.f0.f0 y.f0.f0) = [] ∧ a.reverse.dropWhile (fun y => lt x.f0.f0 y.f0.f0) = a.reverse := by
  cases hr : a.reverse with
  | nil => exact ⟨rfl, rfl⟩
  | cons z r =>
   have hz : a.getLast? = some z := by rw [← List.head?_reverse, hr]; rfl
   have := ha z hz
   rw [List.takeWhile_cons, List.dropWhile_cons, this]
   exact ⟨rfl, rfl⟩
 have h3 : ∀ (u v : List Cls), (∀ y ∈ u, lt x.f0.f0 y.f0.f0 = true) → (u ++ v).takeWhile (fun y => lt x.f0.f0 y.f0.f0) = u ++ v.takeWhile (fun y => lt x.f0.f0 y.f0.f0) ∧ (u ++ v).dropWhile (fun y => lt x.f0.f0 y.f0.f0) = v.dropWhile (fun y => lt x.f0.f0 y.f0.f0) := by
  intro u v hu
  induction u with
  | nil => exact ⟨rfl, rfl⟩
  | cons w u ih =>
   have hw := hu w List.mem_cons_self
   obtain ⟨i1, i2⟩ := ih (fun y hy => hu y (List.mem_cons_of_mem _ hy))
   exact ⟨by simp only [List.cons_append, List.takeWhile_cons, hw, if_true, i1], by simp only [List.cons_append, List.dropWhile_cons, hw, if_true, i2]⟩
 obtain ⟨h4, h5⟩ := h3 b.reverse a.reverse h1
 rw [h4, h5, h2.1, h2.2, List.append_nil, List.reverse_reverse, List.reverse_reverse]
def leadC (s : List Cls) (i : Nat) (x : Cls) : ByteArray := if x.f0.f3 = 48 then (match (s.take (i + 1)).find? (fun y => decide (y.f0.f3 = 48 ∧ y.f1 = x.f1)) with
 | some y => y.f0.f0
 | none => emp) else emp
def outC (s : List Cls) (i : Nat) (x : Cls) : Node := ⟨x.f0.f0, x.f0.f1, leadC s i x, x.f0.f3, x.f0.f4, x.f0.f5⟩
def sortedF (l : List Cls) : List Node := (sortC l).mapIdx (fun i x => outC (sortC l) i x)
theorem insR_perm (x : Cls) (acc : List Cls) : (insR x acc).Perm (x :: acc) := by
 unfold insR
 refine List.perm_middle.trans (List.Perm.cons x ?_)
 rw [← List.reverse_append]
 have : acc.reverse.takeWhile (fun y => lt x.f0.f0 y.f0.f0) ++ acc.reverse.dropWhile (fun y => lt x.f0.f0 y.f0.f0) = acc.reverse := List.takeWhile_append_dropWhile
 rw [this, List.reverse_reverse]
theorem sortC_from (l acc : List Cls) : (l.foldl (fun acc x => insR x acc) acc).Perm (acc ++ l) := by
 induction l generalizing acc with
 | nil => rw [List.append_nil]; exact List.Perm.refl _
 | cons x l ih =>
  rw [List.foldl_cons]
  refine (ih _).trans ?_
  refine ((insR_perm x acc).append_right l).trans ?_
  exact List.perm_middle.symm
theorem sortC_perm (l : List Cls) : (sortC l).Perm l := sortC_from l []
def RiseC (s : List Cls) : Prop := s.Pairwise (fun a b => lt a.f0.f0 b.f0.f0 = true)
theorem insR_rise {x : Cls} {acc : List Cls} (h : RiseC acc) (hx : ∀ y ∈ acc, y.f0.f0 ≠ x.f0.f0) : RiseC (insR x acc) := by
 obtain ⟨a, b, hab, hb, ha⟩ : ∃ a b, acc = a ++ b ∧ (∀ y ∈ b, lt x.f0.f0 y.f0.f0 = true) ∧ (∀ y, a.getLast? = some y → lt x.f0.f0 y.f0.f0 = false) := by
  refine ⟨(acc.reverse.dropWhile (fun y => lt x.f0.f0 y.f0.f0)).reverse, (acc.reverse.takeWhile (fun y => lt x.f0.f0 y.f0.f0)).reverse, ?_, fun y hy => ?_, fun y hy => ?_⟩
  ·rw [← List.reverse_append, List.takeWhile_append_dropWhile, List.reverse_reverse]
  ·rw [List.mem_reverse] at hy
   have h1 := List.all_takeWhile (l := acc.reverse) (p := fun y => lt x.f0.f0 y.f0.f0)
   rw [List.all_eq_true] at h1
   exact h1 y hy
  ·rw [List.getLast?_reverse] at hy
   have := List.head?_dropWhile_not (fun y => lt x.f0.f0 y.f0.f0) acc.reverse
   rw [hy] at this
   simpa using this
 subst hab
 rw [insR_at x a b hb ha]
 unfold RiseC at h ⊢
 rw [List.pairwise_append] at h ⊢
 refine ⟨h.1, List.pairwise_cons.2 ⟨hb, h.2.1⟩, fun y hy z hz => ?_⟩
 have hyx : lt y.f0.f0 x.f0.f0 = true := by
  -- the last one of a is not behind x; y is not behind the last one
  obtain ⟨w, hw⟩ : ∃ w, a.getLast? = some w := by
   cases hl : a.getLast? with
   | some w => exact ⟨w, rfl⟩
   | none => rw [List.getLast?_eq_none_iff] at hl; subst hl; cases hy
  have h1 := ha w hw
  have hwm : w ∈ a := List.mem_of_getLast? hw
  have h2 : lt w.f0.f0 x.f0.f0 = true := by
   rcases lt_tri w.f0.f0 x.f0.f0 with h | h | h
   ·exact h
   ·exact absurd (ba_ext h) (hx w (List.mem_append_left _ hwm))
   ·rw [h1] at h; cases h
  by_cases e : y = w
  ·rw [e]; exact h2
  ·refine lt_trans ?_ h2
   have h3 := h.1
   obtain ⟨ini, hini⟩ : ∃ ini, a = ini ++ [w] := (by rw [List.getLast?_eq_some_iff] at hw; exact hw)
   rw [hini] at h3 hy
   rw [List.pairwise_append] at h3
   rcases List.mem_append.1 hy with h4 | h4
   ·exact h3.2.2 y h4 w (by simp)
   ·rw [List.mem_singleton] at h4; exact absurd h4 e
 rcases List.mem_cons.1 hz with rfl | hz
 ·exact hyx
 ·exact h.2.2 y hy z hz
theorem sortC_rise_from {l acc : List Cls} (h : RiseC acc) (hn : ((acc ++ l).map (fun x => x.f0.f0)).Nodup) : RiseC (l.foldl (fun acc x => insR x acc) acc) := by
 induction l generalizing acc with
 | nil => exact h
 | cons x l ih =>
  rw [List.foldl_cons]
  have h1 : ∀ y ∈ acc, y.f0.f0 ≠ x.f0.f0 := by
   intro y hy e
   rw [List.map_append, List.nodup_append] at hn
   exact hn.2.2 _ (List.mem_map.2 ⟨y, hy, rfl⟩) _ (List.mem_map.2 ⟨x, List.mem_cons_self, rfl⟩) e
  refine ih (insR_rise h h1) ?_
  refine (List.Perm.nodup_iff ?_).1 hn
  refine List.Perm.map _ ?_
  refine List.perm_middle.trans ?_
  exact ((insR_perm x acc).append_right l).symm
theorem sortC_rise {l : List Cls} (hn : (l.map (fun x => x.f0.f0)).Nodup) : RiseC (sortC l) := sortC_rise_from List.Pairwise.nil hn
end Go.Proofs.YtiijbmaamblidaaGreatDoor
