/-
  Part of the proof that LinksMembers answers true: texts put together (wip/bundle.py).
-/
import Derived.Test.YtfljbidecljlcaaDoorCLinksMembers3
namespace Go.Proofs.YtfljbidecljlcaaDoor.Print
open Go.RowKit Go.Proofs.YtfljbidecljlcaaDoorW.PrintWords Go.Proofs.YtfljbidecljlcaaDoorW.PrintLast Go.Proofs.YtfljbidecljlcaaDoorW.PrintMore
attribute [local go_sem] max2_int min2_int max_two min_two max_three min_three max_four min_four   -- for this text's walks alone
set_option linter.unusedVariables false
set_option linter.unusedSimpArgs false
abbrev q20_0 : Array Bool := #[false, false, false, false, false, false, false, false, false, false, false, false, false]
abbrev q20_1 : Array Bool := #[true, false, false, false, false, false, false, false, false, false, false, false, false]
abbrev q20_2 : Array Bool := #[true, true, false, false, false, false, false, false, false, false, false, false, false]
abbrev q20_3 : Array Bool := #[true, true, true, false, false, false, false, false, false, false, false, false, false]
abbrev q20_4 : Array Bool := #[true, true, true, true, false, false, false, false, false, false, false, false, false]
abbrev q20_5 : Array Bool := #[true, true, true, true, true, false, false, false, false, false, false, false, false]
abbrev q20_6 : Array Bool := #[true, true, true, true, true, true, false, false, false, false, false, false, false]
abbrev q20_7 : Array Bool := #[true, true, true, true, true, true, true, false, false, false, false, false, false]
abbrev q20_8 : Array Bool := #[true, true, true, true, true, true, true, true, false, false, false, false, false]
abbrev q20_9 : Array Bool := #[true, true, true, true, true, true, true, true, false, true, false, false, false]
abbrev q20_10 : Array Bool := #[true, true, true, true, true, true, true, true, true, true, false, false, false]
abbrev q20_11 : Array Bool := #[true, true, true, true, true, true, true, true, true, true, true, false, false]
abbrev q20_12 : Array Bool := #[true, true, true, true, true, true, true, true, true, true, true, true, false]
abbrev q20_13 : Array Bool := #[true, true, true, true, true, true, true, true, true, true, true, true, true]
abbrev q20_14 : Array Bool := #[false, false, false, false, false, false, false, false, false, false]
abbrev q20_15 : Array Bool := #[true, false, false, false, false, false, false, false, false, false]
abbrev q20_16 : Array Bool := #[true, true, false, false, false, false, false, false, false, false]
abbrev q20_17 : Array Bool := #[true, true, true, false, false, false, false, false, false, false]
abbrev q20_18 : Array Bool := #[true, true, true, false, true, false, false, false, false, false]
abbrev q20_19 : Array Bool := #[true, true, true, true, true, false, false, false, false, false]
abbrev q20_20 : Array Bool := #[true, true, true, true, true, true, false, false, false, false]
abbrev q20_21 : Array Bool := #[true, true, true, true, true, true, true, false, false, false]
abbrev q20_22 : Array Bool := #[true, true, true, true, true, true, true, true, false, false]
abbrev q20_23 : Array Bool := #[true, true, true, true, true, true, true, true, true, false]
abbrev q20_24 : Array Bool := #[true, true, true, true, true, true, true, true, true, true]
abbrev q20_25 : Array Bool := #[true, true, true, true, true, true, true, true, true, false, false, false, false]
abbrev q20_26 : Array Bool := #[false, false, false, false, false, false, false, false, false, false, false, false]
abbrev q20_27 : Array Bool := #[true, false, false, false, false, false, false, false, false, false, false, false]
abbrev q20_28 : Array Bool := #[true, true, false, false, false, false, false, false, false, false, false, false]
abbrev q20_29 : Array Bool := #[true, true, false, false, false, true, false, false, false, false, false, false]
abbrev q20_30 : Array Bool := #[true, true, false, false, false, true, true, false, false, false, false, false]
abbrev q20_31 : Array Bool := #[true, true, true, false, false, true, true, false, false, false, false, false]
abbrev q20_32 : Array Bool := #[true, true, true, false, false, true, true, true, false, false, false, false]
abbrev q20_33 : Array Bool := #[true, true, true, true, true, true, true, true, true, false, false, false]
abbrev q20_34 : Array Bool := #[true, true, true, true, false, true, true, true, false, false, false, false]
abbrev q20_35 : Array Bool := #[true, true, true, false, false, true, true, true, true, false, false, false]
abbrev q20_36 : Array Bool := #[true, true, true, true, false, true, true, true, true, false, false, false]
abbrev q20_37 : Array Bool := #[true, true, true, true, true, true, true, true, false, false, false, false]
abbrev q20_38 : Array Bool := #[true, true, true, true, true, true, true, true, true, true, false, false]
abbrev q20_39 : Array Bool := #[true, true, true, true, true, true, true, true, true, true, true, false]
abbrev q20_40 : Array Bool := #[true, true, true, true, true, true, true, true, true, true, true, true]
mutual
def bindleref08_Members.l0 : Nat → List (S40) → List ByteArray → List (S45) → List ByteArray → List ByteArray → Int → Option ((List (S45)))
 | 0, _, _, _, _, _, _ => none
 | k + 1, x0, x1, x5, x6, x7, x8 => if x8 < (x1.length : Int) then (if 0 ≤ x8 then ((bindleref08_Find.f k x0 (rdOf ByteArray.empty x1 x8)).bind fun bt173 => (if bt173.2.2.2.1 = 48 then (bindleref08_Members.l1 k x0 x1 x5 x6 x7 x8 0 bt173.1 bt173.2.1 bt173.2.2.1 bt173.2.2.2.1 bt173.2.2.2.2.1 bt173.2.2.2.2.2.1 bt173.2.2.2.2.2.2.1 bt173.2.2.2.2.2.2.2.1 bt173.2.2.2.2.2.2.2.2.1 bt173.1 bt173.2.1 bt173.2.2.2.1 bt173.2.2.2.2.1 bt173.2.2.2.2.2.1 bt173.2.2.2.2.2.2.1 bt173.2.2.2.2.2.2.2.1 bt173.2.2.2.2.2.2.2.2.1) else ((some (([(⟨bt173.1, bt173.2.1, bt173.2.2.2.1, (⟨bt173.2.2.2.2.1, bt173.2.2.2.2.2.1, bt173.2.2.2.2.2.2.1, bt173.2.2.2.2.2.2.2.1⟩ : S38), bt173.2.2.2.2.2.2.2.2.1⟩ : S45)] : List (S45)) : List (S45))).bind fun y213 => (if x5.length + y213.length < 1466015503701 then (bindleref08_Members.l0 k x0 x1 (x5 ++ y213) x6 x7 (wrap64 (x8 + 1))) else (none))))) else (none)) else (some x5)
def bindleref08_Members.l1 : Nat → List (S40) → List ByteArray → List (S45) → List ByteArray → List ByteArray → Int → Int → ByteArray → ByteArray → ByteArray → Int → Int → Int → Int → Int → List Int → ByteArray → ByteArray → Int → Int → Int → Int → Int → List Int → Option ((List (S45)))
 | 0, _, _, _, _, _, _, _, _, _, _, _, _, _, _, _, _, _, _, _, _, _, _, _, _ => none
 | k + 1, x0, x1, x5, x6, x7, x8, x12, x186000, x186001, x186002, x186003, x186004, x186005, x186006, x186007, x186008, x187000, x187001, x187002, x187003, x187004, x187005, x187006, x187007 => if x12 < (x6.length : Int) then (if 0 ≤ x12 then (if (rdOf ByteArray.empty x6 x12).toList = x186002.toList then (if x12 < (x7.length : Int) then ((some (([(⟨x187000, rdOf ByteArray.empty x7 x12, 49, (⟨x187003, x187004, x187005, x187006⟩ : S38), ([] : List Int)⟩ : S45)] : List (S45)) : List (S45))).bind fun y189 => (if x5.length + y189.length < 1466015503701 then (bindleref08_Members.l0 k x0 x1 (x5 ++ y189) x6 x7 (wrap64 (x8 + 1))) else (none))) else (none)) else (bindleref08_Members.l1 k x0 x1 x5 x6 x7 x8 (wrap64 (x12 + 1)) x186000 x186001 x186002 x186003 x186004 x186005 x186006 x186007 x186008 x187000 x187001 x187002 x187003 x187004 x187005 x187006 x187007)) else (none)) else ((some (([x186002] : List ByteArray) : List ByteArray)).bind fun y195 => (if x6.length + y195.length < 8796093022208 then ((some (([x186000] : List ByteArray) : List ByteArray)).bind fun y201 => (if x7.length + y201.length < 8796093022208 then ((some (([(⟨x187000, x187001, x187002, (⟨x187003, x187004, x187005, x187006⟩ : S38), x187007⟩ : S45)] : List (S45)) : List (S45))).bind fun y207 => (if x5.length + y207.length < 1466015503701 then (bindleref08_Members.l0 k x0 x1 (x5 ++ y207) (x6 ++ y195) (x7 ++ y201) (wrap64 (x8 + 1))) else (none))) else (none))) else (none)))
end
def bindleref08_Members.f (k : Nat) (l0 : List (S40)) (l1 : List ByteArray) : Option ((List (S45))) := bindleref08_Members.l0 k l0 l1 ([] : List (S45)) ([] : List ByteArray) ([] : List ByteArray) 0
def bindleref08_Members.T10 : Bool × List (List Nat × List Nat) := (true, [([], []), ([], []), ([1], [1]), ([0, 2], [0, 2]), ([3], [3]), ([4], [4]), ([4], [4]), ([5, 6, 4], [4, 5, 6]), ([7, 4], [4, 7]), ([4], [4]), ([9, 4], [4, 9]), ([8, 10, 4], [4, 8, 10]), ([4, 11], [4, 11])])
def bindleref08_Members.B10 : List Nat := [0, 0, 2, 7, 15, 31, 31, 127, 255, 31, 543, 2047, 4095]
theorem bindleref08_Members.tab10 : rtab .any (opsOf Tryd.f20 10) = bindleref08_Members.T10 := by kernel_rfl
theorem bindleref08_Members.bits10 : waitsOk bindleref08_Members.T10.2 bindleref08_Members.B10 = true := by kernel_rfl
def bindleref08_Members.T13 : Bool × List (List Nat × List Nat) := (true, [([], []), ([], []), ([0, 1], [0, 1]), ([2], [2]), ([], []), ([4], [4]), ([0, 1, 2, 3, 4, 5], []), ([6, 3, 5, 0, 1, 2, 3, 4, 5], [3, 6]), ([0, 1, 2, 3, 4, 5, 6, 7], []), ([8, 7, 0, 1, 2, 3, 4, 5, 6, 7], [8])])
def bindleref08_Members.B13 : List Nat := [0, 0, 3, 7, 0, 16, 63, 127, 255, 511]
theorem bindleref08_Members.tab13 : rtab .any (opsOf Tryd.f20 13) = bindleref08_Members.T13 := by kernel_rfl
theorem bindleref08_Members.bits13 : waitsOk bindleref08_Members.T13.2 bindleref08_Members.B13 = true := by kernel_rfl
def bindleref08_Members.T14 : Bool × List (List Nat × List Nat) := (true, [([], []), ([], []), ([1], [1]), ([2], [2]), ([0, 3], [0, 3]), ([], []), ([], []), ([6], [6]), ([7], [7]), ([5, 8, 4], [5, 8]), ([4, 9, 0, 1, 2, 3, 4], [0, 4]), ([9, 10, 0, 1, 2, 3, 4, 5, 6, 7, 8, 9, 10], [5, 9])])
def bindleref08_Members.B14 : List Nat := [0, 0, 2, 6, 15, 0, 0, 64, 192, 511, 1023, 2047]
theorem bindleref08_Members.tab14 : rtab .any (opsOf Tryd.f20 14) = bindleref08_Members.T14 := by kernel_rfl
theorem bindleref08_Members.bits14 : waitsOk bindleref08_Members.T14.2 bindleref08_Members.B14 = true := by kernel_rfl
set_option maxHeartbeats 8000000 in
set_option maxRecDepth 100000 in
theorem bindleref08_Members.calls (k : Nat) (P0_ : Nat → Prop) (A0 : Option Addr) (c0 : Nat) (l0 : List (S40)) (A1 : Option Addr) (c1 : Nat) (l1 : List ByteArray) (r : List (S45)) (w : World) (hs0 : Kd.V k40 40 w w.heap.size (fun k_ => P0_ k_) (.slice A0 l0.length c0) l0) (hr1 : Kd.C Kd.string w A1 l1.length l1) (hc1 : l1.length ≤ c1) (h : bindleref08_Members.f k l0 l1 = some r) :
  Calls Tryd.prog 20 #[.slice A0 l0.length c0, .slice A1 l1.length c1] w fun e w' => ∃ v0_ : Value, e = .returned (v0_) ∧ Kd.N k45 45 w' w.heap.size (fun k_ => (P0_ k_ ∨ w.heap.size ≤ k_)) v0_ r ∧ Below w.heap.size w w' := by
 have hu40 := Tryd.underlying40
 have hu38 := Tryd.underlying38
 have hu45 := Tryd.underlying45
 have HO0 := A0_ (show Kd.V k40 40 w w.heap.size (fun k_ => (P0_ k_ ∨ w.heap.size ≤ k_)) (.slice A0 l0.length c0) l0 from Kd.V_mono hs0 (fun k_ hk => .inl hk))
 have HR1 := A0_ hr1
 have HC1 := A0_ hc1
 clear hr1 hc1
 have HB := A0_ (Below.refl w.heap.size w)
 have H : (bindleref08_Members.l0 k l0 l1 ([] : List (S45)) ([] : List ByteArray) ([] : List ByteArray) 0) = some r := h
 clear h
 have H' := A0_ H
 clear H
 go_enter Tryd.func20, Tryd.ntmps20
 go_wp2
 go_loopg [5, 6, 7, 8] k (fun kq v5 v6 v7 v8 w' => ∃ (x5_1 : List (S45)) (x6_1 : List ByteArray) (x7_1 : List ByteArray) (x8_1 : Int), v8 = .int .i64 x8_1 ∧ Aside0 (bindleref08_Members.l0 kq l0 l1 x5_1 x6_1 x7_1 x8_1 = some r) ∧ Aside0 (kq ≤ k) ∧ Aside0 (Kd.V k40 40 w' w.heap.size (fun k_ => (P0_ k_ ∨ w.heap.size ≤ k_) ∧ some k_ ≠ (v5 : Value).ownBlock ∧ some k_ ≠ (v6 : Value).ownBlock ∧ some k_ ≠ (v7 : Value).ownBlock) (.slice A0 l0.length c0) l0) ∧ Aside0 (Kd.N k45 45 w' w.heap.size (fun k_ => (P0_ k_ ∨ w.heap.size ≤ k_) ∧ some k_ ≠ (v6 : Value).ownBlock ∧ some k_ ≠ (v7 : Value).ownBlock) v5 x5_1) ∧ Aside0 (Kd.R Kd.string 9 w' w.heap.size (fun k_ => (w.heap.size ≤ k_) ∧ some k_ ≠ (v7 : Value).ownBlock) v6 x6_1) ∧ Aside0 (Kd.R Kd.string 9 w' w.heap.size (fun k_ => (w.heap.size ≤ k_) ∧ some k_ ≠ (v6 : Value).ownBlock) v7 x7_1) ∧ Aside0 (Below w.heap.size w w'))
 case atStart => exact ⟨(([] : List (S45))), (([] : List ByteArray)), (([] : List ByteArray)), (0), wr_, H', ⟨Nat.le_refl _⟩, ⟨by (with_reducible repeat (first | apply Va_ | apply VN_ | apply V1_)); exact Kd.V_mono HO0.out (fun _ hk => ⟨hk, ⟨(by simp [Value.ownBlock]), ⟨(by simp [Value.ownBlock]), (by simp [Value.ownBlock])⟩⟩⟩)⟩, ⟨by first | exact Kd.S_nil _ _ _ _ _ | exact Kd.N_nil _ _ _ _ _ | exact Kd.V_nil _ _ _ _ _ | exact Kd.Q_nil _ _ _ _ _ | exact Kd.R_nil _ _ _ _ _⟩, ⟨by first | exact Kd.R_nil _ _ _ _ _ | exact Kd.N_nil _ _ _ _ _ | exact Kd.V_nil _ _ _ _ _ | exact Kd.Q_nil _ _ _ _ _ | exact Kd.S_nil _ _ _ _ _⟩, ⟨by first | exact Kd.R_nil _ _ _ _ _ | exact Kd.N_nil _ _ _ _ _ | exact Kd.V_nil _ _ _ _ _ | exact Kd.Q_nil _ _ _ _ _ | exact Kd.S_nil _ _ _ _ _⟩, ⟨wb_ HB.out⟩⟩
 case round =>
  clear H'
  try clear c1
  try clear c2
  try clear p2
  obtain ⟨x5_1, x6_1, x7_1, x8_1, rfl, HA, HK1, HO_0, HO_5, HO_6, HO_7, HB⟩ := hrel
  cases gk with
  | zero => exact absurd HA.out (by simp [bindleref08_Members.l0])
  | succ k1 =>
   have H := HA.out
   clear HA
   simp only [bindleref08_Members.l0] at H
   by_cases c3 : x8_1 < (l1.length : Int)
   rotate_left
   ·rw [if_neg c3] at H
    have c3b0 : decide (x8_1 < (l1.length : Int)) = false := decide_eq_false c3
    clear c3
    obtain rfl := Option.some.inj H
    go_wp2
    go_ret
    exact ⟨_, we_, by (with_reducible repeat (first | apply Kd.N_alloc | apply Kd.N_drewN | apply Kd.N_drew)); exact Kd.N_mono HO_5.out (fun _ hk => hk.1), wb_ HB.out⟩
   rw [if_pos c3] at H
   have c3b0 : decide (x8_1 < (l1.length : Int)) = true := decide_eq_true c3
   clear c3
   by_cases c4 : 0 ≤ x8_1
   rotate_left
   ·rw [if_neg c4] at H
    exact absurd H (by simp)
   rw [if_pos c4] at H
   have c4b0 : decide (0 ≤ x8_1) = true := decide_eq_true c4
   clear c4
   replace H := Option.bind_eq_some_iff.mp H
   obtain ⟨⟨t173, t174, t175, t176, t177, t178, t179, t180, t181, t184⟩, A50, H⟩ := H
   replace H : (if t176 = 48 then (bindleref08_Members.l1 k1 l0 l1 x5_1 x6_1 x7_1 x8_1 0 t173 t174 t175 t176 t177 t178 t179 t180 t181 t173 t174 t176 t177 t178 t179 t180 t181) else ((some (([(⟨t173, t174, t176, (⟨t177, t178, t179, t180⟩ : S38), t181⟩ : S45)] : List (S45)) : List (S45))).bind fun y213 => (if x5_1.length + y213.length < 1466015503701 then (bindleref08_Members.l0 k1 l0 l1 (x5_1 ++ y213) x6_1 x7_1 (wrap64 (x8_1 + 1))) else (none)))) = some r := H
   have A5 := A0_ A50
   clear A50
   by_cases c6 : t176 = 48
   rotate_left
   ·rw [if_neg c6] at H
    have c6b0 : (t176 == 48) = false := beq_eq_false_iff_ne.mpr c6
    have c6b1 : (t176 != 48) = true := bne_iff_ne.mpr c6
    obtain ⟨y213, hy213⟩ : ∃ y_ : List (S45), y_ = (([(⟨t173, t174, t176, (⟨t177, t178, t179, t180⟩ : S38), t181⟩ : S45)] : List (S45))) := ⟨_, rfl⟩
    replace H : (if x5_1.length + y213.length < 1466015503701 then (bindleref08_Members.l0 k1 l0 l1 (x5_1 ++ y213) x6_1 x7_1 (wrap64 (x8_1 + 1))) else (none)) = some r := by first | (rw [hy213]; with_reducible exact H) | (have H2_ := (Option.bind_some _ _).symm.trans H; rw [hy213]; with_reducible exact H2_) | (have H2_ := (Option.bind_some _ _).symm.trans H; with_reducible exact H2_) | with_reducible exact H | (rw [hy213]; exact H) | exact H
    have Ny213 := A0_ hy213
    clear hy213
    by_cases c58 : x5_1.length + y213.length < 1466015503701
    rotate_left
    ·rw [if_neg c58] at H
     exact absurd H (by simp)
    rw [if_pos c58] at H
    have LMc58 := A0_ c58
    clear c58
    obtain ⟨y216, hy216⟩ : ∃ y_ : List (S45), y_ = (x5_1 ++ y213) := ⟨_, rfl⟩
    replace H : (bindleref08_Members.l0 k1 l0 l1 y216 x6_1 x7_1 (wrap64 (x8_1 + 1))) = some r := by first | (rw [hy216]; with_reducible exact H) | (have H2_ := (Option.bind_some _ _).symm.trans H; rw [hy216]; with_reducible exact H2_) | (have H2_ := (Option.bind_some _ _).symm.trans H; with_reducible exact H2_) | with_reducible exact H | (rw [hy216]; exact H) | exact H
    have Ny216 := A0_ hy216
    clear hy216
    have H' := A0_ H
    clear H
    have p172 : 0 ≤ (x8_1 : Int) := wd_
    have q172 : x8_1 < (l1.length : Int) := wd_
    obtain ⟨ad172, e172, hx172_0⟩ := Kd.at_string HR1.out x8_1 p172 q172
    cases e172
    replace hx172_0 := (HB.out.cell (World.block_lt_of_cell? w _ hx172_0)).trans hx172_0
    replace p172 := eq_true p172
    replace q172 := eq_true q172
    go_wp2_with (first | ((with_reducible refine gate_callee (f := 23) rfl ?_); refine goesL_ (some 25) rfl rfl Tryd.func23 (by kernel_rfl) rfl #[.slice A0 l0.length c0, .string (rdOf ByteArray.empty l1 x8_1)] rfl wm_ ?_; (with_reducible refine (bindleref08_Find.calls k1 (fun k_ => ((P0_ k_ ∨ w.heap.size ≤ k_) ∧ (some k_ ≠ (u5 : Value).ownBlock ∧ (some k_ ≠ (u6 : Value).ownBlock ∧ some k_ ≠ (u7 : Value).ownBlock)))) _ _ l0 (rdOf ByteArray.empty l1 x8_1) t173 t174 t175 t176 t177 t178 t179 t180 t181 t184 _ ?side1 A5.out).mono ?_); (case side1 => exact HO_0.out); rintro e w59 ⟨v182, rfl, ho0, hb⟩; refine ⟨_, rfl, ?_⟩; have n0_ := A0_ (Vb_ (wV_ HO_0.out) hb); have n1_ := A0_ (Kd.N_below (wN_ HO_5.out) hb); have n2_ := A0_ (Rb_ (wR_ HO_6.out) hb); have n3_ := A0_ (Rb_ (wR_ HO_7.out) hb); have n4_ := A0_ (Kd.V_lower (Kd.V_mono (ok' := fun k_ => (P0_ k_ ∨ w.heap.size ≤ k_) ∧ some k_ ≠ (u5 : Value).ownBlock ∧ some k_ ≠ (u6 : Value).ownBlock ∧ some k_ ≠ (u7 : Value).ownBlock) ho0 (fun k_ hk_ => ⟨Or.elim hk_ (fun hs_ => hs_.1) (fun hn_ => (.inr (Nat.le_trans (below_size (wb_ HB.out)) hn_))), Or.elim hk_ (fun hs_ => hs_.2.1) (fun hn_ => (Kd.fresh' (Kd.N_lt (wN_ HO_5.out)) k_ hn_)), Or.elim hk_ (fun hs_ => hs_.2.2.1) (fun hn_ => (Kd.fresh' (Kd.R_lt (wR_ HO_6.out)) k_ hn_)), Or.elim hk_ (fun hs_ => hs_.2.2.2) (fun hn_ => (Kd.fresh' (Kd.R_lt (wR_ HO_7.out)) k_ hn_))⟩)) (below_size (wb_ HB.out))); have n5_ := A0_ (below_step (wb_ HB.out) hb); clear HO_0; clear HO_5; clear HO_6; clear HO_7; clear HB; have HO_0 := n0_; have HO_5 := n1_; have HO_6 := n2_; have HO_7 := n3_; have HO183 := n4_; have HB := n5_; clear n0_ n1_ n2_ n3_ n4_ n5_; (try clear hb); (try clear hb2); (try clear hk); (try clear hi); (try clear ho0)) | ((with_reducible refine gate_dst (N := 9) rfl ?_); refine box_event ?hg (N := 9) ?hd (cs := #[.string (⟨#[]⟩ : ByteArray), .string (⟨#[]⟩ : ByteArray), .string (⟨#[]⟩ : ByteArray), .int .u8 0, .int .i64 0, .int .i64 0, .int .i64 0, .int .i64 0, .slice none 0 0]) (t := 40) ?hr ?_; (case hd => rfl); (case hg => rfl); (case hr => first | (go_simp; done) | (go_simp; rfl)); intro gb185 hg w60 hbox hb; have n0_ := A0_ (Vb_ (Kd.V_elderB (wV_ HO_0.out) gb185 (Nat.le_of_eq hg.symm)) hb); have n1_ := A0_ (Kd.N_below (Kd.N_elderB (wN_ HO_5.out) gb185 (Nat.le_of_eq hg.symm)) hb); have n2_ := A0_ (Rb_ (wR_ HO_6.out) hb); have n3_ := A0_ (Rb_ (wR_ HO_7.out) hb); have n4_ := A0_ (Vb_ (Kd.V_elderB (wV_ HO183.out) gb185 (Nat.le_of_eq hg.symm)) hb); have n5_ := A0_ (below_step (wb_ HB.out) hb); have n6_ := A0_ (hbox); have n7_ := A0_ ((by rw [hg]; exact (below_size (wb_ HB.out)) : w.heap.size ≤ gb185)); have n8_ := A0_ ((by rw [hg]; exact (below_size (wb_ HB.out)) : w.heap.size ≤ gb185)); clear HO_0; clear HO_5; clear HO_6; clear HO_7; clear HO183; clear HB; have HO_0 := n0_; have HO_5 := n1_; have HO_6 := n2_; have HO_7 := n3_; have HO183 := n4_; have HB := n5_; have BK185 := n6_; have GW185 := n7_; have GE185 := n8_; clear n0_ n1_ n2_ n3_ n4_ n5_ n6_ n7_ n8_; clear hb hbox hg; have hcz61_0 : w60.cell? ⟨gb185, 0, none⟩ = some (.string (⟨#[]⟩ : ByteArray)) := (bc_ BK185.out 0).trans rfl; have hcz61_1 : w60.cell? ⟨gb185, 1, none⟩ = some (.string (⟨#[]⟩ : ByteArray)) := (bc_ BK185.out 1).trans rfl; have hcz61_2 : w60.cell? ⟨gb185, 2, none⟩ = some (.string (⟨#[]⟩ : ByteArray)) := (bc_ BK185.out 2).trans rfl; have hcz61_3 : w60.cell? ⟨gb185, 3, none⟩ = some (.int .u8 0) := (bc_ BK185.out 3).trans rfl; have hcz61_4 : w60.cell? ⟨gb185, 4, none⟩ = some (.int .i64 0) := (bc_ BK185.out 4).trans rfl; have hcz61_5 : w60.cell? ⟨gb185, 5, none⟩ = some (.int .i64 0) := (bc_ BK185.out 5).trans rfl; have hcz61_6 : w60.cell? ⟨gb185, 6, none⟩ = some (.int .i64 0) := (bc_ BK185.out 6).trans rfl; have hcz61_7 : w60.cell? ⟨gb185, 7, none⟩ = some (.int .i64 0) := (bc_ BK185.out 7).trans rfl; have hcz61_8 : w60.cell? ⟨gb185, 8, none⟩ = some (.slice none 0 0) := (bc_ BK185.out 8).trans rfl; have hfz61_0 := bf_ BK185.out 0; have hfz61_1 := bf_ BK185.out 1; have hfz61_2 := bf_ BK185.out 2; have hfz61_3 := bf_ BK185.out 3; have hfz61_4 := bf_ BK185.out 4; have hfz61_5 := bf_ BK185.out 5; have hfz61_6 := bf_ BK185.out 6; have hfz61_7 := bf_ BK185.out 7; have hfz61_8 := bf_ BK185.out 8; obtain ⟨Ao62, co62, eo62⟩ := Kd.V_slice HO183.out; subst eo62) | ((with_reducible refine gate_dst (N := 11) rfl ?_); refine box_event ?hg (N := 11) ?hd (cs := #[.string (⟨#[]⟩ : ByteArray), .string (⟨#[]⟩ : ByteArray), .int .u8 0, .int .i64 0, .int .i64 0, .int .i64 0, .int .i64 0, .slice none 0 0]) (t := 45) ?hr ?_; (case hd => rfl); (case hg => rfl); (case hr => first | (go_simp; done) | (go_simp; rfl)); intro gb186 hg w63 hbox hb; have n0_ := A0_ (Vb_ (Kd.V_elderB (by (with_reducible repeat (first | apply Va_ | apply VN_ | apply V1_)); exact (Kd.V_mono (Kd.V_far (p := ⟨gb185, 8, none⟩) (Kd.V_far (p := ⟨gb185, 7, none⟩) (Kd.V_far (p := ⟨gb185, 6, none⟩) (Kd.V_far (p := ⟨gb185, 5, none⟩) (Kd.V_far (p := ⟨gb185, 4, none⟩) (Kd.V_far (p := ⟨gb185, 3, none⟩) (Kd.V_far (p := ⟨gb185, 2, none⟩) (Kd.V_far (p := ⟨gb185, 1, none⟩) (Kd.V_far (p := ⟨gb185, 0, none⟩) (Kd.V_mono HO_0.out (fun k_ hk => (⟨hk, hk.2⟩ : _ ∧ k_ ≠ gb185))) (fun _ hk => hk.2) (.string t173)) (fun _ hk => hk.2) (.string t174)) (fun _ hk => hk.2) (.string t175)) (fun _ hk => hk.2) (.int .u8 t176)) (fun _ hk => hk.2) (.int .i64 t177)) (fun _ hk => hk.2) (.int .i64 t178)) (fun _ hk => hk.2) (.int .i64 t179)) (fun _ hk => hk.2) (.int .i64 t180)) (fun _ hk => hk.2) (.slice Ao62 t181.length co62)) (fun _ h_ => h_.1))) gb186 (Nat.le_of_eq hg.symm)) hb); have n1_ := A0_ (Kd.N_below (Kd.N_elderB (by (with_reducible repeat (first | apply Kd.N_alloc | apply Kd.N_drewN | apply Kd.N_drew)); exact (Kd.N_mono (Kd.N_far (p := ⟨gb185, 8, none⟩) (Kd.N_far (p := ⟨gb185, 7, none⟩) (Kd.N_far (p := ⟨gb185, 6, none⟩) (Kd.N_far (p := ⟨gb185, 5, none⟩) (Kd.N_far (p := ⟨gb185, 4, none⟩) (Kd.N_far (p := ⟨gb185, 3, none⟩) (Kd.N_far (p := ⟨gb185, 2, none⟩) (Kd.N_far (p := ⟨gb185, 1, none⟩) (Kd.N_far (p := ⟨gb185, 0, none⟩) (Kd.N_mono HO_5.out (fun k_ hk => (⟨hk, hk.2⟩ : _ ∧ k_ ≠ gb185))) (fun _ hk => hk.2) (.string t173)) (fun _ hk => hk.2) (.string t174)) (fun _ hk => hk.2) (.string t175)) (fun _ hk => hk.2) (.int .u8 t176)) (fun _ hk => hk.2) (.int .i64 t177)) (fun _ hk => hk.2) (.int .i64 t178)) (fun _ hk => hk.2) (.int .i64 t179)) (fun _ hk => hk.2) (.int .i64 t180)) (fun _ hk => hk.2) (.slice Ao62 t181.length co62)) (fun _ h_ => h_.1))) gb186 (Nat.le_of_eq hg.symm)) hb); have n2_ := A0_ (Rb_ (by (with_reducible repeat (first | apply Ra_ | apply RN_ | apply R1_)); exact (Kd.R_mono (Kd.R_far (p := ⟨gb185, 8, none⟩) (Kd.R_far (p := ⟨gb185, 7, none⟩) (Kd.R_far (p := ⟨gb185, 6, none⟩) (Kd.R_far (p := ⟨gb185, 5, none⟩) (Kd.R_far (p := ⟨gb185, 4, none⟩) (Kd.R_far (p := ⟨gb185, 3, none⟩) (Kd.R_far (p := ⟨gb185, 2, none⟩) (Kd.R_far (p := ⟨gb185, 1, none⟩) (Kd.R_far (p := ⟨gb185, 0, none⟩) (Kd.R_types HO_6.out BK185.out (by decide)) (fun _ hk => hk.2) (.string t173)) (fun _ hk => hk.2) (.string t174)) (fun _ hk => hk.2) (.string t175)) (fun _ hk => hk.2) (.int .u8 t176)) (fun _ hk => hk.2) (.int .i64 t177)) (fun _ hk => hk.2) (.int .i64 t178)) (fun _ hk => hk.2) (.int .i64 t179)) (fun _ hk => hk.2) (.int .i64 t180)) (fun _ hk => hk.2) (.slice Ao62 t181.length co62)) (fun _ h_ => h_.1))) hb); have n3_ := A0_ (Rb_ (by (with_reducible repeat (first | apply Ra_ | apply RN_ | apply R1_)); exact (Kd.R_mono (Kd.R_far (p := ⟨gb185, 8, none⟩) (Kd.R_far (p := ⟨gb185, 7, none⟩) (Kd.R_far (p := ⟨gb185, 6, none⟩) (Kd.R_far (p := ⟨gb185, 5, none⟩) (Kd.R_far (p := ⟨gb185, 4, none⟩) (Kd.R_far (p := ⟨gb185, 3, none⟩) (Kd.R_far (p := ⟨gb185, 2, none⟩) (Kd.R_far (p := ⟨gb185, 1, none⟩) (Kd.R_far (p := ⟨gb185, 0, none⟩) (Kd.R_types HO_7.out BK185.out (by decide)) (fun _ hk => hk.2) (.string t173)) (fun _ hk => hk.2) (.string t174)) (fun _ hk => hk.2) (.string t175)) (fun _ hk => hk.2) (.int .u8 t176)) (fun _ hk => hk.2) (.int .i64 t177)) (fun _ hk => hk.2) (.int .i64 t178)) (fun _ hk => hk.2) (.int .i64 t179)) (fun _ hk => hk.2) (.int .i64 t180)) (fun _ hk => hk.2) (.slice Ao62 t181.length co62)) (fun _ h_ => h_.1))) hb); have n4_ := A0_ (Vb_ (Kd.V_elderB (by (with_reducible repeat (first | apply Va_ | apply VN_ | apply V1_)); exact (Kd.V_mono (Kd.V_far (p := ⟨gb185, 8, none⟩) (Kd.V_far (p := ⟨gb185, 7, none⟩) (Kd.V_far (p := ⟨gb185, 6, none⟩) (Kd.V_far (p := ⟨gb185, 5, none⟩) (Kd.V_far (p := ⟨gb185, 4, none⟩) (Kd.V_far (p := ⟨gb185, 3, none⟩) (Kd.V_far (p := ⟨gb185, 2, none⟩) (Kd.V_far (p := ⟨gb185, 1, none⟩) (Kd.V_far (p := ⟨gb185, 0, none⟩) (Kd.V_mono HO183.out (fun k_ hk => (⟨hk, hk.2⟩ : _ ∧ k_ ≠ gb185))) (fun _ hk => hk.2) (.string t173)) (fun _ hk => hk.2) (.string t174)) (fun _ hk => hk.2) (.string t175)) (fun _ hk => hk.2) (.int .u8 t176)) (fun _ hk => hk.2) (.int .i64 t177)) (fun _ hk => hk.2) (.int .i64 t178)) (fun _ hk => hk.2) (.int .i64 t179)) (fun _ hk => hk.2) (.int .i64 t180)) (fun _ hk => hk.2) (.slice Ao62 t181.length co62)) (fun _ h_ => h_.1))) gb186 (Nat.le_of_eq hg.symm)) hb); have n5_ := A0_ (blk_below (g := gb185) (o := .cells #[.string t173, .string t174, .string t175, .int .u8 t176, .int .i64 t177, .int .i64 t178, .int .i64 t179, .int .i64 t180, .slice Ao62 t181.length co62] 40 (0, 0)) (by (with_reducible repeat (first | refine blk_drewN ?_ _ | refine blk_drew ?_ | refine blk_alloc ?_ _)); refine blk_put (cs := #[.string t173, .string t174, .string t175, .int .u8 t176, .int .i64 t177, .int .i64 t178, .int .i64 t179, .int .i64 t180, .slice none 0 0]) ?_ 8 _ rfl; (with_reducible repeat (first | refine blk_drewN ?_ _ | refine blk_drew ?_ | refine blk_alloc ?_ _)); refine blk_put (cs := #[.string t173, .string t174, .string t175, .int .u8 t176, .int .i64 t177, .int .i64 t178, .int .i64 t179, .int .i64 0, .slice none 0 0]) ?_ 7 _ rfl; (with_reducible repeat (first | refine blk_drewN ?_ _ | refine blk_drew ?_ | refine blk_alloc ?_ _)); refine blk_put (cs := #[.string t173, .string t174, .string t175, .int .u8 t176, .int .i64 t177, .int .i64 t178, .int .i64 0, .int .i64 0, .slice none 0 0]) ?_ 6 _ rfl; (with_reducible repeat (first | refine blk_drewN ?_ _ | refine blk_drew ?_ | refine blk_alloc ?_ _)); refine blk_put (cs := #[.string t173, .string t174, .string t175, .int .u8 t176, .int .i64 t177, .int .i64 0, .int .i64 0, .int .i64 0, .slice none 0 0]) ?_ 5 _ rfl; (with_reducible repeat (first | refine blk_drewN ?_ _ | refine blk_drew ?_ | refine blk_alloc ?_ _)); refine blk_put (cs := #[.string t173, .string t174, .string t175, .int .u8 t176, .int .i64 0, .int .i64 0, .int .i64 0, .int .i64 0, .slice none 0 0]) ?_ 4 _ rfl; (with_reducible repeat (first | refine blk_drewN ?_ _ | refine blk_drew ?_ | refine blk_alloc ?_ _)); refine blk_put (cs := #[.string t173, .string t174, .string t175, .int .u8 0, .int .i64 0, .int .i64 0, .int .i64 0, .int .i64 0, .slice none 0 0]) ?_ 3 _ rfl; (with_reducible repeat (first | refine blk_drewN ?_ _ | refine blk_drew ?_ | refine blk_alloc ?_ _)); refine blk_put (cs := #[.string t173, .string t174, .string (⟨#[]⟩ : ByteArray), .int .u8 0, .int .i64 0, .int .i64 0, .int .i64 0, .int .i64 0, .slice none 0 0]) ?_ 2 _ rfl; (with_reducible repeat (first | refine blk_drewN ?_ _ | refine blk_drew ?_ | refine blk_alloc ?_ _)); refine blk_put (cs := #[.string t173, .string (⟨#[]⟩ : ByteArray), .string (⟨#[]⟩ : ByteArray), .int .u8 0, .int .i64 0, .int .i64 0, .int .i64 0, .int .i64 0, .slice none 0 0]) ?_ 1 _ rfl; (with_reducible repeat (first | refine blk_drewN ?_ _ | refine blk_drew ?_ | refine blk_alloc ?_ _)); refine blk_put (cs := #[.string (⟨#[]⟩ : ByteArray), .string (⟨#[]⟩ : ByteArray), .string (⟨#[]⟩ : ByteArray), .int .u8 0, .int .i64 0, .int .i64 0, .int .i64 0, .int .i64 0, .slice none 0 0]) ?_ 0 _ rfl; (with_reducible repeat (first | refine blk_drewN ?_ _ | refine blk_drew ?_ | refine blk_alloc ?_ _)); exact BK185.out) hb); have n6_ := A0_ (below_step (wb1_ HB.out GE185.out) hb); have n7_ := A0_ (hbox); have n8_ := A0_ ((by rw [hg]; exact (below_size (wb1_ HB.out GE185.out)) : w.heap.size ≤ gb186)); have n9_ := A0_ ((by rw [hg]; exact (below_size (wb1_ HB.out GE185.out)) : w.heap.size ≤ gb186)); have n10_ := A0_ ((by rw [hg]; exact Nat.ne_of_lt (blk_lt (g := gb185) (o := .cells #[.string t173, .string t174, .string t175, .int .u8 t176, .int .i64 t177, .int .i64 t178, .int .i64 t179, .int .i64 t180, .slice Ao62 t181.length co62] 40 (0, 0)) (by (with_reducible repeat (first | refine blk_drewN ?_ _ | refine blk_drew ?_ | refine blk_alloc ?_ _)); refine blk_put (cs := #[.string t173, .string t174, .string t175, .int .u8 t176, .int .i64 t177, .int .i64 t178, .int .i64 t179, .int .i64 t180, .slice none 0 0]) ?_ 8 _ rfl; (with_reducible repeat (first | refine blk_drewN ?_ _ | refine blk_drew ?_ | refine blk_alloc ?_ _)); refine blk_put (cs := #[.string t173, .string t174, .string t175, .int .u8 t176, .int .i64 t177, .int .i64 t178, .int .i64 t179, .int .i64 0, .slice none 0 0]) ?_ 7 _ rfl; (with_reducible repeat (first | refine blk_drewN ?_ _ | refine blk_drew ?_ | refine blk_alloc ?_ _)); refine blk_put (cs := #[.string t173, .string t174, .string t175, .int .u8 t176, .int .i64 t177, .int .i64 t178, .int .i64 0, .int .i64 0, .slice none 0 0]) ?_ 6 _ rfl; (with_reducible repeat (first | refine blk_drewN ?_ _ | refine blk_drew ?_ | refine blk_alloc ?_ _)); refine blk_put (cs := #[.string t173, .string t174, .string t175, .int .u8 t176, .int .i64 t177, .int .i64 0, .int .i64 0, .int .i64 0, .slice none 0 0]) ?_ 5 _ rfl; (with_reducible repeat (first | refine blk_drewN ?_ _ | refine blk_drew ?_ | refine blk_alloc ?_ _)); refine blk_put (cs := #[.string t173, .string t174, .string t175, .int .u8 t176, .int .i64 0, .int .i64 0, .int .i64 0, .int .i64 0, .slice none 0 0]) ?_ 4 _ rfl; (with_reducible repeat (first | refine blk_drewN ?_ _ | refine blk_drew ?_ | refine blk_alloc ?_ _)); refine blk_put (cs := #[.string t173, .string t174, .string t175, .int .u8 0, .int .i64 0, .int .i64 0, .int .i64 0, .int .i64 0, .slice none 0 0]) ?_ 3 _ rfl; (with_reducible repeat (first | refine blk_drewN ?_ _ | refine blk_drew ?_ | refine blk_alloc ?_ _)); refine blk_put (cs := #[.string t173, .string t174, .string (⟨#[]⟩ : ByteArray), .int .u8 0, .int .i64 0, .int .i64 0, .int .i64 0, .int .i64 0, .slice none 0 0]) ?_ 2 _ rfl; (with_reducible repeat (first | refine blk_drewN ?_ _ | refine blk_drew ?_ | refine blk_alloc ?_ _)); refine blk_put (cs := #[.string t173, .string (⟨#[]⟩ : ByteArray), .string (⟨#[]⟩ : ByteArray), .int .u8 0, .int .i64 0, .int .i64 0, .int .i64 0, .int .i64 0, .slice none 0 0]) ?_ 1 _ rfl; (with_reducible repeat (first | refine blk_drewN ?_ _ | refine blk_drew ?_ | refine blk_alloc ?_ _)); refine blk_put (cs := #[.string (⟨#[]⟩ : ByteArray), .string (⟨#[]⟩ : ByteArray), .string (⟨#[]⟩ : ByteArray), .int .u8 0, .int .i64 0, .int .i64 0, .int .i64 0, .int .i64 0, .slice none 0 0]) ?_ 0 _ rfl; (with_reducible repeat (first | refine blk_drewN ?_ _ | refine blk_drew ?_ | refine blk_alloc ?_ _)); exact BK185.out)) : gb185 ≠ gb186)); have n11_ := A0_ ((by rw [hg]; exact Nat.ne_of_gt (blk_lt (g := gb185) (o := .cells #[.string t173, .string t174, .string t175, .int .u8 t176, .int .i64 t177, .int .i64 t178, .int .i64 t179, .int .i64 t180, .slice Ao62 t181.length co62] 40 (0, 0)) (by (with_reducible repeat (first | refine blk_drewN ?_ _ | refine blk_drew ?_ | refine blk_alloc ?_ _)); refine blk_put (cs := #[.string t173, .string t174, .string t175, .int .u8 t176, .int .i64 t177, .int .i64 t178, .int .i64 t179, .int .i64 t180, .slice none 0 0]) ?_ 8 _ rfl; (with_reducible repeat (first | refine blk_drewN ?_ _ | refine blk_drew ?_ | refine blk_alloc ?_ _)); refine blk_put (cs := #[.string t173, .string t174, .string t175, .int .u8 t176, .int .i64 t177, .int .i64 t178, .int .i64 t179, .int .i64 0, .slice none 0 0]) ?_ 7 _ rfl; (with_reducible repeat (first | refine blk_drewN ?_ _ | refine blk_drew ?_ | refine blk_alloc ?_ _)); refine blk_put (cs := #[.string t173, .string t174, .string t175, .int .u8 t176, .int .i64 t177, .int .i64 t178, .int .i64 0, .int .i64 0, .slice none 0 0]) ?_ 6 _ rfl; (with_reducible repeat (first | refine blk_drewN ?_ _ | refine blk_drew ?_ | refine blk_alloc ?_ _)); refine blk_put (cs := #[.string t173, .string t174, .string t175, .int .u8 t176, .int .i64 t177, .int .i64 0, .int .i64 0, .int .i64 0, .slice none 0 0]) ?_ 5 _ rfl; (with_reducible repeat (first | refine blk_drewN ?_ _ | refine blk_drew ?_ | refine blk_alloc ?_ _)); refine blk_put (cs := #[.string t173, .string t174, .string t175, .int .u8 t176, .int .i64 0, .int .i64 0, .int .i64 0, .int .i64 0, .slice none 0 0]) ?_ 4 _ rfl; (with_reducible repeat (first | refine blk_drewN ?_ _ | refine blk_drew ?_ | refine blk_alloc ?_ _)); refine blk_put (cs := #[.string t173, .string t174, .string t175, .int .u8 0, .int .i64 0, .int .i64 0, .int .i64 0, .int .i64 0, .slice none 0 0]) ?_ 3 _ rfl; (with_reducible repeat (first | refine blk_drewN ?_ _ | refine blk_drew ?_ | refine blk_alloc ?_ _)); refine blk_put (cs := #[.string t173, .string t174, .string (⟨#[]⟩ : ByteArray), .int .u8 0, .int .i64 0, .int .i64 0, .int .i64 0, .int .i64 0, .slice none 0 0]) ?_ 2 _ rfl; (with_reducible repeat (first | refine blk_drewN ?_ _ | refine blk_drew ?_ | refine blk_alloc ?_ _)); refine blk_put (cs := #[.string t173, .string (⟨#[]⟩ : ByteArray), .string (⟨#[]⟩ : ByteArray), .int .u8 0, .int .i64 0, .int .i64 0, .int .i64 0, .int .i64 0, .slice none 0 0]) ?_ 1 _ rfl; (with_reducible repeat (first | refine blk_drewN ?_ _ | refine blk_drew ?_ | refine blk_alloc ?_ _)); refine blk_put (cs := #[.string (⟨#[]⟩ : ByteArray), .string (⟨#[]⟩ : ByteArray), .string (⟨#[]⟩ : ByteArray), .int .u8 0, .int .i64 0, .int .i64 0, .int .i64 0, .int .i64 0, .slice none 0 0]) ?_ 0 _ rfl; (with_reducible repeat (first | refine blk_drewN ?_ _ | refine blk_drew ?_ | refine blk_alloc ?_ _)); exact BK185.out)) : gb186 ≠ gb185)); clear HO_0; clear HO_5; clear HO_6; clear HO_7; clear HO183; clear BK185; clear HB; have HO_0 := n0_; have HO_5 := n1_; have HO_6 := n2_; have HO_7 := n3_; have HO183 := n4_; have BK185 := n5_; have HB := n6_; have BK186 := n7_; have GW186 := n8_; have GE186 := n9_; have NB185_186 := n10_; have NB186_185 := n11_; clear n0_ n1_ n2_ n3_ n4_ n5_ n6_ n7_ n8_ n9_ n10_ n11_; clear hb hbox hg; have hnb64 := NB186_185.out; have hnc64 := NB185_186.out; have hcz65_0 : w63.cell? ⟨gb186, 0, none⟩ = some (.string (⟨#[]⟩ : ByteArray)) := (bc_ BK186.out 0).trans rfl; have hcz65_1 : w63.cell? ⟨gb186, 1, none⟩ = some (.string (⟨#[]⟩ : ByteArray)) := (bc_ BK186.out 1).trans rfl; have hcz65_2 : w63.cell? ⟨gb186, 2, none⟩ = some (.int .u8 0) := (bc_ BK186.out 2).trans rfl; have hcz65_3 : w63.cell? ⟨gb186, 3, none⟩ = some (.int .i64 0) := (bc_ BK186.out 3).trans rfl; have hcz65_4 : w63.cell? ⟨gb186, 4, none⟩ = some (.int .i64 0) := (bc_ BK186.out 4).trans rfl; have hcz65_5 : w63.cell? ⟨gb186, 5, none⟩ = some (.int .i64 0) := (bc_ BK186.out 5).trans rfl; have hcz65_6 : w63.cell? ⟨gb186, 6, none⟩ = some (.int .i64 0) := (bc_ BK186.out 6).trans rfl; have hcz65_7 : w63.cell? ⟨gb186, 7, none⟩ = some (.slice none 0 0) := (bc_ BK186.out 7).trans rfl; have hfz65_0 := bf_ BK186.out 0; have hfz65_1 := bf_ BK186.out 1; have hfz65_2 := bf_ BK186.out 2; have hfz65_3 := bf_ BK186.out 3; have hfz65_4 := bf_ BK186.out 4; have hfz65_5 := bf_ BK186.out 5; have hfz65_6 := bf_ BK186.out 6; have hfz65_7 := bf_ BK186.out 7) | ((with_reducible refine gate_store (t := 45) (p := 11) rfl ?_); refine store_event (t := 45) (p := 11) (v := ?vo_w66) (w1 := ((((((((w63.setCell ⟨gb186, 0, none⟩ (.string t173)).setCell ⟨gb186, 1, none⟩ (.string t174)).setCell ⟨gb186, 2, none⟩ (.int .u8 t176)).setCell ⟨gb186, 3, none⟩ (.int .i64 t177)).setCell ⟨gb186, 4, none⟩ (.int .i64 t178)).setCell ⟨gb186, 5, none⟩ (.int .i64 t179)).setCell ⟨gb186, 6, none⟩ (.int .i64 t180)).setCell ⟨gb186, 7, none⟩ (.slice Ao62 t181.length co62))) ?hg ?ho ?hn ?hr ?_; (case ho => rfl); (case hg => rfl); (case hn => rfl); (case hr => first | (go_simp; done) | (go_simp; rfl)); intro w66 hw; have n0_ : Aside0 (Kd.V k40 40 w66 w.heap.size (fun k_ => (P0_ k_ ∨ w.heap.size ≤ k_) ∧ some k_ ≠ (u5 : Value).ownBlock ∧ some k_ ≠ (u6 : Value).ownBlock ∧ some k_ ≠ (u7 : Value).ownBlock ∧ k_ ≠ gb185 ∧ k_ ≠ gb186) (.slice A0 l0.length c0) l0) := ⟨(by rw [hw]; exact (by (with_reducible repeat (first | apply Va_ | apply VN_ | apply V1_)); exact Kd.V_mono (Kd.V_far (p := ⟨gb186, 7, none⟩) (Kd.V_far (p := ⟨gb186, 6, none⟩) (Kd.V_far (p := ⟨gb186, 5, none⟩) (Kd.V_far (p := ⟨gb186, 4, none⟩) (Kd.V_far (p := ⟨gb186, 3, none⟩) (Kd.V_far (p := ⟨gb186, 2, none⟩) (Kd.V_far (p := ⟨gb186, 1, none⟩) (Kd.V_far (p := ⟨gb186, 0, none⟩) (Kd.V_mono HO_0.out (fun k_ hk => (⟨hk, hk.2⟩ : _ ∧ k_ ≠ gb186))) (fun _ hk => hk.2) (.string t173)) (fun _ hk => hk.2) (.string t174)) (fun _ hk => hk.2) (.int .u8 t176)) (fun _ hk => hk.2) (.int .i64 t177)) (fun _ hk => hk.2) (.int .i64 t178)) (fun _ hk => hk.2) (.int .i64 t179)) (fun _ hk => hk.2) (.int .i64 t180)) (fun _ hk => hk.2) (.slice Ao62 t181.length co62)) (fun _ hk => ⟨hk.1.1.1.1, ⟨hk.1.1.1.2.1, ⟨hk.1.1.1.2.2.1, ⟨hk.1.1.1.2.2.2, ⟨hk.1.1.2, hk.1.2⟩⟩⟩⟩⟩)))⟩; have n1_ : Aside0 (Kd.N k45 45 w66 w.heap.size (fun k_ => (P0_ k_ ∨ w.heap.size ≤ k_) ∧ some k_ ≠ (u6 : Value).ownBlock ∧ some k_ ≠ (u7 : Value).ownBlock ∧ k_ ≠ gb185 ∧ k_ ≠ gb186) u5 x5_1) := ⟨(by rw [hw]; exact (by (with_reducible repeat (first | apply Kd.N_alloc | apply Kd.N_drewN | apply Kd.N_drew)); exact Kd.N_mono (Kd.N_far (p := ⟨gb186, 7, none⟩) (Kd.N_far (p := ⟨gb186, 6, none⟩) (Kd.N_far (p := ⟨gb186, 5, none⟩) (Kd.N_far (p := ⟨gb186, 4, none⟩) (Kd.N_far (p := ⟨gb186, 3, none⟩) (Kd.N_far (p := ⟨gb186, 2, none⟩) (Kd.N_far (p := ⟨gb186, 1, none⟩) (Kd.N_far (p := ⟨gb186, 0, none⟩) (Kd.N_mono HO_5.out (fun k_ hk => (⟨hk, hk.2⟩ : _ ∧ k_ ≠ gb186))) (fun _ hk => hk.2) (.string t173)) (fun _ hk => hk.2) (.string t174)) (fun _ hk => hk.2) (.int .u8 t176)) (fun _ hk => hk.2) (.int .i64 t177)) (fun _ hk => hk.2) (.int .i64 t178)) (fun _ hk => hk.2) (.int .i64 t179)) (fun _ hk => hk.2) (.int .i64 t180)) (fun _ hk => hk.2) (.slice Ao62 t181.length co62)) (fun _ hk => ⟨hk.1.1.1.1, ⟨hk.1.1.1.2.1, ⟨hk.1.1.1.2.2, ⟨hk.1.1.2, hk.1.2⟩⟩⟩⟩)))⟩; have n2_ : Aside0 (Kd.R Kd.string 9 w66 w.heap.size (fun k_ => (w.heap.size ≤ k_) ∧ some k_ ≠ (u7 : Value).ownBlock) u6 x6_1) := ⟨(by rw [hw]; exact (by (with_reducible repeat (first | apply Ra_ | apply RN_ | apply R1_)); exact Kd.R_mono (Kd.R_far (p := ⟨gb186, 7, none⟩) (Kd.R_far (p := ⟨gb186, 6, none⟩) (Kd.R_far (p := ⟨gb186, 5, none⟩) (Kd.R_far (p := ⟨gb186, 4, none⟩) (Kd.R_far (p := ⟨gb186, 3, none⟩) (Kd.R_far (p := ⟨gb186, 2, none⟩) (Kd.R_far (p := ⟨gb186, 1, none⟩) (Kd.R_far (p := ⟨gb186, 0, none⟩) (Kd.R_types HO_6.out BK186.out (by decide)) (fun _ hk => hk.2) (.string t173)) (fun _ hk => hk.2) (.string t174)) (fun _ hk => hk.2) (.int .u8 t176)) (fun _ hk => hk.2) (.int .i64 t177)) (fun _ hk => hk.2) (.int .i64 t178)) (fun _ hk => hk.2) (.int .i64 t179)) (fun _ hk => hk.2) (.int .i64 t180)) (fun _ hk => hk.2) (.slice Ao62 t181.length co62)) (fun _ hk => ⟨hk.1.1, hk.1.2⟩)))⟩; have n3_ : Aside0 (Kd.R Kd.string 9 w66 w.heap.size (fun k_ => (w.heap.size ≤ k_) ∧ some k_ ≠ (u6 : Value).ownBlock) u7 x7_1) := ⟨(by rw [hw]; exact (by (with_reducible repeat (first | apply Ra_ | apply RN_ | apply R1_)); exact Kd.R_mono (Kd.R_far (p := ⟨gb186, 7, none⟩) (Kd.R_far (p := ⟨gb186, 6, none⟩) (Kd.R_far (p := ⟨gb186, 5, none⟩) (Kd.R_far (p := ⟨gb186, 4, none⟩) (Kd.R_far (p := ⟨gb186, 3, none⟩) (Kd.R_far (p := ⟨gb186, 2, none⟩) (Kd.R_far (p := ⟨gb186, 1, none⟩) (Kd.R_far (p := ⟨gb186, 0, none⟩) (Kd.R_types HO_7.out BK186.out (by decide)) (fun _ hk => hk.2) (.string t173)) (fun _ hk => hk.2) (.string t174)) (fun _ hk => hk.2) (.int .u8 t176)) (fun _ hk => hk.2) (.int .i64 t177)) (fun _ hk => hk.2) (.int .i64 t178)) (fun _ hk => hk.2) (.int .i64 t179)) (fun _ hk => hk.2) (.int .i64 t180)) (fun _ hk => hk.2) (.slice Ao62 t181.length co62)) (fun _ hk => ⟨hk.1.1, hk.1.2⟩)))⟩; have n4_ : Aside0 (Kd.V (Kd.int .u8) 5 w66 w.heap.size (fun k_ => (P0_ k_ ∨ w.heap.size ≤ k_) ∧ some k_ ≠ (u5 : Value).ownBlock ∧ some k_ ≠ (u6 : Value).ownBlock ∧ some k_ ≠ (u7 : Value).ownBlock ∧ k_ ≠ gb185 ∧ k_ ≠ gb186) (.slice Ao62 t181.length co62) t181) := ⟨(by rw [hw]; exact (by (with_reducible repeat (first | apply Va_ | apply VN_ | apply V1_)); exact Kd.V_mono (Kd.V_far (p := ⟨gb186, 7, none⟩) (Kd.V_far (p := ⟨gb186, 6, none⟩) (Kd.V_far (p := ⟨gb186, 5, none⟩) (Kd.V_far (p := ⟨gb186, 4, none⟩) (Kd.V_far (p := ⟨gb186, 3, none⟩) (Kd.V_far (p := ⟨gb186, 2, none⟩) (Kd.V_far (p := ⟨gb186, 1, none⟩) (Kd.V_far (p := ⟨gb186, 0, none⟩) (Kd.V_mono HO183.out (fun k_ hk => (⟨hk, hk.2⟩ : _ ∧ k_ ≠ gb186))) (fun _ hk => hk.2) (.string t173)) (fun _ hk => hk.2) (.string t174)) (fun _ hk => hk.2) (.int .u8 t176)) (fun _ hk => hk.2) (.int .i64 t177)) (fun _ hk => hk.2) (.int .i64 t178)) (fun _ hk => hk.2) (.int .i64 t179)) (fun _ hk => hk.2) (.int .i64 t180)) (fun _ hk => hk.2) (.slice Ao62 t181.length co62)) (fun _ hk => ⟨hk.1.1.1.1, ⟨hk.1.1.1.2.1, ⟨hk.1.1.1.2.2.1, ⟨hk.1.1.1.2.2.2, ⟨hk.1.1.2, hk.1.2⟩⟩⟩⟩⟩)))⟩; have n5_ : Aside0 (w66.heap[gb185]? = some (.cells #[.string t173, .string t174, .string t175, .int .u8 t176, .int .i64 t177, .int .i64 t178, .int .i64 t179, .int .i64 t180, .slice Ao62 t181.length co62] 40 (0, 0))) := ⟨(by rw [hw]; exact (by (with_reducible repeat (first | refine blk_drewN ?_ _ | refine blk_drew ?_ | refine blk_alloc ?_ _)); refine blk_far ?_ NB185_186.out _; (with_reducible repeat (first | refine blk_drewN ?_ _ | refine blk_drew ?_ | refine blk_alloc ?_ _)); refine blk_far ?_ NB185_186.out _; (with_reducible repeat (first | refine blk_drewN ?_ _ | refine blk_drew ?_ | refine blk_alloc ?_ _)); refine blk_far ?_ NB185_186.out _; (with_reducible repeat (first | refine blk_drewN ?_ _ | refine blk_drew ?_ | refine blk_alloc ?_ _)); refine blk_far ?_ NB185_186.out _; (with_reducible repeat (first | refine blk_drewN ?_ _ | refine blk_drew ?_ | refine blk_alloc ?_ _)); refine blk_far ?_ NB185_186.out _; (with_reducible repeat (first | refine blk_drewN ?_ _ | refine blk_drew ?_ | refine blk_alloc ?_ _)); refine blk_far ?_ NB185_186.out _; (with_reducible repeat (first | refine blk_drewN ?_ _ | refine blk_drew ?_ | refine blk_alloc ?_ _)); refine blk_far ?_ NB185_186.out _; (with_reducible repeat (first | refine blk_drewN ?_ _ | refine blk_drew ?_ | refine blk_alloc ?_ _)); refine blk_far ?_ NB185_186.out _; (with_reducible repeat (first | refine blk_drewN ?_ _ | refine blk_drew ?_ | refine blk_alloc ?_ _)); exact BK185.out))⟩; have n6_ : Aside0 (w66.heap[gb186]? = some (.cells #[.string t173, .string t174, .int .u8 t176, .int .i64 t177, .int .i64 t178, .int .i64 t179, .int .i64 t180, .slice Ao62 t181.length co62] 45 (0, 0))) := ⟨(by rw [hw]; exact (by (with_reducible repeat (first | refine blk_drewN ?_ _ | refine blk_drew ?_ | refine blk_alloc ?_ _)); refine blk_put (cs := #[.string t173, .string t174, .int .u8 t176, .int .i64 t177, .int .i64 t178, .int .i64 t179, .int .i64 t180, .slice none 0 0]) ?_ 7 _ rfl; (with_reducible repeat (first | refine blk_drewN ?_ _ | refine blk_drew ?_ | refine blk_alloc ?_ _)); refine blk_put (cs := #[.string t173, .string t174, .int .u8 t176, .int .i64 t177, .int .i64 t178, .int .i64 t179, .int .i64 0, .slice none 0 0]) ?_ 6 _ rfl; (with_reducible repeat (first | refine blk_drewN ?_ _ | refine blk_drew ?_ | refine blk_alloc ?_ _)); refine blk_put (cs := #[.string t173, .string t174, .int .u8 t176, .int .i64 t177, .int .i64 t178, .int .i64 0, .int .i64 0, .slice none 0 0]) ?_ 5 _ rfl; (with_reducible repeat (first | refine blk_drewN ?_ _ | refine blk_drew ?_ | refine blk_alloc ?_ _)); refine blk_put (cs := #[.string t173, .string t174, .int .u8 t176, .int .i64 t177, .int .i64 0, .int .i64 0, .int .i64 0, .slice none 0 0]) ?_ 4 _ rfl; (with_reducible repeat (first | refine blk_drewN ?_ _ | refine blk_drew ?_ | refine blk_alloc ?_ _)); refine blk_put (cs := #[.string t173, .string t174, .int .u8 t176, .int .i64 0, .int .i64 0, .int .i64 0, .int .i64 0, .slice none 0 0]) ?_ 3 _ rfl; (with_reducible repeat (first | refine blk_drewN ?_ _ | refine blk_drew ?_ | refine blk_alloc ?_ _)); refine blk_put (cs := #[.string t173, .string t174, .int .u8 0, .int .i64 0, .int .i64 0, .int .i64 0, .int .i64 0, .slice none 0 0]) ?_ 2 _ rfl; (with_reducible repeat (first | refine blk_drewN ?_ _ | refine blk_drew ?_ | refine blk_alloc ?_ _)); refine blk_put (cs := #[.string t173, .string (⟨#[]⟩ : ByteArray), .int .u8 0, .int .i64 0, .int .i64 0, .int .i64 0, .int .i64 0, .slice none 0 0]) ?_ 1 _ rfl; (with_reducible repeat (first | refine blk_drewN ?_ _ | refine blk_drew ?_ | refine blk_alloc ?_ _)); refine blk_put (cs := #[.string (⟨#[]⟩ : ByteArray), .string (⟨#[]⟩ : ByteArray), .int .u8 0, .int .i64 0, .int .i64 0, .int .i64 0, .int .i64 0, .slice none 0 0]) ?_ 0 _ rfl; (with_reducible repeat (first | refine blk_drewN ?_ _ | refine blk_drew ?_ | refine blk_alloc ?_ _)); exact BK186.out))⟩; have n7_ : Aside0 (Below w.heap.size w w66) := ⟨(by rw [hw]; exact (wb2_ HB.out GE185.out GE186.out))⟩; clear hw; clear HO_0; clear HO_5; clear HO_6; clear HO_7; clear HO183; clear BK185; clear BK186; clear HB; have HO_0 := n0_; have HO_5 := n1_; have HO_6 := n2_; have HO_7 := n3_; have HO183 := n4_; have BK185 := n5_; have BK186 := n6_; have HB := n7_; clear n0_ n1_ n2_ n3_ n4_ n5_ n6_ n7_; have hcz67_0 : w66.cell? ⟨gb185, 0, none⟩ = some (.string t173) := (bc_ BK185.out 0).trans rfl; have hcz67_1 : w66.cell? ⟨gb185, 1, none⟩ = some (.string t174) := (bc_ BK185.out 1).trans rfl; have hcz67_2 : w66.cell? ⟨gb185, 2, none⟩ = some (.string t175) := (bc_ BK185.out 2).trans rfl; have hcz67_3 : w66.cell? ⟨gb185, 3, none⟩ = some (.int .u8 t176) := (bc_ BK185.out 3).trans rfl; have hcz67_4 : w66.cell? ⟨gb185, 4, none⟩ = some (.int .i64 t177) := (bc_ BK185.out 4).trans rfl; have hcz67_5 : w66.cell? ⟨gb185, 5, none⟩ = some (.int .i64 t178) := (bc_ BK185.out 5).trans rfl; have hcz67_6 : w66.cell? ⟨gb185, 6, none⟩ = some (.int .i64 t179) := (bc_ BK185.out 6).trans rfl; have hcz67_7 : w66.cell? ⟨gb185, 7, none⟩ = some (.int .i64 t180) := (bc_ BK185.out 7).trans rfl; have hcz67_8 : w66.cell? ⟨gb185, 8, none⟩ = some (.slice Ao62 t181.length co62) := (bc_ BK185.out 8).trans rfl; have hfz67_0 := bf_ BK185.out 0; have hfz67_1 := bf_ BK185.out 1; have hfz67_2 := bf_ BK185.out 2; have hfz67_3 := bf_ BK185.out 3; have hfz67_4 := bf_ BK185.out 4; have hfz67_5 := bf_ BK185.out 5; have hfz67_6 := bf_ BK185.out 6; have hfz67_7 := bf_ BK185.out 7; have hfz67_8 := bf_ BK185.out 8; have hcz68_0 : w66.cell? ⟨gb186, 0, none⟩ = some (.string t173) := (bc_ BK186.out 0).trans rfl; have hcz68_1 : w66.cell? ⟨gb186, 1, none⟩ = some (.string t174) := (bc_ BK186.out 1).trans rfl; have hcz68_2 : w66.cell? ⟨gb186, 2, none⟩ = some (.int .u8 t176) := (bc_ BK186.out 2).trans rfl; have hcz68_3 : w66.cell? ⟨gb186, 3, none⟩ = some (.int .i64 t177) := (bc_ BK186.out 3).trans rfl; have hcz68_4 : w66.cell? ⟨gb186, 4, none⟩ = some (.int .i64 t178) := (bc_ BK186.out 4).trans rfl; have hcz68_5 : w66.cell? ⟨gb186, 5, none⟩ = some (.int .i64 t179) := (bc_ BK186.out 5).trans rfl; have hcz68_6 : w66.cell? ⟨gb186, 6, none⟩ = some (.int .i64 t180) := (bc_ BK186.out 6).trans rfl; have hcz68_7 : w66.cell? ⟨gb186, 7, none⟩ = some (.slice Ao62 t181.length co62) := (bc_ BK186.out 7).trans rfl; have hfz68_0 := bf_ BK186.out 0; have hfz68_1 := bf_ BK186.out 1; have hfz68_2 := bf_ BK186.out 2; have hfz68_3 := bf_ BK186.out 3; have hfz68_4 := bf_ BK186.out 4; have hfz68_5 := bf_ BK186.out 5; have hfz68_6 := bf_ BK186.out 6; have hfz68_7 := bf_ BK186.out 7) | ((with_reducible refine gate_dst (N := 80) rfl ?_); refine Kd.N_lit k45 _ 45 ?hg (N' := 80) ?hd (xs := ([(⟨t173, t174, t176, (⟨t177, t178, t179, t180⟩ : S38), t181⟩ : S45)] : List (S45))) (inner := [.string t173, .string t174, .int .u8 t176, .int .i64 t177, .int .i64 t178, .int .i64 t179, .int .i64 t180, .slice Ao62 t181.length co62]) (ok := (fun k_ => (P0_ k_ ∨ w.heap.size ≤ k_) ∧ some k_ ≠ (u5 : Value).ownBlock ∧ some k_ ≠ (u6 : Value).ownBlock ∧ some k_ ≠ (u7 : Value).ownBlock ∧ k_ ≠ gb185 ∧ k_ ≠ gb186)) (okp := (fun k_ => (P0_ k_ ∨ w.heap.size ≤ k_) ∧ some k_ ≠ (u5 : Value).ownBlock ∧ some k_ ≠ (u6 : Value).ownBlock ∧ some k_ ≠ (u7 : Value).ownBlock ∧ k_ ≠ gb185 ∧ k_ ≠ gb186)) ?hr ?hp (fun _ hk => hk) ((show ∀ k_, w66.heap.size ≤ k_ → (fun k_ => (P0_ k_ ∨ w.heap.size ≤ k_) ∧ some k_ ≠ (u5 : Value).ownBlock ∧ some k_ ≠ (u6 : Value).ownBlock ∧ some k_ ≠ (u7 : Value).ownBlock ∧ k_ ≠ gb185 ∧ k_ ≠ gb186) k_ from fun k_ hk => ⟨(.inr (Nat.le_trans (below_size (wb2_ HB.out GE185.out GE186.out)) hk)), Kd.fresh' (Kd.N_lt (wN_ HO_5.out)) k_ hk, Kd.fresh' (Kd.R_lt (wR_ HO_6.out)) k_ hk, Kd.fresh' (Kd.R_lt (wR_ HO_7.out)) k_ hk, Kd.freshB (g := gb185) (o := .cells #[.string t173, .string t174, .string t175, .int .u8 t176, .int .i64 t177, .int .i64 t178, .int .i64 t179, .int .i64 t180, .slice Ao62 t181.length co62] 40 (0, 0)) (wB_ BK185.out) k_ hk, Kd.freshB (g := gb186) (o := .cells #[.string t173, .string t174, .int .u8 t176, .int .i64 t177, .int .i64 t178, .int .i64 t179, .int .i64 t180, .slice Ao62 t181.length co62] 45 (0, 0)) (wB_ BK186.out) k_ hk⟩) _ (Nat.le_refl _)) (Below.refl _ _) (Nat.le_refl _) (by simp) ?_; (case hd => rfl); (case hg => rfl); (case hr => first | (go_simp; done) | (go_simp; rfl)); (case hp => exact (Reps.c8 (show Kd.FK k45 _ _ (⟨t173, t174, t176, (⟨t177, t178, t179, t180⟩ : S38), t181⟩ : S45) [.string t173, .string t174, .int .u8 t176, .int .i64 t177, .int .i64 t178, .int .i64 t179, .int .i64 t180, .slice Ao62 t181.length co62] from (k45_mkF _ _ (⟨t173, t174, t176, (⟨t177, t178, t179, t180⟩ : S38), t181⟩ : S45) (Kd.V_reads' (Kd.V_mono (ok' := (fun k_ => (P0_ k_ ∨ w.heap.size ≤ k_) ∧ some k_ ≠ (u5 : Value).ownBlock ∧ some k_ ≠ (u6 : Value).ownBlock ∧ some k_ ≠ (u7 : Value).ownBlock ∧ k_ ≠ gb185 ∧ k_ ≠ gb186)) (HO183.out) (fun k_ hk => ⟨hk.1, ⟨hk.2.1, ⟨hk.2.2.1, ⟨hk.2.2.2.1, ⟨hk.2.2.2.2.1, hk.2.2.2.2.2⟩⟩⟩⟩⟩))).2.1 (Kd.V_F (Kd.V_mono (ok' := (fun k_ => (P0_ k_ ∨ w.heap.size ≤ k_) ∧ some k_ ≠ (u5 : Value).ownBlock ∧ some k_ ≠ (u6 : Value).ownBlock ∧ some k_ ≠ (u7 : Value).ownBlock ∧ k_ ≠ gb185 ∧ k_ ≠ gb186)) (HO183.out) (fun k_ hk => ⟨hk.1, ⟨hk.2.1, ⟨hk.2.2.1, ⟨hk.2.2.2.1, ⟨hk.2.2.2.2.1, hk.2.2.2.2.2⟩⟩⟩⟩⟩))))) (Reps.none _ _))); intro v214 w69 ho70 hb hg_ hnew_; clear hg_ hnew_; (first | rw [← Ny213.out] at ho70 | (simp only [Int.reduceToNat] at ho70; rw [← Ny213.out] at ho70)); have n0_ := A0_ (Kd.V_elder' (wV_ HO_0.out) (Kd.N_base ho70) hb); have n1_ := A0_ (Kd.N_elder' (wN_ HO_5.out) (Kd.N_base ho70) hb); have n2_ := A0_ (Rb_ (wR_ HO_6.out) hb); have n3_ := A0_ (Rb_ (wR_ HO_7.out) hb); have n4_ := A0_ (Kd.V_elder' (wV_ HO183.out) (Kd.N_base ho70) hb); have n5_ := A0_ (Kd.N_lower ho70 (below_size (wb2_ HB.out GE185.out GE186.out))); have n6_ := A0_ (blk_below (g := gb185) (o := .cells #[.string t173, .string t174, .string t175, .int .u8 t176, .int .i64 t177, .int .i64 t178, .int .i64 t179, .int .i64 t180, .slice Ao62 t181.length co62] 40 (0, 0)) (wB_ BK185.out) hb); have n7_ := A0_ (blk_below (g := gb186) (o := .cells #[.string t173, .string t174, .int .u8 t176, .int .i64 t177, .int .i64 t178, .int .i64 t179, .int .i64 t180, .slice Ao62 t181.length co62] 45 (0, 0)) (wB_ BK186.out) hb); have n8_ := A0_ (below_step (wb2_ HB.out GE185.out GE186.out) hb); clear HO_0; clear HO_5; clear HO_6; clear HO_7; clear HO183; clear BK185; clear BK186; clear HB; have HO_0 := n0_; have HO_5 := n1_; have HO_6 := n2_; have HO_7 := n3_; have HO183 := n4_; have HO215 := n5_; have BK185 := n6_; have BK186 := n7_; have HB := n8_; clear n0_ n1_ n2_ n3_ n4_ n5_ n6_ n7_ n8_; clear hb ho70; obtain ⟨Ao72, co72, eo72⟩ := Kd.N_slice HO215.out; subst eo72) | ((with_reducible refine gate_builtin (b := .append) (xs := #[.tmp 78, .tmp 80]) rfl ?_); at_builtin; refine Kd.N_append_rows k45 (w0 := w) w.heap.size rfl (.tmp 78) (.tmp 80) 28 45 (.agg #[(.string ⟨#[]⟩), (.string ⟨#[]⟩), (.int .u8 0), (.int .i64 0), (.int .i64 0), (.int .i64 0), (.int .i64 0), (.slice none 0 0)]) 96 rfl Tryd.underlying28 info45 rfl (by decide) (by omega) u5 x5_1 y213 _ _ _ (fun k_ => (P0_ k_ ∨ w.heap.size ≤ k_) ∧ some k_ ≠ (u6 : Value).ownBlock ∧ some k_ ≠ (u7 : Value).ownBlock ∧ k_ ≠ gb185 ∧ k_ ≠ gb186) (fun k_ => ((fun k_ => (P0_ k_ ∨ w.heap.size ≤ k_) ∧ some k_ ≠ (u6 : Value).ownBlock ∧ some k_ ≠ (u7 : Value).ownBlock ∧ k_ ≠ gb185 ∧ k_ ≠ gb186)) k_ ∧ some k_ ≠ (u5 : Value).ownBlock) rfl rfl ?aO ?aR (fun _ hk => hk) ?aF ?aB ?aS ?aL ?_; (case aR => exact (by skip; exact Kd.N_F (Kd.N_mono (ok' := (fun k_ => ((fun k_ => (P0_ k_ ∨ w.heap.size ≤ k_) ∧ some k_ ≠ (u6 : Value).ownBlock ∧ some k_ ≠ (u7 : Value).ownBlock ∧ k_ ≠ gb185 ∧ k_ ≠ gb186)) k_ ∧ some k_ ≠ (u5 : Value).ownBlock)) (HO215.out) (fun k_ hk => ⟨⟨hk.1, ⟨hk.2.2.1, ⟨hk.2.2.2.1, ⟨hk.2.2.2.2.1, hk.2.2.2.2.2⟩⟩⟩⟩, hk.2.1⟩)))); (case aB => exact (wb2_ HB.out GE185.out GE186.out)); (case aF => exact (fun k_ hk => ⟨(.inr (Nat.le_trans (below_size (wb2_ HB.out GE185.out GE186.out)) hk)), Kd.fresh' (Kd.R_lt (wR_ HO_6.out)) k_ hk, Kd.fresh' (Kd.R_lt (wR_ HO_7.out)) k_ hk, Kd.freshB (g := gb185) (o := .cells #[.string t173, .string t174, .string t175, .int .u8 t176, .int .i64 t177, .int .i64 t178, .int .i64 t179, .int .i64 t180, .slice Ao62 t181.length co62] 40 (0, 0)) (wB_ BK185.out) k_ hk, Kd.freshB (g := gb186) (o := .cells #[.string t173, .string t174, .int .u8 t176, .int .i64 t177, .int .i64 t178, .int .i64 t179, .int .i64 t180, .slice Ao62 t181.length co62] 45 (0, 0)) (wB_ BK186.out) k_ hk⟩)); (case aO => exact (by (with_reducible repeat (first | apply Kd.N_alloc | apply Kd.N_drewN | apply Kd.N_drew)); exact Kd.N_mono HO_5.out (fun _ hk => ⟨hk.1.1, ⟨hk.1.2.1, ⟨hk.1.2.2.1, ⟨hk.1.2.2.2.1, hk.1.2.2.2.2⟩⟩⟩⟩))); (case aS => exact (below_size (wb2_ HB.out GE185.out GE186.out))); (case aL => have := LMc58.out; omega); intro v217 w71 ho hb hg hat; rw [← Ny216.out] at ho; have n0_ := A0_ (Kd.V_afterv (ok := (fun k_ => (P0_ k_ ∨ w.heap.size ≤ k_) ∧ some k_ ≠ (u6 : Value).ownBlock ∧ some k_ ≠ (u7 : Value).ownBlock ∧ some k_ ≠ (.slice Ao72 y213.length co72 : Value).ownBlock ∧ k_ ≠ gb185 ∧ k_ ≠ gb186)) (by (with_reducible repeat (first | apply Va_ | apply VN_ | apply V1_)); exact Kd.V_mono HO_0.out (fun _ hk => ⟨⟨hk.1.1, ⟨hk.1.2.2.1, ⟨hk.1.2.2.2.1, ⟨hk.2, ⟨hk.1.2.2.2.2.1, hk.1.2.2.2.2.2⟩⟩⟩⟩⟩, hk.1.2.1⟩)) hg hat); have n1_ := A0_ (Kd.R_over' (wR_ HO_6.out) (Kd.N_typed (wN_ HO_5.out)) (by decide) hg); have n2_ := A0_ (Kd.R_over' (wR_ HO_7.out) (Kd.N_typed (wN_ HO_5.out)) (by decide) hg); have n3_ := A0_ (Kd.V_afterv (ok := (fun k_ => (P0_ k_ ∨ w.heap.size ≤ k_) ∧ some k_ ≠ (u6 : Value).ownBlock ∧ some k_ ≠ (u7 : Value).ownBlock ∧ some k_ ≠ (.slice Ao72 y213.length co72 : Value).ownBlock ∧ k_ ≠ gb185 ∧ k_ ≠ gb186)) (by (with_reducible repeat (first | apply Va_ | apply VN_ | apply V1_)); exact Kd.V_mono HO183.out (fun _ hk => ⟨⟨hk.1.1, ⟨hk.1.2.2.1, ⟨hk.1.2.2.2.1, ⟨hk.2, ⟨hk.1.2.2.2.2.1, hk.1.2.2.2.2.2⟩⟩⟩⟩⟩, hk.1.2.1⟩)) hg hat); have n4_ := A0_ (blk_grown (g := gb185) (o := .cells #[.string t173, .string t174, .string t175, .int .u8 t176, .int .i64 t177, .int .i64 t178, .int .i64 t179, .int .i64 t180, .slice Ao62 t181.length co62] 40 (0, 0)) (wB_ BK185.out) hg (Kd.N_ne HO_5.out BK185.out (by decide))); have n5_ := A0_ (blk_grown (g := gb186) (o := .cells #[.string t173, .string t174, .int .u8 t176, .int .i64 t177, .int .i64 t178, .int .i64 t179, .int .i64 t180, .slice Ao62 t181.length co62] 45 (0, 0)) (wB_ BK186.out) hg (Kd.N_away HO_5.out (fun _ hk => hk.1.2.2.2.2))); have n6_ := A0_ (Kd.N_afterv (ok := (fun k_ => (P0_ k_ ∨ w.heap.size ≤ k_) ∧ some k_ ≠ (u6 : Value).ownBlock ∧ some k_ ≠ (u7 : Value).ownBlock ∧ k_ ≠ gb185 ∧ k_ ≠ gb186)) (by (with_reducible repeat (first | apply Kd.N_alloc | apply Kd.N_drewN | apply Kd.N_drew)); exact Kd.N_mono HO215.out (fun _ hk => ⟨⟨hk.1, ⟨hk.2.2.1, ⟨hk.2.2.2.1, ⟨hk.2.2.2.2.1, hk.2.2.2.2.2⟩⟩⟩⟩, hk.2.1⟩)) hg hat); have n7_ := A0_ (hb); have n8_ := A0_ (ho); clear HO_0; clear HO_6; clear HO_7; clear HO183; clear BK185; clear BK186; clear HO215; clear HB; clear HO_5; have HO_0 := n0_; have HO_6 := n1_; have HO_7 := n2_; have HO183 := n3_; have BK185 := n4_; have BK186 := n5_; have HO215 := n6_; have HB := n7_; have HO218 := n8_; clear n0_ n1_ n2_ n3_ n4_ n5_ n6_ n7_ n8_; clear ho hb hg hat))
    go_roundg k1
    case measure => have := HK1.out; omega
    case rel => exact ⟨(y216), (x6_1), (x7_1), (wrap64 (x8_1 + 1)), wr_, H', ⟨by have := HK1.out; omega⟩, ⟨by (with_reducible repeat (first | apply Va_ | apply VN_ | apply V1_)); exact Kd.V_mono HO_0.out (fun _ hk => ⟨hk.1.1, ⟨hk.2, ⟨hk.1.2.1, hk.1.2.2.1⟩⟩⟩)⟩, ⟨by (with_reducible repeat (first | apply Kd.N_alloc | apply Kd.N_drewN | apply Kd.N_drew)); exact Kd.N_mono HO218.out (fun _ hk => ⟨hk.1, ⟨hk.2.1, hk.2.2.1⟩⟩)⟩, ⟨wR_ HO_6.out⟩, ⟨wR_ HO_7.out⟩, ⟨wb2_ HB.out GE185.out GE186.out⟩⟩
   rw [if_pos c6] at H
   have c6b0 : (t176 == 48) = true := beq_iff_eq.mpr c6
   have c6b1 : (t176 != 48) = false := bne_eq_false_iff_eq.mpr c6
   clear c6
   have H' := A0_ H
   clear H
   have p172 : 0 ≤ (x8_1 : Int) := wd_
   have q172 : x8_1 < (l1.length : Int) := wd_
   obtain ⟨ad172, e172, hx172_0⟩ := Kd.at_string HR1.out x8_1 p172 q172
   cases e172
   replace hx172_0 := (HB.out.cell (World.block_lt_of_cell? w _ hx172_0)).trans hx172_0
   replace p172 := eq_true p172
   replace q172 := eq_true q172
   go_wp2_with (first | ((with_reducible refine gate_callee (f := 23) rfl ?_); refine goesL_ (some 25) rfl rfl Tryd.func23 (by kernel_rfl) rfl #[.slice A0 l0.length c0, .string (rdOf ByteArray.empty l1 x8_1)] rfl wm_ ?_; (with_reducible refine (bindleref08_Find.calls k1 (fun k_ => ((P0_ k_ ∨ w.heap.size ≤ k_) ∧ (some k_ ≠ (u5 : Value).ownBlock ∧ (some k_ ≠ (u6 : Value).ownBlock ∧ some k_ ≠ (u7 : Value).ownBlock)))) _ _ l0 (rdOf ByteArray.empty l1 x8_1) t173 t174 t175 t176 t177 t178 t179 t180 t181 t184 _ ?side1 A5.out).mono ?_); (case side1 => exact HO_0.out); rintro e w7 ⟨v182, rfl, ho0, hb⟩; refine ⟨_, rfl, ?_⟩; have n0_ := A0_ (Vb_ (wV_ HO_0.out) hb); have n1_ := A0_ (Kd.N_below (wN_ HO_5.out) hb); have n2_ := A0_ (Rb_ (wR_ HO_6.out) hb); have n3_ := A0_ (Rb_ (wR_ HO_7.out) hb); have n4_ := A0_ (Kd.V_lower (Kd.V_mono (ok' := fun k_ => (P0_ k_ ∨ w.heap.size ≤ k_) ∧ some k_ ≠ (u5 : Value).ownBlock ∧ some k_ ≠ (u6 : Value).ownBlock ∧ some k_ ≠ (u7 : Value).ownBlock) ho0 (fun k_ hk_ => ⟨Or.elim hk_ (fun hs_ => hs_.1) (fun hn_ => (.inr (Nat.le_trans (below_size (wb_ HB.out)) hn_))), Or.elim hk_ (fun hs_ => hs_.2.1) (fun hn_ => (Kd.fresh' (Kd.N_lt (wN_ HO_5.out)) k_ hn_)), Or.elim hk_ (fun hs_ => hs_.2.2.1) (fun hn_ => (Kd.fresh' (Kd.R_lt (wR_ HO_6.out)) k_ hn_)), Or.elim hk_ (fun hs_ => hs_.2.2.2) (fun hn_ => (Kd.fresh' (Kd.R_lt (wR_ HO_7.out)) k_ hn_))⟩)) (below_size (wb_ HB.out))); have n5_ := A0_ (below_step (wb_ HB.out) hb); clear HO_0; clear HO_5; clear HO_6; clear HO_7; clear HB; have HO_0 := n0_; have HO_5 := n1_; have HO_6 := n2_; have HO_7 := n3_; have HO183 := n4_; have HB := n5_; clear n0_ n1_ n2_ n3_ n4_ n5_; (try clear hb); (try clear hb2); (try clear hk); (try clear hi); (try clear ho0)) | ((with_reducible refine gate_dst (N := 9) rfl ?_); refine box_event ?hg (N := 9) ?hd (cs := #[.string (⟨#[]⟩ : ByteArray), .string (⟨#[]⟩ : ByteArray), .string (⟨#[]⟩ : ByteArray), .int .u8 0, .int .i64 0, .int .i64 0, .int .i64 0, .int .i64 0, .slice none 0 0]) (t := 40) ?hr ?_; (case hd => rfl); (case hg => rfl); (case hr => first | (go_simp; done) | (go_simp; rfl)); intro gb185 hg w8 hbox hb; have n0_ := A0_ (Vb_ (Kd.V_elderB (wV_ HO_0.out) gb185 (Nat.le_of_eq hg.symm)) hb); have n1_ := A0_ (Kd.N_below (Kd.N_elderB (wN_ HO_5.out) gb185 (Nat.le_of_eq hg.symm)) hb); have n2_ := A0_ (Rb_ (wR_ HO_6.out) hb); have n3_ := A0_ (Rb_ (wR_ HO_7.out) hb); have n4_ := A0_ (Vb_ (Kd.V_elderB (wV_ HO183.out) gb185 (Nat.le_of_eq hg.symm)) hb); have n5_ := A0_ (below_step (wb_ HB.out) hb); have n6_ := A0_ (hbox); have n7_ := A0_ ((by rw [hg]; exact (below_size (wb_ HB.out)) : w.heap.size ≤ gb185)); have n8_ := A0_ ((by rw [hg]; exact (below_size (wb_ HB.out)) : w.heap.size ≤ gb185)); clear HO_0; clear HO_5; clear HO_6; clear HO_7; clear HO183; clear HB; have HO_0 := n0_; have HO_5 := n1_; have HO_6 := n2_; have HO_7 := n3_; have HO183 := n4_; have HB := n5_; have BK185 := n6_; have GW185 := n7_; have GE185 := n8_; clear n0_ n1_ n2_ n3_ n4_ n5_ n6_ n7_ n8_; clear hb hbox hg; have hcz9_0 : w8.cell? ⟨gb185, 0, none⟩ = some (.string (⟨#[]⟩ : ByteArray)) := (bc_ BK185.out 0).trans rfl; have hcz9_1 : w8.cell? ⟨gb185, 1, none⟩ = some (.string (⟨#[]⟩ : ByteArray)) := (bc_ BK185.out 1).trans rfl; have hcz9_2 : w8.cell? ⟨gb185, 2, none⟩ = some (.string (⟨#[]⟩ : ByteArray)) := (bc_ BK185.out 2).trans rfl; have hcz9_3 : w8.cell? ⟨gb185, 3, none⟩ = some (.int .u8 0) := (bc_ BK185.out 3).trans rfl; have hcz9_4 : w8.cell? ⟨gb185, 4, none⟩ = some (.int .i64 0) := (bc_ BK185.out 4).trans rfl; have hcz9_5 : w8.cell? ⟨gb185, 5, none⟩ = some (.int .i64 0) := (bc_ BK185.out 5).trans rfl; have hcz9_6 : w8.cell? ⟨gb185, 6, none⟩ = some (.int .i64 0) := (bc_ BK185.out 6).trans rfl; have hcz9_7 : w8.cell? ⟨gb185, 7, none⟩ = some (.int .i64 0) := (bc_ BK185.out 7).trans rfl; have hcz9_8 : w8.cell? ⟨gb185, 8, none⟩ = some (.slice none 0 0) := (bc_ BK185.out 8).trans rfl; have hfz9_0 := bf_ BK185.out 0; have hfz9_1 := bf_ BK185.out 1; have hfz9_2 := bf_ BK185.out 2; have hfz9_3 := bf_ BK185.out 3; have hfz9_4 := bf_ BK185.out 4; have hfz9_5 := bf_ BK185.out 5; have hfz9_6 := bf_ BK185.out 6; have hfz9_7 := bf_ BK185.out 7; have hfz9_8 := bf_ BK185.out 8; obtain ⟨Ao10, co10, eo10⟩ := Kd.V_slice HO183.out; subst eo10) | ((with_reducible refine gate_dst (N := 11) rfl ?_); refine box_event ?hg (N := 11) ?hd (cs := #[.string (⟨#[]⟩ : ByteArray), .string (⟨#[]⟩ : ByteArray), .int .u8 0, .int .i64 0, .int .i64 0, .int .i64 0, .int .i64 0, .slice none 0 0]) (t := 45) ?hr ?_; (case hd => rfl); (case hg => rfl); (case hr => first | (go_simp; done) | (go_simp; rfl)); intro gb186 hg w11 hbox hb; have n0_ := A0_ (Vb_ (Kd.V_elderB (by (with_reducible repeat (first | apply Va_ | apply VN_ | apply V1_)); exact (Kd.V_mono (Kd.V_far (p := ⟨gb185, 8, none⟩) (Kd.V_far (p := ⟨gb185, 7, none⟩) (Kd.V_far (p := ⟨gb185, 6, none⟩) (Kd.V_far (p := ⟨gb185, 5, none⟩) (Kd.V_far (p := ⟨gb185, 4, none⟩) (Kd.V_far (p := ⟨gb185, 3, none⟩) (Kd.V_far (p := ⟨gb185, 2, none⟩) (Kd.V_far (p := ⟨gb185, 1, none⟩) (Kd.V_far (p := ⟨gb185, 0, none⟩) (Kd.V_mono HO_0.out (fun k_ hk => (⟨hk, hk.2⟩ : _ ∧ k_ ≠ gb185))) (fun _ hk => hk.2) (.string t173)) (fun _ hk => hk.2) (.string t174)) (fun _ hk => hk.2) (.string t175)) (fun _ hk => hk.2) (.int .u8 t176)) (fun _ hk => hk.2) (.int .i64 t177)) (fun _ hk => hk.2) (.int .i64 t178)) (fun _ hk => hk.2) (.int .i64 t179)) (fun _ hk => hk.2) (.int .i64 t180)) (fun _ hk => hk.2) (.slice Ao10 t181.length co10)) (fun _ h_ => h_.1))) gb186 (Nat.le_of_eq hg.symm)) hb); have n1_ := A0_ (Kd.N_below (Kd.N_elderB (by (with_reducible repeat (first | apply Kd.N_alloc | apply Kd.N_drewN | apply Kd.N_drew)); exact (Kd.N_mono (Kd.N_far (p := ⟨gb185, 8, none⟩) (Kd.N_far (p := ⟨gb185, 7, none⟩) (Kd.N_far (p := ⟨gb185, 6, none⟩) (Kd.N_far (p := ⟨gb185, 5, none⟩) (Kd.N_far (p := ⟨gb185, 4, none⟩) (Kd.N_far (p := ⟨gb185, 3, none⟩) (Kd.N_far (p := ⟨gb185, 2, none⟩) (Kd.N_far (p := ⟨gb185, 1, none⟩) (Kd.N_far (p := ⟨gb185, 0, none⟩) (Kd.N_mono HO_5.out (fun k_ hk => (⟨hk, hk.2⟩ : _ ∧ k_ ≠ gb185))) (fun _ hk => hk.2) (.string t173)) (fun _ hk => hk.2) (.string t174)) (fun _ hk => hk.2) (.string t175)) (fun _ hk => hk.2) (.int .u8 t176)) (fun _ hk => hk.2) (.int .i64 t177)) (fun _ hk => hk.2) (.int .i64 t178)) (fun _ hk => hk.2) (.int .i64 t179)) (fun _ hk => hk.2) (.int .i64 t180)) (fun _ hk => hk.2) (.slice Ao10 t181.length co10)) (fun _ h_ => h_.1))) gb186 (Nat.le_of_eq hg.symm)) hb); have n2_ := A0_ (Rb_ (by (with_reducible repeat (first | apply Ra_ | apply RN_ | apply R1_)); exact (Kd.R_mono (Kd.R_far (p := ⟨gb185, 8, none⟩) (Kd.R_far (p := ⟨gb185, 7, none⟩) (Kd.R_far (p := ⟨gb185, 6, none⟩) (Kd.R_far (p := ⟨gb185, 5, none⟩) (Kd.R_far (p := ⟨gb185, 4, none⟩) (Kd.R_far (p := ⟨gb185, 3, none⟩) (Kd.R_far (p := ⟨gb185, 2, none⟩) (Kd.R_far (p := ⟨gb185, 1, none⟩) (Kd.R_far (p := ⟨gb185, 0, none⟩) (Kd.R_types HO_6.out BK185.out (by decide)) (fun _ hk => hk.2) (.string t173)) (fun _ hk => hk.2) (.string t174)) (fun _ hk => hk.2) (.string t175)) (fun _ hk => hk.2) (.int .u8 t176)) (fun _ hk => hk.2) (.int .i64 t177)) (fun _ hk => hk.2) (.int .i64 t178)) (fun _ hk => hk.2) (.int .i64 t179)) (fun _ hk => hk.2) (.int .i64 t180)) (fun _ hk => hk.2) (.slice Ao10 t181.length co10)) (fun _ h_ => h_.1))) hb); have n3_ := A0_ (Rb_ (by (with_reducible repeat (first | apply Ra_ | apply RN_ | apply R1_)); exact (Kd.R_mono (Kd.R_far (p := ⟨gb185, 8, none⟩) (Kd.R_far (p := ⟨gb185, 7, none⟩) (Kd.R_far (p := ⟨gb185, 6, none⟩) (Kd.R_far (p := ⟨gb185, 5, none⟩) (Kd.R_far (p := ⟨gb185, 4, none⟩) (Kd.R_far (p := ⟨gb185, 3, none⟩) (Kd.R_far (p := ⟨gb185, 2, none⟩) (Kd.R_far (p := ⟨gb185, 1, none⟩) (Kd.R_far (p := ⟨gb185, 0, none⟩) (Kd.R_types HO_7.out BK185.out (by decide)) (fun _ hk => hk.2) (.string t173)) (fun _ hk => hk.2) (.string t174)) (fun _ hk => hk.2) (.string t175)) (fun _ hk => hk.2) (.int .u8 t176)) (fun _ hk => hk.2) (.int .i64 t177)) (fun _ hk => hk.2) (.int .i64 t178)) (fun _ hk => hk.2) (.int .i64 t179)) (fun _ hk => hk.2) (.int .i64 t180)) (fun _ hk => hk.2) (.slice Ao10 t181.length co10)) (fun _ h_ => h_.1))) hb); have n4_ := A0_ (Vb_ (Kd.V_elderB (by (with_reducible repeat (first | apply Va_ | apply VN_ | apply V1_)); exact (Kd.V_mono (Kd.V_far (p := ⟨gb185, 8, none⟩) (Kd.V_far (p := ⟨gb185, 7, none⟩) (Kd.V_far (p := ⟨gb185, 6, none⟩) (Kd.V_far (p := ⟨gb185, 5, none⟩) (Kd.V_far (p := ⟨gb185, 4, none⟩) (Kd.V_far (p := ⟨gb185, 3, none⟩) (Kd.V_far (p := ⟨gb185, 2, none⟩) (Kd.V_far (p := ⟨gb185, 1, none⟩) (Kd.V_far (p := ⟨gb185, 0, none⟩) (Kd.V_mono HO183.out (fun k_ hk => (⟨hk, hk.2⟩ : _ ∧ k_ ≠ gb185))) (fun _ hk => hk.2) (.string t173)) (fun _ hk => hk.2) (.string t174)) (fun _ hk => hk.2) (.string t175)) (fun _ hk => hk.2) (.int .u8 t176)) (fun _ hk => hk.2) (.int .i64 t177)) (fun _ hk => hk.2) (.int .i64 t178)) (fun _ hk => hk.2) (.int .i64 t179)) (fun _ hk => hk.2) (.int .i64 t180)) (fun _ hk => hk.2) (.slice Ao10 t181.length co10)) (fun _ h_ => h_.1))) gb186 (Nat.le_of_eq hg.symm)) hb); have n5_ := A0_ (blk_below (g := gb185) (o := .cells #[.string t173, .string t174, .string t175, .int .u8 t176, .int .i64 t177, .int .i64 t178, .int .i64 t179, .int .i64 t180, .slice Ao10 t181.length co10] 40 (0, 0)) (by (with_reducible repeat (first | refine blk_drewN ?_ _ | refine blk_drew ?_ | refine blk_alloc ?_ _)); refine blk_put (cs := #[.string t173, .string t174, .string t175, .int .u8 t176, .int .i64 t177, .int .i64 t178, .int .i64 t179, .int .i64 t180, .slice none 0 0]) ?_ 8 _ rfl; (with_reducible repeat (first | refine blk_drewN ?_ _ | refine blk_drew ?_ | refine blk_alloc ?_ _)); refine blk_put (cs := #[.string t173, .string t174, .string t175, .int .u8 t176, .int .i64 t177, .int .i64 t178, .int .i64 t179, .int .i64 0, .slice none 0 0]) ?_ 7 _ rfl; (with_reducible repeat (first | refine blk_drewN ?_ _ | refine blk_drew ?_ | refine blk_alloc ?_ _)); refine blk_put (cs := #[.string t173, .string t174, .string t175, .int .u8 t176, .int .i64 t177, .int .i64 t178, .int .i64 0, .int .i64 0, .slice none 0 0]) ?_ 6 _ rfl; (with_reducible repeat (first | refine blk_drewN ?_ _ | refine blk_drew ?_ | refine blk_alloc ?_ _)); refine blk_put (cs := #[.string t173, .string t174, .string t175, .int .u8 t176, .int .i64 t177, .int .i64 0, .int .i64 0, .int .i64 0, .slice none 0 0]) ?_ 5 _ rfl; (with_reducible repeat (first | refine blk_drewN ?_ _ | refine blk_drew ?_ | refine blk_alloc ?_ _)); refine blk_put (cs := #[.string t173, .string t174, .string t175, .int .u8 t176, .int .i64 0, .int .i64 0, .int .i64 0, .int .i64 0, .slice none 0 0]) ?_ 4 _ rfl; (with_reducible repeat (first | refine blk_drewN ?_ _ | refine blk_drew ?_ | refine blk_alloc ?_ _)); refine blk_put (cs := #[.string t173, .string t174, .string t175, .int .u8 0, .int .i64 0, .int .i64 0, .int .i64 0, .int .i64 0, .slice none 0 0]) ?_ 3 _ rfl; (with_reducible repeat (first | refine blk_drewN ?_ _ | refine blk_drew ?_ | refine blk_alloc ?_ _)); refine blk_put (cs := #[.string t173, .string t174, .string (⟨#[]⟩ : ByteArray), .int .u8 0, .int .i64 0, .int .i64 0, .int .i64 0, .int .i64 0, .slice none 0 0]) ?_ 2 _ rfl; (with_reducible repeat (first | refine blk_drewN ?_ _ | refine blk_drew ?_ | refine blk_alloc ?_ _)); refine blk_put (cs := #[.string t173, .string (⟨#[]⟩ : ByteArray), .string (⟨#[]⟩ : ByteArray), .int .u8 0, .int .i64 0, .int .i64 0, .int .i64 0, .int .i64 0, .slice none 0 0]) ?_ 1 _ rfl; (with_reducible repeat (first | refine blk_drewN ?_ _ | refine blk_drew ?_ | refine blk_alloc ?_ _)); refine blk_put (cs := #[.string (⟨#[]⟩ : ByteArray), .string (⟨#[]⟩ : ByteArray), .string (⟨#[]⟩ : ByteArray), .int .u8 0, .int .i64 0, .int .i64 0, .int .i64 0, .int .i64 0, .slice none 0 0]) ?_ 0 _ rfl; (with_reducible repeat (first | refine blk_drewN ?_ _ | refine blk_drew ?_ | refine blk_alloc ?_ _)); exact BK185.out) hb); have n6_ := A0_ (below_step (wb1_ HB.out GE185.out) hb); have n7_ := A0_ (hbox); have n8_ := A0_ ((by rw [hg]; exact (below_size (wb1_ HB.out GE185.out)) : w.heap.size ≤ gb186)); have n9_ := A0_ ((by rw [hg]; exact (below_size (wb1_ HB.out GE185.out)) : w.heap.size ≤ gb186)); have n10_ := A0_ ((by rw [hg]; exact Nat.ne_of_lt (blk_lt (g := gb185) (o := .cells #[.string t173, .string t174, .string t175, .int .u8 t176, .int .i64 t177, .int .i64 t178, .int .i64 t179, .int .i64 t180, .slice Ao10 t181.length co10] 40 (0, 0)) (by (with_reducible repeat (first | refine blk_drewN ?_ _ | refine blk_drew ?_ | refine blk_alloc ?_ _)); refine blk_put (cs := #[.string t173, .string t174, .string t175, .int .u8 t176, .int .i64 t177, .int .i64 t178, .int .i64 t179, .int .i64 t180, .slice none 0 0]) ?_ 8 _ rfl; (with_reducible repeat (first | refine blk_drewN ?_ _ | refine blk_drew ?_ | refine blk_alloc ?_ _)); refine blk_put (cs := #[.string t173, .string t174, .string t175, .int .u8 t176, .int .i64 t177, .int .i64 t178, .int .i64 t179, .int .i64 0, .slice none 0 0]) ?_ 7 _ rfl; (with_reducible repeat (first | refine blk_drewN ?_ _ | refine blk_drew ?_ | refine blk_alloc ?_ _)); refine blk_put (cs := #[.string t173, .string t174, .string t175, .int .u8 t176, .int .i64 t177, .int .i64 t178, .int .i64 0, .int .i64 0, .slice none 0 0]) ?_ 6 _ rfl; (with_reducible repeat (first | refine blk_drewN ?_ _ | refine blk_drew ?_ | refine blk_alloc ?_ _)); refine blk_put (cs := #[.string t173, .string t174, .string t175, .int .u8 t176, .int .i64 t177, .int .i64 0, .int .i64 0, .int .i64 0, .slice none 0 0]) ?_ 5 _ rfl; (with_reducible repeat (first | refine blk_drewN ?_ _ | refine blk_drew ?_ | refine blk_alloc ?_ _)); refine blk_put (cs := #[.string t173, .string t174, .string t175, .int .u8 t176, .int .i64 0, .int .i64 0, .int .i64 0, .int .i64 0, .slice none 0 0]) ?_ 4 _ rfl; (with_reducible repeat (first | refine blk_drewN ?_ _ | refine blk_drew ?_ | refine blk_alloc ?_ _)); refine blk_put (cs := #[.string t173, .string t174, .string t175, .int .u8 0, .int .i64 0, .int .i64 0, .int .i64 0, .int .i64 0, .slice none 0 0]) ?_ 3 _ rfl; (with_reducible repeat (first | refine blk_drewN ?_ _ | refine blk_drew ?_ | refine blk_alloc ?_ _)); refine blk_put (cs := #[.string t173, .string t174, .string (⟨#[]⟩ : ByteArray), .int .u8 0, .int .i64 0, .int .i64 0, .int .i64 0, .int .i64 0, .slice none 0 0]) ?_ 2 _ rfl; (with_reducible repeat (first | refine blk_drewN ?_ _ | refine blk_drew ?_ | refine blk_alloc ?_ _)); refine blk_put (cs := #[.string t173, .string (⟨#[]⟩ : ByteArray), .string (⟨#[]⟩ : ByteArray), .int .u8 0, .int .i64 0, .int .i64 0, .int .i64 0, .int .i64 0, .slice none 0 0]) ?_ 1 _ rfl; (with_reducible repeat (first | refine blk_drewN ?_ _ | refine blk_drew ?_ | refine blk_alloc ?_ _)); refine blk_put (cs := #[.string (⟨#[]⟩ : ByteArray), .string (⟨#[]⟩ : ByteArray), .string (⟨#[]⟩ : ByteArray), .int .u8 0, .int .i64 0, .int .i64 0, .int .i64 0, .int .i64 0, .slice none 0 0]) ?_ 0 _ rfl; (with_reducible repeat (first | refine blk_drewN ?_ _ | refine blk_drew ?_ | refine blk_alloc ?_ _)); exact BK185.out)) : gb185 ≠ gb186)); have n11_ := A0_ ((by rw [hg]; exact Nat.ne_of_gt (blk_lt (g := gb185) (o := .cells #[.string t173, .string t174, .string t175, .int .u8 t176, .int .i64 t177, .int .i64 t178, .int .i64 t179, .int .i64 t180, .slice Ao10 t181.length co10] 40 (0, 0)) (by (with_reducible repeat (first | refine blk_drewN ?_ _ | refine blk_drew ?_ | refine blk_alloc ?_ _)); refine blk_put (cs := #[.string t173, .string t174, .string t175, .int .u8 t176, .int .i64 t177, .int .i64 t178, .int .i64 t179, .int .i64 t180, .slice none 0 0]) ?_ 8 _ rfl; (with_reducible repeat (first | refine blk_drewN ?_ _ | refine blk_drew ?_ | refine blk_alloc ?_ _)); refine blk_put (cs := #[.string t173, .string t174, .string t175, .int .u8 t176, .int .i64 t177, .int .i64 t178, .int .i64 t179, .int .i64 0, .slice none 0 0]) ?_ 7 _ rfl; (with_reducible repeat (first | refine blk_drewN ?_ _ | refine blk_drew ?_ | refine blk_alloc ?_ _)); refine blk_put (cs := #[.string t173, .string t174, .string t175, .int .u8 t176, .int .i64 t177, .int .i64 t178, .int .i64 0, .int .i64 0, .slice none 0 0]) ?_ 6 _ rfl; (with_reducible repeat (first | refine blk_drewN ?_ _ | refine blk_drew ?_ | refine blk_alloc ?_ _)); refine blk_put (cs := #[.string t173, .string t174, .string t175, .int .u8 t176, .int .i64 t177, .int .i64 0, .int .i64 0, .int .i64 0, .slice none 0 0]) ?_ 5 _ rfl; (with_reducible repeat (first | refine blk_drewN ?_ _ | refine blk_drew ?_ | refine blk_alloc ?_ _)); refine blk_put (cs := #[.string t173, .string t174, .string t175, .int .u8 t176, .int .i64 0, .int .i64 0, .int .i64 0, .int .i64 0, .slice none 0 0]) ?_ 4 _ rfl; (with_reducible repeat (first | refine blk_drewN ?_ _ | refine blk_drew ?_ | refine blk_alloc ?_ _)); refine blk_put (cs := #[.string t173, .string t174, .string t175, .int .u8 0, .int .i64 0, .int .i64 0, .int .i64 0, .int .i64 0, .slice none 0 0]) ?_ 3 _ rfl; (with_reducible repeat (first | refine blk_drewN ?_ _ | refine blk_drew ?_ | refine blk_alloc ?_ _)); refine blk_put (cs := #[.string t173, .string t174, .string (⟨#[]⟩ : ByteArray), .int .u8 0, .int .i64 0, .int .i64 0, .int .i64 0, .int .i64 0, .slice none 0 0]) ?_ 2 _ rfl; (with_reducible repeat (first | refine blk_drewN ?_ _ | refine blk_drew ?_ | refine blk_alloc ?_ _)); refine blk_put (cs := #[.string t173, .string (⟨#[]⟩ : ByteArray), .string (⟨#[]⟩ : ByteArray), .int .u8 0, .int .i64 0, .int .i64 0, .int .i64 0, .int .i64 0, .slice none 0 0]) ?_ 1 _ rfl; (with_reducible repeat (first | refine blk_drewN ?_ _ | refine blk_drew ?_ | refine blk_alloc ?_ _)); refine blk_put (cs := #[.string (⟨#[]⟩ : ByteArray), .string (⟨#[]⟩ : ByteArray), .string (⟨#[]⟩ : ByteArray), .int .u8 0, .int .i64 0, .int .i64 0, .int .i64 0, .int .i64 0, .slice none 0 0]) ?_ 0 _ rfl; (with_reducible repeat (first | refine blk_drewN ?_ _ | refine blk_drew ?_ | refine blk_alloc ?_ _)); exact BK185.out)) : gb186 ≠ gb185)); clear HO_0; clear HO_5; clear HO_6; clear HO_7; clear HO183; clear BK185; clear HB; have HO_0 := n0_; have HO_5 := n1_; have HO_6 := n2_; have HO_7 := n3_; have HO183 := n4_; have BK185 := n5_; have HB := n6_; have BK186 := n7_; have GW186 := n8_; have GE186 := n9_; have NB185_186 := n10_; have NB186_185 := n11_; clear n0_ n1_ n2_ n3_ n4_ n5_ n6_ n7_ n8_ n9_ n10_ n11_; clear hb hbox hg; have hnb12 := NB186_185.out; have hnc12 := NB185_186.out; have hcz13_0 : w11.cell? ⟨gb186, 0, none⟩ = some (.string (⟨#[]⟩ : ByteArray)) := (bc_ BK186.out 0).trans rfl; have hcz13_1 : w11.cell? ⟨gb186, 1, none⟩ = some (.string (⟨#[]⟩ : ByteArray)) := (bc_ BK186.out 1).trans rfl; have hcz13_2 : w11.cell? ⟨gb186, 2, none⟩ = some (.int .u8 0) := (bc_ BK186.out 2).trans rfl; have hcz13_3 : w11.cell? ⟨gb186, 3, none⟩ = some (.int .i64 0) := (bc_ BK186.out 3).trans rfl; have hcz13_4 : w11.cell? ⟨gb186, 4, none⟩ = some (.int .i64 0) := (bc_ BK186.out 4).trans rfl; have hcz13_5 : w11.cell? ⟨gb186, 5, none⟩ = some (.int .i64 0) := (bc_ BK186.out 5).trans rfl; have hcz13_6 : w11.cell? ⟨gb186, 6, none⟩ = some (.int .i64 0) := (bc_ BK186.out 6).trans rfl; have hcz13_7 : w11.cell? ⟨gb186, 7, none⟩ = some (.slice none 0 0) := (bc_ BK186.out 7).trans rfl; have hfz13_0 := bf_ BK186.out 0; have hfz13_1 := bf_ BK186.out 1; have hfz13_2 := bf_ BK186.out 2; have hfz13_3 := bf_ BK186.out 3; have hfz13_4 := bf_ BK186.out 4; have hfz13_5 := bf_ BK186.out 5; have hfz13_6 := bf_ BK186.out 6; have hfz13_7 := bf_ BK186.out 7; have hcz14_0 : w11.cell? ⟨gb185, 0, none⟩ = some (.string t173) := (bc_ BK185.out 0).trans rfl; have hcz14_1 : w11.cell? ⟨gb185, 1, none⟩ = some (.string t174) := (bc_ BK185.out 1).trans rfl; have hcz14_2 : w11.cell? ⟨gb185, 2, none⟩ = some (.string t175) := (bc_ BK185.out 2).trans rfl; have hcz14_3 : w11.cell? ⟨gb185, 3, none⟩ = some (.int .u8 t176) := (bc_ BK185.out 3).trans rfl; have hcz14_4 : w11.cell? ⟨gb185, 4, none⟩ = some (.int .i64 t177) := (bc_ BK185.out 4).trans rfl; have hcz14_5 : w11.cell? ⟨gb185, 5, none⟩ = some (.int .i64 t178) := (bc_ BK185.out 5).trans rfl; have hcz14_6 : w11.cell? ⟨gb185, 6, none⟩ = some (.int .i64 t179) := (bc_ BK185.out 6).trans rfl; have hcz14_7 : w11.cell? ⟨gb185, 7, none⟩ = some (.int .i64 t180) := (bc_ BK185.out 7).trans rfl; have hcz14_8 : w11.cell? ⟨gb185, 8, none⟩ = some (.slice Ao10 t181.length co10) := (bc_ BK185.out 8).trans rfl; have hfz14_0 := bf_ BK185.out 0; have hfz14_1 := bf_ BK185.out 1; have hfz14_2 := bf_ BK185.out 2; have hfz14_3 := bf_ BK185.out 3; have hfz14_4 := bf_ BK185.out 4; have hfz14_5 := bf_ BK185.out 5; have hfz14_6 := bf_ BK185.out 6; have hfz14_7 := bf_ BK185.out 7; have hfz14_8 := bf_ BK185.out 8))
   go_loopg [12] k1 (fun kq v12 w' => ∃ (x12_2 : Int), v12 = .int .i64 x12_2 ∧ Aside0 (bindleref08_Members.l1 kq l0 l1 x5_1 x6_1 x7_1 x8_1 x12_2 t173 t174 t175 t176 t177 t178 t179 t180 t181 t173 t174 t176 t177 t178 t179 t180 t181 = some r) ∧ Aside0 (kq ≤ k1) ∧ Aside0 (Kd.V k40 40 w' w.heap.size (fun k_ => (P0_ k_ ∨ w.heap.size ≤ k_) ∧ some k_ ≠ (u5 : Value).ownBlock ∧ some k_ ≠ (u6 : Value).ownBlock ∧ some k_ ≠ (u7 : Value).ownBlock ∧ k_ ≠ gb185 ∧ k_ ≠ gb186) (.slice A0 l0.length c0) l0) ∧ Aside0 (Kd.N k45 45 w' w.heap.size (fun k_ => (P0_ k_ ∨ w.heap.size ≤ k_) ∧ some k_ ≠ (u6 : Value).ownBlock ∧ some k_ ≠ (u7 : Value).ownBlock ∧ k_ ≠ gb185 ∧ k_ ≠ gb186) u5 x5_1) ∧ Aside0 (Kd.R Kd.string 9 w' w.heap.size (fun k_ => (w.heap.size ≤ k_) ∧ some k_ ≠ (u7 : Value).ownBlock) u6 x6_1) ∧ Aside0 (Kd.R Kd.string 9 w' w.heap.size (fun k_ => (w.heap.size ≤ k_) ∧ some k_ ≠ (u6 : Value).ownBlock) u7 x7_1) ∧ Aside0 (Kd.V (Kd.int .u8) 5 w' w.heap.size (fun k_ => (P0_ k_ ∨ w.heap.size ≤ k_) ∧ some k_ ≠ (u5 : Value).ownBlock ∧ some k_ ≠ (u6 : Value).ownBlock ∧ some k_ ≠ (u7 : Value).ownBlock ∧ k_ ≠ gb185 ∧ k_ ≠ gb186) (.slice Ao10 t181.length co10) t181) ∧ Aside0 (Kd.V (Kd.int .u8) 5 w' w.heap.size (fun k_ => (P0_ k_ ∨ w.heap.size ≤ k_) ∧ some k_ ≠ (u5 : Value).ownBlock ∧ some k_ ≠ (u6 : Value).ownBlock ∧ some k_ ≠ (u7 : Value).ownBlock ∧ k_ ≠ gb185 ∧ k_ ≠ gb186) (.slice Ao10 t181.length co10) t181) ∧ Aside0 (w'.heap[gb185]? = some (.cells #[.string t173, .string t174, .string t175, .int .u8 t176, .int .i64 t177, .int .i64 t178, .int .i64 t179, .int .i64 t180, (.slice Ao10 t181.length co10)] 40 (0, 0))) ∧ Aside0 (w'.heap[gb186]? = some (.cells #[.string t173, .string t174, .int .u8 t176, .int .i64 t177, .int .i64 t178, .int .i64 t179, .int .i64 t180, (.slice Ao10 t181.length co10)] 45 (0, 0))) ∧ Aside0 (Below w.heap.size w w'))
   case atStart => exact ⟨(0), wr_, H', ⟨Nat.le_refl _⟩, ⟨by (with_reducible repeat (first | apply Va_ | apply VN_ | apply V1_)); exact Kd.V_mono (Kd.V_far (p := ⟨gb186, 7, none⟩) (Kd.V_far (p := ⟨gb186, 6, none⟩) (Kd.V_far (p := ⟨gb186, 5, none⟩) (Kd.V_far (p := ⟨gb186, 4, none⟩) (Kd.V_far (p := ⟨gb186, 3, none⟩) (Kd.V_far (p := ⟨gb186, 2, none⟩) (Kd.V_far (p := ⟨gb186, 1, none⟩) (Kd.V_far (p := ⟨gb186, 0, none⟩) (Kd.V_mono HO_0.out (fun k_ hk => (⟨hk, hk.2⟩ : _ ∧ k_ ≠ gb186))) (fun _ hk => hk.2) (.string t173)) (fun _ hk => hk.2) (.string t174)) (fun _ hk => hk.2) (.int .u8 t176)) (fun _ hk => hk.2) (.int .i64 t177)) (fun _ hk => hk.2) (.int .i64 t178)) (fun _ hk => hk.2) (.int .i64 t179)) (fun _ hk => hk.2) (.int .i64 t180)) (fun _ hk => hk.2) (.slice Ao10 t181.length co10)) (fun _ hk => ⟨hk.1.1.1.1, ⟨hk.1.1.1.2.1, ⟨hk.1.1.1.2.2.1, ⟨hk.1.1.1.2.2.2, ⟨hk.1.1.2, hk.1.2⟩⟩⟩⟩⟩)⟩, ⟨by (with_reducible repeat (first | apply Kd.N_alloc | apply Kd.N_drewN | apply Kd.N_drew)); exact Kd.N_mono (Kd.N_far (p := ⟨gb186, 7, none⟩) (Kd.N_far (p := ⟨gb186, 6, none⟩) (Kd.N_far (p := ⟨gb186, 5, none⟩) (Kd.N_far (p := ⟨gb186, 4, none⟩) (Kd.N_far (p := ⟨gb186, 3, none⟩) (Kd.N_far (p := ⟨gb186, 2, none⟩) (Kd.N_far (p := ⟨gb186, 1, none⟩) (Kd.N_far (p := ⟨gb186, 0, none⟩) (Kd.N_mono HO_5.out (fun k_ hk => (⟨hk, hk.2⟩ : _ ∧ k_ ≠ gb186))) (fun _ hk => hk.2) (.string t173)) (fun _ hk => hk.2) (.string t174)) (fun _ hk => hk.2) (.int .u8 t176)) (fun _ hk => hk.2) (.int .i64 t177)) (fun _ hk => hk.2) (.int .i64 t178)) (fun _ hk => hk.2) (.int .i64 t179)) (fun _ hk => hk.2) (.int .i64 t180)) (fun _ hk => hk.2) (.slice Ao10 t181.length co10)) (fun _ hk => ⟨hk.1.1.1.1, ⟨hk.1.1.1.2.1, ⟨hk.1.1.1.2.2, ⟨hk.1.1.2, hk.1.2⟩⟩⟩⟩)⟩, ⟨by (with_reducible repeat (first | apply Ra_ | apply RN_ | apply R1_)); exact Kd.R_mono (Kd.R_far (p := ⟨gb186, 7, none⟩) (Kd.R_far (p := ⟨gb186, 6, none⟩) (Kd.R_far (p := ⟨gb186, 5, none⟩) (Kd.R_far (p := ⟨gb186, 4, none⟩) (Kd.R_far (p := ⟨gb186, 3, none⟩) (Kd.R_far (p := ⟨gb186, 2, none⟩) (Kd.R_far (p := ⟨gb186, 1, none⟩) (Kd.R_far (p := ⟨gb186, 0, none⟩) (Kd.R_types HO_6.out BK186.out (by decide)) (fun _ hk => hk.2) (.string t173)) (fun _ hk => hk.2) (.string t174)) (fun _ hk => hk.2) (.int .u8 t176)) (fun _ hk => hk.2) (.int .i64 t177)) (fun _ hk => hk.2) (.int .i64 t178)) (fun _ hk => hk.2) (.int .i64 t179)) (fun _ hk => hk.2) (.int .i64 t180)) (fun _ hk => hk.2) (.slice Ao10 t181.length co10)) (fun _ hk => ⟨hk.1.1, hk.1.2⟩)⟩, ⟨by (with_reducible repeat (first | apply Ra_ | apply RN_ | apply R1_)); exact Kd.R_mono (Kd.R_far (p := ⟨gb186, 7, none⟩) (Kd.R_far (p := ⟨gb186, 6, none⟩) (Kd.R_far (p := ⟨gb186, 5, none⟩) (Kd.R_far (p := ⟨gb186, 4, none⟩) (Kd.R_far (p := ⟨gb186, 3, none⟩) (Kd.R_far (p := ⟨gb186, 2, none⟩) (Kd.R_far (p := ⟨gb186, 1, none⟩) (Kd.R_far (p := ⟨gb186, 0, none⟩) (Kd.R_types HO_7.out BK186.out (by decide)) (fun _ hk => hk.2) (.string t173)) (fun _ hk => hk.2) (.string t174)) (fun _ hk => hk.2) (.int .u8 t176)) (fun _ hk => hk.2) (.int .i64 t177)) (fun _ hk => hk.2) (.int .i64 t178)) (fun _ hk => hk.2) (.int .i64 t179)) (fun _ hk => hk.2) (.int .i64 t180)) (fun _ hk => hk.2) (.slice Ao10 t181.length co10)) (fun _ hk => ⟨hk.1.1, hk.1.2⟩)⟩, ⟨by (with_reducible repeat (first | apply Va_ | apply VN_ | apply V1_)); exact Kd.V_mono (Kd.V_far (p := ⟨gb186, 7, none⟩) (Kd.V_far (p := ⟨gb186, 6, none⟩) (Kd.V_far (p := ⟨gb186, 5, none⟩) (Kd.V_far (p := ⟨gb186, 4, none⟩) (Kd.V_far (p := ⟨gb186, 3, none⟩) (Kd.V_far (p := ⟨gb186, 2, none⟩) (Kd.V_far (p := ⟨gb186, 1, none⟩) (Kd.V_far (p := ⟨gb186, 0, none⟩) (Kd.V_mono HO183.out (fun k_ hk => (⟨hk, hk.2⟩ : _ ∧ k_ ≠ gb186))) (fun _ hk => hk.2) (.string t173)) (fun _ hk => hk.2) (.string t174)) (fun _ hk => hk.2) (.int .u8 t176)) (fun _ hk => hk.2) (.int .i64 t177)) (fun _ hk => hk.2) (.int .i64 t178)) (fun _ hk => hk.2) (.int .i64 t179)) (fun _ hk => hk.2) (.int .i64 t180)) (fun _ hk => hk.2) (.slice Ao10 t181.length co10)) (fun _ hk => ⟨hk.1.1.1.1, ⟨hk.1.1.1.2.1, ⟨hk.1.1.1.2.2.1, ⟨hk.1.1.1.2.2.2, ⟨hk.1.1.2, hk.1.2⟩⟩⟩⟩⟩)⟩, ⟨by (with_reducible repeat (first | apply Va_ | apply VN_ | apply V1_)); exact Kd.V_mono (Kd.V_far (p := ⟨gb186, 7, none⟩) (Kd.V_far (p := ⟨gb186, 6, none⟩) (Kd.V_far (p := ⟨gb186, 5, none⟩) (Kd.V_far (p := ⟨gb186, 4, none⟩) (Kd.V_far (p := ⟨gb186, 3, none⟩) (Kd.V_far (p := ⟨gb186, 2, none⟩) (Kd.V_far (p := ⟨gb186, 1, none⟩) (Kd.V_far (p := ⟨gb186, 0, none⟩) (Kd.V_mono HO183.out (fun k_ hk => (⟨hk, hk.2⟩ : _ ∧ k_ ≠ gb186))) (fun _ hk => hk.2) (.string t173)) (fun _ hk => hk.2) (.string t174)) (fun _ hk => hk.2) (.int .u8 t176)) (fun _ hk => hk.2) (.int .i64 t177)) (fun _ hk => hk.2) (.int .i64 t178)) (fun _ hk => hk.2) (.int .i64 t179)) (fun _ hk => hk.2) (.int .i64 t180)) (fun _ hk => hk.2) (.slice Ao10 t181.length co10)) (fun _ hk => ⟨hk.1.1.1.1, ⟨hk.1.1.1.2.1, ⟨hk.1.1.1.2.2.1, ⟨hk.1.1.1.2.2.2, ⟨hk.1.1.2, hk.1.2⟩⟩⟩⟩⟩)⟩, ⟨by (with_reducible repeat (first | refine blk_drewN ?_ _ | refine blk_drew ?_ | refine blk_alloc ?_ _)); refine blk_far ?_ NB185_186.out _; (with_reducible repeat (first | refine blk_drewN ?_ _ | refine blk_drew ?_ | refine blk_alloc ?_ _)); refine blk_far ?_ NB185_186.out _; (with_reducible repeat (first | refine blk_drewN ?_ _ | refine blk_drew ?_ | refine blk_alloc ?_ _)); refine blk_far ?_ NB185_186.out _; (with_reducible repeat (first | refine blk_drewN ?_ _ | refine blk_drew ?_ | refine blk_alloc ?_ _)); refine blk_far ?_ NB185_186.out _; (with_reducible repeat (first | refine blk_drewN ?_ _ | refine blk_drew ?_ | refine blk_alloc ?_ _)); refine blk_far ?_ NB185_186.out _; (with_reducible repeat (first | refine blk_drewN ?_ _ | refine blk_drew ?_ | refine blk_alloc ?_ _)); refine blk_far ?_ NB185_186.out _; (with_reducible repeat (first | refine blk_drewN ?_ _ | refine blk_drew ?_ | refine blk_alloc ?_ _)); refine blk_far ?_ NB185_186.out _; (with_reducible repeat (first | refine blk_drewN ?_ _ | refine blk_drew ?_ | refine blk_alloc ?_ _)); refine blk_far ?_ NB185_186.out _; (with_reducible repeat (first | refine blk_drewN ?_ _ | refine blk_drew ?_ | refine blk_alloc ?_ _)); exact BK185.out⟩, ⟨by (with_reducible repeat (first | refine blk_drewN ?_ _ | refine blk_drew ?_ | refine blk_alloc ?_ _)); refine blk_put (cs := #[.string t173, .string t174, .int .u8 t176, .int .i64 t177, .int .i64 t178, .int .i64 t179, .int .i64 t180, .slice none 0 0]) ?_ 7 _ rfl; (with_reducible repeat (first | refine blk_drewN ?_ _ | refine blk_drew ?_ | refine blk_alloc ?_ _)); refine blk_put (cs := #[.string t173, .string t174, .int .u8 t176, .int .i64 t177, .int .i64 t178, .int .i64 t179, .int .i64 0, .slice none 0 0]) ?_ 6 _ rfl; (with_reducible repeat (first | refine blk_drewN ?_ _ | refine blk_drew ?_ | refine blk_alloc ?_ _)); refine blk_put (cs := #[.string t173, .string t174, .int .u8 t176, .int .i64 t177, .int .i64 t178, .int .i64 0, .int .i64 0, .slice none 0 0]) ?_ 5 _ rfl; (with_reducible repeat (first | refine blk_drewN ?_ _ | refine blk_drew ?_ | refine blk_alloc ?_ _)); refine blk_put (cs := #[.string t173, .string t174, .int .u8 t176, .int .i64 t177, .int .i64 0, .int .i64 0, .int .i64 0, .slice none 0 0]) ?_ 4 _ rfl; (with_reducible repeat (first | refine blk_drewN ?_ _ | refine blk_drew ?_ | refine blk_alloc ?_ _)); refine blk_put (cs := #[.string t173, .string t174, .int .u8 t176, .int .i64 0, .int .i64 0, .int .i64 0, .int .i64 0, .slice none 0 0]) ?_ 3 _ rfl; (with_reducible repeat (first | refine blk_drewN ?_ _ | refine blk_drew ?_ | refine blk_alloc ?_ _)); refine blk_put (cs := #[.string t173, .string t174, .int .u8 0, .int .i64 0, .int .i64 0, .int .i64 0, .int .i64 0, .slice none 0 0]) ?_ 2 _ rfl; (with_reducible repeat (first | refine blk_drewN ?_ _ | refine blk_drew ?_ | refine blk_alloc ?_ _)); refine blk_put (cs := #[.string t173, .string (⟨#[]⟩ : ByteArray), .int .u8 0, .int .i64 0, .int .i64 0, .int .i64 0, .int .i64 0, .slice none 0 0]) ?_ 1 _ rfl; (with_reducible repeat (first | refine blk_drewN ?_ _ | refine blk_drew ?_ | refine blk_alloc ?_ _)); refine blk_put (cs := #[.string (⟨#[]⟩ : ByteArray), .string (⟨#[]⟩ : ByteArray), .int .u8 0, .int .i64 0, .int .i64 0, .int .i64 0, .int .i64 0, .slice none 0 0]) ?_ 0 _ rfl; (with_reducible repeat (first | refine blk_drewN ?_ _ | refine blk_drew ?_ | refine blk_alloc ?_ _)); exact BK186.out⟩, ⟨wb2_ HB.out GE185.out GE186.out⟩⟩
   case round =>
    clear H'
    try clear c1
    try clear p1
    try clear q1
    try clear hx1
    try clear c2
    try clear p2
    try clear c3
    try clear c3b0
    try clear c4
    try clear c4b0
    try clear c6
    try clear c6b0
    try clear c6b1
    try clear p6
    try clear c12
    try clear hcz13_0
    try clear hcz13_1
    try clear hcz13_2
    try clear hcz13_3
    try clear hcz13_4
    try clear hcz13_5
    try clear hcz13_6
    try clear hcz13_7
    try clear hcz14_0
    try clear hcz14_1
    try clear hcz14_2
    try clear hcz14_3
    try clear hcz14_4
    try clear hcz14_5
    try clear hcz14_6
    try clear hcz14_7
    try clear hcz14_8
    try clear hcz9_0
    try clear hcz9_1
    try clear hcz9_2
    try clear hcz9_3
    try clear hcz9_4
    try clear hcz9_5
    try clear hcz9_6
    try clear hcz9_7
    try clear hcz9_8
    try clear hfz13_0
    try clear hfz13_1
    try clear hfz13_2
    try clear hfz13_3
    try clear hfz13_4
    try clear hfz13_5
    try clear hfz13_6
    try clear hfz13_7
    try clear hfz14_0
    try clear hfz14_1
    try clear hfz14_2
    try clear hfz14_3
    try clear hfz14_4
    try clear hfz14_5
    try clear hfz14_6
    try clear hfz14_7
    try clear hfz14_8
    try clear hfz9_0
    try clear hfz9_1
    try clear hfz9_2
    try clear hfz9_3
    try clear hfz9_4
    try clear hfz9_5
    try clear hfz9_6
    try clear hfz9_7
    try clear hfz9_8
    try clear hx172_0
    try clear p172
    try clear p2
    try clear q172
    obtain ⟨x12_2, rfl, HA, HK2, HO_0, HO_5, HO_6, HO_7, HO_186008, HO_187007, BK185, BK186, HB⟩ := hrel
    cases gk with
    | zero => exact absurd HA.out (by simp [bindleref08_Members.l1])
    | succ k2 =>
     have H := HA.out
     clear HA
     simp only [bindleref08_Members.l1] at H
     by_cases c15 : x12_2 < (x6_1.length : Int)
     ·rw [if_pos c15] at H
      have c15b0 : decide (x12_2 < (x6_1.length : Int)) = true := decide_eq_true c15
      clear c15
      by_cases c16 : 0 ≤ x12_2
      rotate_left
      ·rw [if_neg c16] at H
       exact absurd H (by simp)
      rw [if_pos c16] at H
      have c16b0 : decide (0 ≤ x12_2) = true := decide_eq_true c16
      clear c16
      by_cases c17 : (rdOf ByteArray.empty x6_1 x12_2).toList = t175.toList
      rotate_left
      ·rw [if_neg c17] at H
       have c17b0 : ((rdOf ByteArray.empty x6_1 x12_2).toList == t175.toList) = false := beq_eq_false_iff_ne.mpr c17
       have c17b1 : ((rdOf ByteArray.empty x6_1 x12_2).toList != t175.toList) = true := bne_iff_ne.mpr c17
       have H' := A0_ H
       clear H
       try go_wp2
       have n0_ := A0_ (V1_ HO_0.out)
       have n1_ := A0_ (Kd.N_drew HO_5.out)
       have n2_ := A0_ (R1_ HO_6.out)
       have n3_ := A0_ (R1_ HO_7.out)
       have n4_ := A0_ (V1_ HO_186008.out)
       have n5_ := A0_ (V1_ HO_187007.out)
       have n6_ := A0_ (blk_drew BK185.out)
       have n7_ := A0_ (blk_drew BK186.out)
       have n8_ := A0_ (b1_ HB.out)
       clear HO_0
       clear HO_5
       clear HO_6
       clear HO_7
       clear HO_186008
       clear HO_187007
       clear BK185
       clear BK186
       clear HB
       have HO_0 := n0_
       have HO_5 := n1_
       have HO_6 := n2_
       have HO_7 := n3_
       have HO_186008 := n4_
       have HO_187007 := n5_
       have BK185 := n6_
       have BK186 := n7_
       have HB := n8_
       clear n0_ n1_ n2_ n3_ n4_ n5_ n6_ n7_ n8_
       obtain ⟨Ao35, co35, eo35⟩ := Kd.R_slice HO_6.out
       (first | subst eo35 | (injection eo35 with f1_ f2_ f3_; have f4_ := f1_.symm; have f5_ := f3_.symm; clear f1_ f2_ f3_; subst f4_; subst f5_))
       have p187 : 0 ≤ (x12_2 : Int) := wd_
       have q187 : x12_2 < (x6_1.length : Int) := wd_
       obtain ⟨ad187, e187, hx187_0⟩ := Kd.at_string (Kd.R_reads' HO_6.out).2.2 x12_2 p187 q187
       cases e187
       replace p187 := eq_true p187
       replace q187 := eq_true q187
       refine start_ (n := 13) (S := fun w' => w'.cell? ⟨gb185, 0, none⟩ = some (.string t173) ∧ w'.cell? ⟨gb185, 1, none⟩ = some (.string t174) ∧ w'.cell? ⟨gb185, 2, none⟩ = some (.string t175) ∧ w'.cell? ⟨gb185, 3, none⟩ = some (.int .u8 t176) ∧ w'.cell? ⟨gb185, 4, none⟩ = some (.int .i64 t177) ∧ w'.cell? ⟨gb185, 5, none⟩ = some (.int .i64 t178) ∧ w'.cell? ⟨gb185, 6, none⟩ = some (.int .i64 t179) ∧ w'.cell? ⟨gb185, 7, none⟩ = some (.int .i64 t180) ∧ w'.cell? ⟨gb185, 8, none⟩ = some (.slice Ao10 t181.length co10) ∧ w'.cell? (ad187.add (x12_2).toNat) = some (.string (rdOf ByteArray.empty x6_1 x12_2))) (ds := []) q20_0 (by kernel_rfl) rfl rfl ⟨(bc_ BK185.out 0).trans rfl, (bc_ BK185.out 1).trans rfl, (bc_ BK185.out 2).trans rfl, (bc_ BK185.out 3).trans rfl, (bc_ BK185.out 4).trans rfl, (bc_ BK185.out 5).trans rfl, (bc_ BK185.out 6).trans rfl, (bc_ BK185.out 7).trans rfl, (bc_ BK185.out 8).trans rfl, hx187_0⟩ (fun hHeld => ?_); refine with_tabW bindleref08_Members.tab10 bindleref08_Members.bits10 (fun HT_ HW_ => ?_)
       generalize wr.drew = w34 at HO_0 HO_5 HO_6 HO_7 HO_186008 HO_187007 BK185 BK186 HB hx187_0 hHeld ⊢
       refine pur_ (i := 0) (N := some 42) q20_1 (any_of HT_.out (by kernel_rfl)) ?_
       refine pur_ (i := 1) (N := some 43) q20_2 (any_of HT_.out (by kernel_rfl)) ?_
       refine pur_ (i := 2) (N := some 44) q20_3 (any_of HT_.out (by kernel_rfl)) ?_
       refine pur_ (i := 3) (N := some 45) q20_4 (any_of HT_.out (by kernel_rfl)) ?_
       refine pur_ (i := 4) (N := some 46) q20_5 (any_of HT_.out (by kernel_rfl)) ?_
       refine pur_ (i := 5) (N := some 47) q20_6 (any_of HT_.out (by kernel_rfl)) ?_
       refine pur_ (i := 6) (N := some 48) q20_7 (any_of HT_.out (by kernel_rfl)) ?_
       refine pur_ (i := 7) (N := some 49) q20_8 (any_of HT_.out (by kernel_rfl)) ?_
       refine pur_ (i := 9) (N := some 51) q20_9 (any_of HT_.out (by kernel_rfl)) ?_
       refine take_ (i := 8) (N := some 50) (v := ?_) (a' := ?_) q20_10 rfl rfl (take_ofW HT_.out HW_.out (by kernel_rfl)) (fun _ _ _ h => h) (Or.inl ⟨by rfl, ?_⟩) hHeld ?_ ?_
       rotate_left
       ·rintro w' ⟨s0, s1, s2, s3, s4, s5, s6, s7, s8, s9⟩
        go_simp
        with_reducible rfl
       rotate_left
       ·simp only [Act.put, List.setIfInBounds_toArray, List.set_cons_zero, List.set_cons_succ, i64_w, i32_w]
        rfl
       refine take_ (i := 10) (N := some 52) (v := ?_) (a' := ?_) q20_11 rfl rfl (take_ofW HT_.out HW_.out (by kernel_rfl)) (fun _ _ _ h => h) (Or.inl ⟨by rfl, ?_⟩) hHeld ?_ ?_
       rotate_left
       ·rintro w' ⟨s0, s1, s2, s3, s4, s5, s6, s7, s8, s9⟩
        go_simp
        with_reducible rfl
       rotate_left
       ·simp only [Act.put, List.setIfInBounds_toArray, List.set_cons_zero, List.set_cons_succ, i64_w, i32_w]
        rfl
       refine pur_ (i := 11) (N := some 53) q20_12 (any_of HT_.out (by kernel_rfl)) ?_
       refine pur_ (i := 12) (N := some 54) q20_13 (any_of HT_.out (by kernel_rfl)) ?_
       refine done_ (done_of HT_.out (by kernel_rfl)) ?_
       try go_wp2
       go_roundg k2
       case measure => have := HK1.out; have := HK2.out; omega
       case rel => exact ⟨(wrap64 (x12_2 + 1)), wr_, H', ⟨by have := HK1.out; have := HK2.out; omega⟩, ⟨wV_ HO_0.out⟩, ⟨wN_ HO_5.out⟩, ⟨wR_ HO_6.out⟩, ⟨wR_ HO_7.out⟩, ⟨wV_ HO_186008.out⟩, ⟨wV_ HO_187007.out⟩, ⟨wB_ BK185.out⟩, ⟨wB_ BK186.out⟩, ⟨wb2_ HB.out GE185.out GE186.out⟩⟩
      rw [if_pos c17] at H
      have c17b0 : ((rdOf ByteArray.empty x6_1 x12_2).toList == t175.toList) = true := beq_iff_eq.mpr c17
      have c17b1 : ((rdOf ByteArray.empty x6_1 x12_2).toList != t175.toList) = false := bne_eq_false_iff_eq.mpr c17
      clear c17
      by_cases c18 : x12_2 < (x7_1.length : Int)
      rotate_left
      ·rw [if_neg c18] at H
       exact absurd H (by simp)
      rw [if_pos c18] at H
      have c18b0 : decide (x12_2 < (x7_1.length : Int)) = true := decide_eq_true c18
      clear c18
      obtain ⟨y189, hy189⟩ : ∃ y_ : List (S45), y_ = (([(⟨t173, rdOf ByteArray.empty x7_1 x12_2, 49, (⟨t177, t178, t179, t180⟩ : S38), ([] : List Int)⟩ : S45)] : List (S45))) := ⟨_, rfl⟩
      replace H : (if x5_1.length + y189.length < 1466015503701 then (bindleref08_Members.l0 k2 l0 l1 (x5_1 ++ y189) x6_1 x7_1 (wrap64 (x8_1 + 1))) else (none)) = some r := by first | (rw [hy189]; with_reducible exact H) | (have H2_ := (Option.bind_some _ _).symm.trans H; rw [hy189]; with_reducible exact H2_) | (have H2_ := (Option.bind_some _ _).symm.trans H; with_reducible exact H2_) | with_reducible exact H | (rw [hy189]; exact H) | exact H
      have Ny189 := A0_ hy189
      clear hy189
      by_cases c19 : x5_1.length + y189.length < 1466015503701
      rotate_left
      ·rw [if_neg c19] at H
       exact absurd H (by simp)
      rw [if_pos c19] at H
      have LMc19 := A0_ c19
      clear c19
      obtain ⟨y192, hy192⟩ : ∃ y_ : List (S45), y_ = (x5_1 ++ y189) := ⟨_, rfl⟩
      replace H : (bindleref08_Members.l0 k2 l0 l1 y192 x6_1 x7_1 (wrap64 (x8_1 + 1))) = some r := by first | (rw [hy192]; with_reducible exact H) | (have H2_ := (Option.bind_some _ _).symm.trans H; rw [hy192]; with_reducible exact H2_) | (have H2_ := (Option.bind_some _ _).symm.trans H; with_reducible exact H2_) | with_reducible exact H | (rw [hy192]; exact H) | exact H
      have Ny192 := A0_ hy192
      clear hy192
      have H' := A0_ H
      clear H
      try go_wp2
      have n0_ := A0_ (V1_ HO_0.out)
      have n1_ := A0_ (Kd.N_drew HO_5.out)
      have n2_ := A0_ (R1_ HO_6.out)
      have n3_ := A0_ (R1_ HO_7.out)
      have n4_ := A0_ (V1_ HO_186008.out)
      have n5_ := A0_ (V1_ HO_187007.out)
      have n6_ := A0_ (blk_drew BK185.out)
      have n7_ := A0_ (blk_drew BK186.out)
      have n8_ := A0_ (b1_ HB.out)
      clear HO_0
      clear HO_5
      clear HO_6
      clear HO_7
      clear HO_186008
      clear HO_187007
      clear BK185
      clear BK186
      clear HB
      have HO_0 := n0_
      have HO_5 := n1_
      have HO_6 := n2_
      have HO_7 := n3_
      have HO_186008 := n4_
      have HO_187007 := n5_
      have BK185 := n6_
      have BK186 := n7_
      have HB := n8_
      clear n0_ n1_ n2_ n3_ n4_ n5_ n6_ n7_ n8_
      obtain ⟨Ao21, co21, eo21⟩ := Kd.R_slice HO_6.out
      (first | subst eo21 | (injection eo21 with f1_ f2_ f3_; have f4_ := f1_.symm; have f5_ := f3_.symm; clear f1_ f2_ f3_; subst f4_; subst f5_))
      have p187 : 0 ≤ (x12_2 : Int) := wd_
      have q187 : x12_2 < (x6_1.length : Int) := wd_
      obtain ⟨ad187, e187, hx187_0⟩ := Kd.at_string (Kd.R_reads' HO_6.out).2.2 x12_2 p187 q187
      cases e187
      replace p187 := eq_true p187
      replace q187 := eq_true q187
      refine start_ (n := 13) (S := fun w' => w'.cell? ⟨gb185, 0, none⟩ = some (.string t173) ∧ w'.cell? ⟨gb185, 1, none⟩ = some (.string t174) ∧ w'.cell? ⟨gb185, 2, none⟩ = some (.string t175) ∧ w'.cell? ⟨gb185, 3, none⟩ = some (.int .u8 t176) ∧ w'.cell? ⟨gb185, 4, none⟩ = some (.int .i64 t177) ∧ w'.cell? ⟨gb185, 5, none⟩ = some (.int .i64 t178) ∧ w'.cell? ⟨gb185, 6, none⟩ = some (.int .i64 t179) ∧ w'.cell? ⟨gb185, 7, none⟩ = some (.int .i64 t180) ∧ w'.cell? ⟨gb185, 8, none⟩ = some (.slice Ao10 t181.length co10) ∧ w'.cell? (ad187.add (x12_2).toNat) = some (.string (rdOf ByteArray.empty x6_1 x12_2))) (ds := []) q20_0 (by kernel_rfl) rfl rfl ⟨(bc_ BK185.out 0).trans rfl, (bc_ BK185.out 1).trans rfl, (bc_ BK185.out 2).trans rfl, (bc_ BK185.out 3).trans rfl, (bc_ BK185.out 4).trans rfl, (bc_ BK185.out 5).trans rfl, (bc_ BK185.out 6).trans rfl, (bc_ BK185.out 7).trans rfl, (bc_ BK185.out 8).trans rfl, hx187_0⟩ (fun hHeld => ?_); refine with_tabW bindleref08_Members.tab10 bindleref08_Members.bits10 (fun HT_ HW_ => ?_)
      generalize wr.drew = w20 at HO_0 HO_5 HO_6 HO_7 HO_186008 HO_187007 BK185 BK186 HB hx187_0 hHeld ⊢
      refine pur_ (i := 0) (N := some 42) q20_1 (any_of HT_.out (by kernel_rfl)) ?_
      refine pur_ (i := 1) (N := some 43) q20_2 (any_of HT_.out (by kernel_rfl)) ?_
      refine pur_ (i := 2) (N := some 44) q20_3 (any_of HT_.out (by kernel_rfl)) ?_
      refine pur_ (i := 3) (N := some 45) q20_4 (any_of HT_.out (by kernel_rfl)) ?_
      refine pur_ (i := 4) (N := some 46) q20_5 (any_of HT_.out (by kernel_rfl)) ?_
      refine pur_ (i := 5) (N := some 47) q20_6 (any_of HT_.out (by kernel_rfl)) ?_
      refine pur_ (i := 6) (N := some 48) q20_7 (any_of HT_.out (by kernel_rfl)) ?_
      refine pur_ (i := 7) (N := some 49) q20_8 (any_of HT_.out (by kernel_rfl)) ?_
      refine pur_ (i := 9) (N := some 51) q20_9 (any_of HT_.out (by kernel_rfl)) ?_
      refine take_ (i := 8) (N := some 50) (v := ?_) (a' := ?_) q20_10 rfl rfl (take_ofW HT_.out HW_.out (by kernel_rfl)) (fun _ _ _ h => h) (Or.inl ⟨by rfl, ?_⟩) hHeld ?_ ?_
      rotate_left
      ·rintro w' ⟨s0, s1, s2, s3, s4, s5, s6, s7, s8, s9⟩
       go_simp
       with_reducible rfl
      rotate_left
      ·simp only [Act.put, List.setIfInBounds_toArray, List.set_cons_zero, List.set_cons_succ, i64_w, i32_w]
       rfl
      refine take_ (i := 10) (N := some 52) (v := ?_) (a' := ?_) q20_11 rfl rfl (take_ofW HT_.out HW_.out (by kernel_rfl)) (fun _ _ _ h => h) (Or.inl ⟨by rfl, ?_⟩) hHeld ?_ ?_
      rotate_left
      ·rintro w' ⟨s0, s1, s2, s3, s4, s5, s6, s7, s8, s9⟩
       go_simp
       with_reducible rfl
      rotate_left
      ·simp only [Act.put, List.setIfInBounds_toArray, List.set_cons_zero, List.set_cons_succ, i64_w, i32_w]
       rfl
      refine pur_ (i := 11) (N := some 53) q20_12 (any_of HT_.out (by kernel_rfl)) ?_
      refine pur_ (i := 12) (N := some 54) q20_13 (any_of HT_.out (by kernel_rfl)) ?_
      refine done_ (done_of HT_.out (by kernel_rfl)) ?_
      try go_wp2
      have n0_ := A0_ (V1_ HO_0.out)
      have n1_ := A0_ (Kd.N_drew HO_5.out)
      have n2_ := A0_ (R1_ HO_6.out)
      have n3_ := A0_ (R1_ HO_7.out)
      have n4_ := A0_ (V1_ HO_186008.out)
      have n5_ := A0_ (V1_ HO_187007.out)
      have n6_ := A0_ (blk_drew BK185.out)
      have n7_ := A0_ (blk_drew BK186.out)
      have n8_ := A0_ (b1_ HB.out)
      clear HO_0
      clear HO_5
      clear HO_6
      clear HO_7
      clear HO_186008
      clear HO_187007
      clear BK185
      clear BK186
      clear HB
      have HO_0 := n0_
      have HO_5 := n1_
      have HO_6 := n2_
      have HO_7 := n3_
      have HO_186008 := n4_
      have HO_187007 := n5_
      have BK185 := n6_
      have BK186 := n7_
      have HB := n8_
      clear n0_ n1_ n2_ n3_ n4_ n5_ n6_ n7_ n8_
      obtain ⟨Ao23, co23, eo23⟩ := Kd.R_slice HO_7.out
      (first | subst eo23 | (injection eo23 with f1_ f2_ f3_; have f4_ := f1_.symm; have f5_ := f3_.symm; clear f1_ f2_ f3_; subst f4_; subst f5_))
      have p188 : 0 ≤ (x12_2 : Int) := wd_
      have q188 : x12_2 < (x7_1.length : Int) := wd_
      obtain ⟨ad188, e188, hx188_0⟩ := Kd.at_string (Kd.R_reads' HO_7.out).2.2 x12_2 p188 q188
      cases e188
      replace p188 := eq_true p188
      replace q188 := eq_true q188
      refine start_ (n := 10) (S := fun w' => w'.cell? (ad188.add (x12_2).toNat) = some (.string (rdOf ByteArray.empty x7_1 x12_2))) (ds := []) q20_14 (by kernel_rfl) rfl rfl (hx188_0) (fun hHeld => ?_); refine with_tabW bindleref08_Members.tab13 bindleref08_Members.bits13 (fun HT_ HW_ => ?_)
      generalize w20.drew = w22 at HO_0 HO_5 HO_6 HO_7 HO_186008 HO_187007 BK185 BK186 HB hx188_0 hHeld ⊢
      refine pur_ (i := 0) (N := some 61) q20_15 (any_of HT_.out (by kernel_rfl)) ?_
      refine pur_ (i := 1) (N := some 62) q20_16 (any_of HT_.out (by kernel_rfl)) ?_
      refine pur_ (i := 2) (N := some 63) q20_17 (any_of HT_.out (by kernel_rfl)) ?_
      refine pur_ (i := 4) (N := some 65) q20_18 (any_of HT_.out (by kernel_rfl)) ?_
      refine take_ (i := 3) (N := some 64) (v := ?_) (a' := ?_) q20_19 rfl rfl (take_ofW HT_.out HW_.out (by kernel_rfl)) (fun _ _ _ h => h) (Or.inl ⟨by rfl, ?_⟩) hHeld ?_ ?_
      rotate_left
      ·intro w' s0
       go_simp
       with_reducible rfl
      rotate_left
      ·simp only [Act.put, List.setIfInBounds_toArray, List.set_cons_zero, List.set_cons_succ, i64_w, i32_w]
       rfl
      refine one_ (i := 5) (N := none) q20_20 rfl rfl (one_of HT_.out (by kernel_rfl)) (by decide) (fun K hK => ?_)
      have hs24 : w22.cell? ⟨gb186, 2, none⟩ = some (.int .u8 t176) := (bc_ BK186.out 2).trans rfl
      have hfs24 := bf_ BK186.out 2
      have hns24_0 := NB185_186.out
      have hms24_0 := NB186_185.out
      refine skip_ (w1 := ?_) (by rfl) rfl ?_ ?_
      rotate_left
      ·go_simp
       rfl
      refine hK.out _ _ (((cell_far (p := ⟨gb186, _, none⟩) (by first | exact Kd.own_blk (Kd.R_ne HO_7.out BK186.out (by decide)) | (rw [add_block]; exact Kd.own_blk (Kd.R_ne HO_7.out BK186.out (by decide))) | (show (Addr.add _ _).block ≠ _; rw [add_block]; exact Kd.own_blk (Kd.R_ne HO_7.out BK186.out (by decide))) | (dsimp only; exact Kd.own_blk (Kd.R_ne HO_7.out BK186.out (by decide)))) _).trans (hHeld))) (fun hHeld => ?_)
      clear hK K
      refine pur_ (i := 6) (N := some 66) q20_21 (any_of HT_.out (by kernel_rfl)) ?_
      refine one_ (i := 7) (N := none) q20_22 rfl rfl (one_of HT_.out (by kernel_rfl)) (by decide) (fun K hK => ?_)
      have hs25 : w22.cell? ⟨gb186, 1, none⟩ = some (.string t174) := (bc_ BK186.out 1).trans rfl
      have hfs25 := bf_ BK186.out 1
      have hns25_0 := NB185_186.out
      have hms25_0 := NB186_185.out
      refine skip_ (w1 := ?_) (by rfl) rfl ?_ ?_
      rotate_left
      ·go_simp
       rfl
      refine hK.out _ _ (((cell_far (p := ⟨gb186, _, none⟩) (by first | exact Kd.own_blk (Kd.R_ne HO_7.out BK186.out (by decide)) | (rw [add_block]; exact Kd.own_blk (Kd.R_ne HO_7.out BK186.out (by decide))) | (show (Addr.add _ _).block ≠ _; rw [add_block]; exact Kd.own_blk (Kd.R_ne HO_7.out BK186.out (by decide))) | (dsimp only; exact Kd.own_blk (Kd.R_ne HO_7.out BK186.out (by decide)))) _).trans (hHeld))) (fun hHeld => ?_)
      clear hK K
      refine pur_ (i := 8) (N := some 67) q20_23 (any_of HT_.out (by kernel_rfl)) ?_
      refine one_ (i := 9) (N := none) q20_24 rfl rfl (one_of HT_.out (by kernel_rfl)) (by decide) (fun K hK => ?_)
      have hs26 : w22.cell? ⟨gb186, 7, none⟩ = some (.slice Ao10 t181.length co10) := (bc_ BK186.out 7).trans rfl
      have hfs26 := bf_ BK186.out 7
      have hns26_0 := NB185_186.out
      have hms26_0 := NB186_185.out
      refine skip_ (w1 := ?_) (by rfl) rfl ?_ ?_
      rotate_left
      ·go_simp
       rfl
      refine hK.out _ _ (((cell_far (p := ⟨gb186, _, none⟩) (by first | exact Kd.own_blk (Kd.R_ne HO_7.out BK186.out (by decide)) | (rw [add_block]; exact Kd.own_blk (Kd.R_ne HO_7.out BK186.out (by decide))) | (show (Addr.add _ _).block ≠ _; rw [add_block]; exact Kd.own_blk (Kd.R_ne HO_7.out BK186.out (by decide))) | (dsimp only; exact Kd.own_blk (Kd.R_ne HO_7.out BK186.out (by decide)))) _).trans (hHeld))) (fun hHeld => ?_)
      clear hK K
      refine done_ (done_of HT_.out (by kernel_rfl)) ?_
      have n0_ : Aside0 (Kd.V k40 40 (((w22.setCell ⟨gb186, 2, none⟩ (.int .u8 49)).setCell ⟨gb186, 1, none⟩ (.string (rdOf ByteArray.empty x7_1 x12_2))).setCell ⟨gb186, 7, none⟩ (.slice none 0 0)) w.heap.size (fun k_ => (P0_ k_ ∨ w.heap.size ≤ k_) ∧ some k_ ≠ (u5 : Value).ownBlock ∧ some k_ ≠ (.slice (some ad187) x6_1.length co21 : Value).ownBlock ∧ some k_ ≠ (.slice (some ad188) x7_1.length co23 : Value).ownBlock ∧ k_ ≠ gb185 ∧ k_ ≠ gb186) (.slice A0 l0.length c0) l0) := ⟨by (with_reducible repeat (first | apply Va_ | apply VN_ | apply V1_)); exact Kd.V_mono (Kd.V_far (p := ⟨gb186, 7, none⟩) (Kd.V_far (p := ⟨gb186, 1, none⟩) (Kd.V_far (p := ⟨gb186, 2, none⟩) (Kd.V_mono HO_0.out (fun k_ hk => (⟨hk, hk.2.2.2.2.2⟩ : _ ∧ k_ ≠ gb186))) (fun _ hk => hk.2) (.int .u8 49)) (fun _ hk => hk.2) (.string (rdOf ByteArray.empty x7_1 x12_2))) (fun _ hk => hk.2) (.slice none 0 0)) (fun _ hk => ⟨hk.1.1, ⟨hk.1.2.1, ⟨hk.1.2.2.1, ⟨hk.1.2.2.2.1, ⟨hk.1.2.2.2.2.1, hk.1.2.2.2.2.2⟩⟩⟩⟩⟩)⟩
      have n1_ : Aside0 (Kd.N k45 45 (((w22.setCell ⟨gb186, 2, none⟩ (.int .u8 49)).setCell ⟨gb186, 1, none⟩ (.string (rdOf ByteArray.empty x7_1 x12_2))).setCell ⟨gb186, 7, none⟩ (.slice none 0 0)) w.heap.size (fun k_ => (P0_ k_ ∨ w.heap.size ≤ k_) ∧ some k_ ≠ (.slice (some ad187) x6_1.length co21 : Value).ownBlock ∧ some k_ ≠ (.slice (some ad188) x7_1.length co23 : Value).ownBlock ∧ k_ ≠ gb185 ∧ k_ ≠ gb186) u5 x5_1) := ⟨by (with_reducible repeat (first | apply Kd.N_alloc | apply Kd.N_drewN | apply Kd.N_drew)); exact Kd.N_mono (Kd.N_far (p := ⟨gb186, 7, none⟩) (Kd.N_far (p := ⟨gb186, 1, none⟩) (Kd.N_far (p := ⟨gb186, 2, none⟩) (Kd.N_mono HO_5.out (fun k_ hk => (⟨hk, hk.2.2.2.2⟩ : _ ∧ k_ ≠ gb186))) (fun _ hk => hk.2) (.int .u8 49)) (fun _ hk => hk.2) (.string (rdOf ByteArray.empty x7_1 x12_2))) (fun _ hk => hk.2) (.slice none 0 0)) (fun _ hk => ⟨hk.1.1, ⟨hk.1.2.1, ⟨hk.1.2.2.1, ⟨hk.1.2.2.2.1, hk.1.2.2.2.2⟩⟩⟩⟩)⟩
      have n2_ : Aside0 (Kd.R Kd.string 9 (((w22.setCell ⟨gb186, 2, none⟩ (.int .u8 49)).setCell ⟨gb186, 1, none⟩ (.string (rdOf ByteArray.empty x7_1 x12_2))).setCell ⟨gb186, 7, none⟩ (.slice none 0 0)) w.heap.size (fun k_ => (w.heap.size ≤ k_) ∧ some k_ ≠ (.slice (some ad188) x7_1.length co23 : Value).ownBlock) (.slice (some ad187) x6_1.length co21) x6_1) := ⟨by (with_reducible repeat (first | apply Ra_ | apply RN_ | apply R1_)); exact Kd.R_mono (Kd.R_far (p := ⟨gb186, 7, none⟩) (Kd.R_far (p := ⟨gb186, 1, none⟩) (Kd.R_far (p := ⟨gb186, 2, none⟩) (Kd.R_types HO_6.out BK186.out (by decide)) (fun _ hk => hk.2) (.int .u8 49)) (fun _ hk => hk.2) (.string (rdOf ByteArray.empty x7_1 x12_2))) (fun _ hk => hk.2) (.slice none 0 0)) (fun _ hk => ⟨hk.1.1, hk.1.2⟩)⟩
      have n3_ : Aside0 (Kd.R Kd.string 9 (((w22.setCell ⟨gb186, 2, none⟩ (.int .u8 49)).setCell ⟨gb186, 1, none⟩ (.string (rdOf ByteArray.empty x7_1 x12_2))).setCell ⟨gb186, 7, none⟩ (.slice none 0 0)) w.heap.size (fun k_ => (w.heap.size ≤ k_) ∧ some k_ ≠ (.slice (some ad187) x6_1.length co21 : Value).ownBlock) (.slice (some ad188) x7_1.length co23) x7_1) := ⟨by (with_reducible repeat (first | apply Ra_ | apply RN_ | apply R1_)); exact Kd.R_mono (Kd.R_far (p := ⟨gb186, 7, none⟩) (Kd.R_far (p := ⟨gb186, 1, none⟩) (Kd.R_far (p := ⟨gb186, 2, none⟩) (Kd.R_types HO_7.out BK186.out (by decide)) (fun _ hk => hk.2) (.int .u8 49)) (fun _ hk => hk.2) (.string (rdOf ByteArray.empty x7_1 x12_2))) (fun _ hk => hk.2) (.slice none 0 0)) (fun _ hk => ⟨hk.1.1, hk.1.2⟩)⟩
      have n4_ : Aside0 (Kd.V (Kd.int .u8) 5 (((w22.setCell ⟨gb186, 2, none⟩ (.int .u8 49)).setCell ⟨gb186, 1, none⟩ (.string (rdOf ByteArray.empty x7_1 x12_2))).setCell ⟨gb186, 7, none⟩ (.slice none 0 0)) w.heap.size (fun k_ => (P0_ k_ ∨ w.heap.size ≤ k_) ∧ some k_ ≠ (u5 : Value).ownBlock ∧ some k_ ≠ (.slice (some ad187) x6_1.length co21 : Value).ownBlock ∧ some k_ ≠ (.slice (some ad188) x7_1.length co23 : Value).ownBlock ∧ k_ ≠ gb185 ∧ k_ ≠ gb186) (.slice Ao10 t181.length co10) t181) := ⟨by (with_reducible repeat (first | apply Va_ | apply VN_ | apply V1_)); exact Kd.V_mono (Kd.V_far (p := ⟨gb186, 7, none⟩) (Kd.V_far (p := ⟨gb186, 1, none⟩) (Kd.V_far (p := ⟨gb186, 2, none⟩) (Kd.V_mono HO_186008.out (fun k_ hk => (⟨hk, hk.2.2.2.2.2⟩ : _ ∧ k_ ≠ gb186))) (fun _ hk => hk.2) (.int .u8 49)) (fun _ hk => hk.2) (.string (rdOf ByteArray.empty x7_1 x12_2))) (fun _ hk => hk.2) (.slice none 0 0)) (fun _ hk => ⟨hk.1.1, ⟨hk.1.2.1, ⟨hk.1.2.2.1, ⟨hk.1.2.2.2.1, ⟨hk.1.2.2.2.2.1, hk.1.2.2.2.2.2⟩⟩⟩⟩⟩)⟩
      have n5_ : Aside0 (Kd.V (Kd.int .u8) 5 (((w22.setCell ⟨gb186, 2, none⟩ (.int .u8 49)).setCell ⟨gb186, 1, none⟩ (.string (rdOf ByteArray.empty x7_1 x12_2))).setCell ⟨gb186, 7, none⟩ (.slice none 0 0)) w.heap.size (fun k_ => (P0_ k_ ∨ w.heap.size ≤ k_) ∧ some k_ ≠ (u5 : Value).ownBlock ∧ some k_ ≠ (.slice (some ad187) x6_1.length co21 : Value).ownBlock ∧ some k_ ≠ (.slice (some ad188) x7_1.length co23 : Value).ownBlock ∧ k_ ≠ gb185 ∧ k_ ≠ gb186) (.slice Ao10 t181.length co10) t181) := ⟨by (with_reducible repeat (first | apply Va_ | apply VN_ | apply V1_)); exact Kd.V_mono (Kd.V_far (p := ⟨gb186, 7, none⟩) (Kd.V_far (p := ⟨gb186, 1, none⟩) (Kd.V_far (p := ⟨gb186, 2, none⟩) (Kd.V_mono HO_187007.out (fun k_ hk => (⟨hk, hk.2.2.2.2.2⟩ : _ ∧ k_ ≠ gb186))) (fun _ hk => hk.2) (.int .u8 49)) (fun _ hk => hk.2) (.string (rdOf ByteArray.empty x7_1 x12_2))) (fun _ hk => hk.2) (.slice none 0 0)) (fun _ hk => ⟨hk.1.1, ⟨hk.1.2.1, ⟨hk.1.2.2.1, ⟨hk.1.2.2.2.1, ⟨hk.1.2.2.2.2.1, hk.1.2.2.2.2.2⟩⟩⟩⟩⟩)⟩
      have n6_ : Aside0 ((((w22.setCell ⟨gb186, 2, none⟩ (.int .u8 49)).setCell ⟨gb186, 1, none⟩ (.string (rdOf ByteArray.empty x7_1 x12_2))).setCell ⟨gb186, 7, none⟩ (.slice none 0 0)).heap[gb185]? = some (.cells #[.string t173, .string t174, .string t175, .int .u8 t176, .int .i64 t177, .int .i64 t178, .int .i64 t179, .int .i64 t180, .slice Ao10 t181.length co10] 40 (0, 0))) := ⟨by (with_reducible repeat (first | refine blk_drewN ?_ _ | refine blk_drew ?_ | refine blk_alloc ?_ _)); refine blk_far ?_ NB185_186.out _; (with_reducible repeat (first | refine blk_drewN ?_ _ | refine blk_drew ?_ | refine blk_alloc ?_ _)); refine blk_far ?_ NB185_186.out _; (with_reducible repeat (first | refine blk_drewN ?_ _ | refine blk_drew ?_ | refine blk_alloc ?_ _)); refine blk_far ?_ NB185_186.out _; (with_reducible repeat (first | refine blk_drewN ?_ _ | refine blk_drew ?_ | refine blk_alloc ?_ _)); exact BK185.out⟩
      have n7_ : Aside0 ((((w22.setCell ⟨gb186, 2, none⟩ (.int .u8 49)).setCell ⟨gb186, 1, none⟩ (.string (rdOf ByteArray.empty x7_1 x12_2))).setCell ⟨gb186, 7, none⟩ (.slice none 0 0)).heap[gb186]? = some (.cells #[.string t173, .string (rdOf ByteArray.empty x7_1 x12_2), .int .u8 49, .int .i64 t177, .int .i64 t178, .int .i64 t179, .int .i64 t180, .slice none 0 0] 45 (0, 0))) := ⟨by (with_reducible repeat (first | refine blk_drewN ?_ _ | refine blk_drew ?_ | refine blk_alloc ?_ _)); refine blk_put (cs := #[.string t173, .string (rdOf ByteArray.empty x7_1 x12_2), .int .u8 49, .int .i64 t177, .int .i64 t178, .int .i64 t179, .int .i64 t180, .slice Ao10 t181.length co10]) ?_ 7 _ rfl; (with_reducible repeat (first | refine blk_drewN ?_ _ | refine blk_drew ?_ | refine blk_alloc ?_ _)); refine blk_put (cs := #[.string t173, .string t174, .int .u8 49, .int .i64 t177, .int .i64 t178, .int .i64 t179, .int .i64 t180, .slice Ao10 t181.length co10]) ?_ 1 _ rfl; (with_reducible repeat (first | refine blk_drewN ?_ _ | refine blk_drew ?_ | refine blk_alloc ?_ _)); refine blk_put (cs := #[.string t173, .string t174, .int .u8 t176, .int .i64 t177, .int .i64 t178, .int .i64 t179, .int .i64 t180, .slice Ao10 t181.length co10]) ?_ 2 _ rfl; (with_reducible repeat (first | refine blk_drewN ?_ _ | refine blk_drew ?_ | refine blk_alloc ?_ _)); exact BK186.out⟩
      have n8_ : Aside0 (Below w.heap.size w (((w22.setCell ⟨gb186, 2, none⟩ (.int .u8 49)).setCell ⟨gb186, 1, none⟩ (.string (rdOf ByteArray.empty x7_1 x12_2))).setCell ⟨gb186, 7, none⟩ (.slice none 0 0))) := ⟨wb2_ HB.out GE185.out GE186.out⟩
      (try clear HO_0)
      (try clear HO_5)
      (try clear HO_6)
      (try clear HO_7)
      (try clear HO_186008)
      (try clear HO_187007)
      (try clear BK185)
      (try clear BK186)
      (try clear HB)
      generalize (((w22.setCell ⟨gb186, 2, none⟩ (.int .u8 49)).setCell ⟨gb186, 1, none⟩ (.string (rdOf ByteArray.empty x7_1 x12_2))).setCell ⟨gb186, 7, none⟩ (.slice none 0 0)) = w27 at n0_ n1_ n2_ n3_ n4_ n5_ n6_ n7_ n8_ ⊢
      have HO_0 := n0_
      have HO_5 := n1_
      have HO_6 := n2_
      have HO_7 := n3_
      have HO_186008 := n4_
      have HO_187007 := n5_
      have BK185 := n6_
      have BK186 := n7_
      have HB := n8_
      clear n0_ n1_ n2_ n3_ n4_ n5_ n6_ n7_ n8_
      have hnb28 := NB186_185.out
      have hnc28 := NB185_186.out
      have hcz29_0 : w27.cell? ⟨gb186, 0, none⟩ = some (.string t173) := (bc_ BK186.out 0).trans rfl
      have hcz29_1 : w27.cell? ⟨gb186, 1, none⟩ = some (.string (rdOf ByteArray.empty x7_1 x12_2)) := (bc_ BK186.out 1).trans rfl
      have hcz29_2 : w27.cell? ⟨gb186, 2, none⟩ = some (.int .u8 49) := (bc_ BK186.out 2).trans rfl
      have hcz29_3 : w27.cell? ⟨gb186, 3, none⟩ = some (.int .i64 t177) := (bc_ BK186.out 3).trans rfl
      have hcz29_4 : w27.cell? ⟨gb186, 4, none⟩ = some (.int .i64 t178) := (bc_ BK186.out 4).trans rfl
      have hcz29_5 : w27.cell? ⟨gb186, 5, none⟩ = some (.int .i64 t179) := (bc_ BK186.out 5).trans rfl
      have hcz29_6 : w27.cell? ⟨gb186, 6, none⟩ = some (.int .i64 t180) := (bc_ BK186.out 6).trans rfl
      have hcz29_7 : w27.cell? ⟨gb186, 7, none⟩ = some (.slice none 0 0) := (bc_ BK186.out 7).trans rfl
      have hfz29_0 := bf_ BK186.out 0
      have hfz29_1 := bf_ BK186.out 1
      have hfz29_2 := bf_ BK186.out 2
      have hfz29_3 := bf_ BK186.out 3
      have hfz29_4 := bf_ BK186.out 4
      have hfz29_5 := bf_ BK186.out 5
      have hfz29_6 := bf_ BK186.out 6
      have hfz29_7 := bf_ BK186.out 7
      try go_wp2_with (first | ((with_reducible refine gate_dst (N := 80) rfl ?_); refine Kd.N_lit k45 _ 45 ?hg (N' := 80) ?hd (xs := ([(⟨t173, rdOf ByteArray.empty x7_1 x12_2, 49, (⟨t177, t178, t179, t180⟩ : S38), ([] : List Int)⟩ : S45)] : List (S45))) (inner := [.string t173, .string (rdOf ByteArray.empty x7_1 x12_2), .int .u8 49, .int .i64 t177, .int .i64 t178, .int .i64 t179, .int .i64 t180, .slice none 0 0]) (ok := (fun k_ => (P0_ k_ ∨ w.heap.size ≤ k_) ∧ some k_ ≠ (u5 : Value).ownBlock ∧ some k_ ≠ (.slice (some ad187) x6_1.length co21 : Value).ownBlock ∧ some k_ ≠ (.slice (some ad188) x7_1.length co23 : Value).ownBlock ∧ k_ ≠ gb185 ∧ k_ ≠ gb186)) (okp := (fun k_ => (P0_ k_ ∨ w.heap.size ≤ k_) ∧ some k_ ≠ (u5 : Value).ownBlock ∧ some k_ ≠ (.slice (some ad187) x6_1.length co21 : Value).ownBlock ∧ some k_ ≠ (.slice (some ad188) x7_1.length co23 : Value).ownBlock ∧ k_ ≠ gb185 ∧ k_ ≠ gb186)) ?hr ?hp (fun _ hk => hk) ((show ∀ k_, w27.heap.size ≤ k_ → (fun k_ => (P0_ k_ ∨ w.heap.size ≤ k_) ∧ some k_ ≠ (u5 : Value).ownBlock ∧ some k_ ≠ (.slice (some ad187) x6_1.length co21 : Value).ownBlock ∧ some k_ ≠ (.slice (some ad188) x7_1.length co23 : Value).ownBlock ∧ k_ ≠ gb185 ∧ k_ ≠ gb186) k_ from fun k_ hk => ⟨(.inr (Nat.le_trans (below_size (wb2_ HB.out GE185.out GE186.out)) hk)), Kd.fresh' (Kd.N_lt (wN_ HO_5.out)) k_ hk, Kd.fresh' (Kd.R_lt (wR_ HO_6.out)) k_ hk, Kd.fresh' (Kd.R_lt (wR_ HO_7.out)) k_ hk, Kd.freshB (g := gb185) (o := .cells #[.string t173, .string t174, .string t175, .int .u8 t176, .int .i64 t177, .int .i64 t178, .int .i64 t179, .int .i64 t180, .slice Ao10 t181.length co10] 40 (0, 0)) (wB_ BK185.out) k_ hk, Kd.freshB (g := gb186) (o := .cells #[.string t173, .string (rdOf ByteArray.empty x7_1 x12_2), .int .u8 49, .int .i64 t177, .int .i64 t178, .int .i64 t179, .int .i64 t180, .slice none 0 0] 45 (0, 0)) (wB_ BK186.out) k_ hk⟩) _ (Nat.le_refl _)) (Below.refl _ _) (Nat.le_refl _) (by simp) ?_; (case hd => rfl); (case hg => rfl); (case hr => first | (go_simp; done) | (go_simp; rfl)); (case hp => exact (Reps.c8 (show Kd.FK k45 _ _ (⟨t173, rdOf ByteArray.empty x7_1 x12_2, 49, (⟨t177, t178, t179, t180⟩ : S38), ([] : List Int)⟩ : S45) [.string t173, .string (rdOf ByteArray.empty x7_1 x12_2), .int .u8 49, .int .i64 t177, .int .i64 t178, .int .i64 t179, .int .i64 t180, .slice none 0 0] from (k45_mkF _ _ (⟨t173, rdOf ByteArray.empty x7_1 x12_2, 49, (⟨t177, t178, t179, t180⟩ : S38), ([] : List Int)⟩ : S45) (Nat.le_refl _) (Kd.F_nil _ _ _))) (Reps.none _ _))); intro v190 w30 ho31 hb hg_ hnew_; clear hg_ hnew_; (first | rw [← Ny189.out] at ho31 | (simp only [Int.reduceToNat] at ho31; rw [← Ny189.out] at ho31)); have n0_ := A0_ (Kd.V_elder' (wV_ HO_0.out) (Kd.N_base ho31) hb); have n1_ := A0_ (Kd.N_elder' (wN_ HO_5.out) (Kd.N_base ho31) hb); have n2_ := A0_ (Rb_ (wR_ HO_6.out) hb); have n3_ := A0_ (Rb_ (wR_ HO_7.out) hb); have n4_ := A0_ (Kd.V_elder' (wV_ HO_186008.out) (Kd.N_base ho31) hb); have n5_ := A0_ (Kd.V_elder' (wV_ HO_187007.out) (Kd.N_base ho31) hb); have n6_ := A0_ (Kd.N_lower ho31 (below_size (wb2_ HB.out GE185.out GE186.out))); have n7_ := A0_ (blk_below (g := gb185) (o := .cells #[.string t173, .string t174, .string t175, .int .u8 t176, .int .i64 t177, .int .i64 t178, .int .i64 t179, .int .i64 t180, .slice Ao10 t181.length co10] 40 (0, 0)) (wB_ BK185.out) hb); have n8_ := A0_ (blk_below (g := gb186) (o := .cells #[.string t173, .string (rdOf ByteArray.empty x7_1 x12_2), .int .u8 49, .int .i64 t177, .int .i64 t178, .int .i64 t179, .int .i64 t180, .slice none 0 0] 45 (0, 0)) (wB_ BK186.out) hb); have n9_ := A0_ (below_step (wb2_ HB.out GE185.out GE186.out) hb); clear HO_0; clear HO_5; clear HO_6; clear HO_7; clear HO_186008; clear HO_187007; clear BK185; clear BK186; clear HB; have HO_0 := n0_; have HO_5 := n1_; have HO_6 := n2_; have HO_7 := n3_; have HO_186008 := n4_; have HO_187007 := n5_; have HO191 := n6_; have BK185 := n7_; have BK186 := n8_; have HB := n9_; clear n0_ n1_ n2_ n3_ n4_ n5_ n6_ n7_ n8_ n9_; clear hb ho31; obtain ⟨Ao33, co33, eo33⟩ := Kd.N_slice HO191.out; subst eo33) | ((with_reducible refine gate_builtin (b := .append) (xs := #[.tmp 78, .tmp 80]) rfl ?_); at_builtin; refine Kd.N_append_rows k45 (w0 := w) w.heap.size rfl (.tmp 78) (.tmp 80) 28 45 (.agg #[(.string ⟨#[]⟩), (.string ⟨#[]⟩), (.int .u8 0), (.int .i64 0), (.int .i64 0), (.int .i64 0), (.int .i64 0), (.slice none 0 0)]) 96 rfl Tryd.underlying28 info45 rfl (by decide) (by omega) u5 x5_1 y189 _ _ _ (fun k_ => (P0_ k_ ∨ w.heap.size ≤ k_) ∧ some k_ ≠ (.slice (some ad187) x6_1.length co21 : Value).ownBlock ∧ some k_ ≠ (.slice (some ad188) x7_1.length co23 : Value).ownBlock ∧ k_ ≠ gb185 ∧ k_ ≠ gb186) (fun k_ => ((fun k_ => (P0_ k_ ∨ w.heap.size ≤ k_) ∧ some k_ ≠ (.slice (some ad187) x6_1.length co21 : Value).ownBlock ∧ some k_ ≠ (.slice (some ad188) x7_1.length co23 : Value).ownBlock ∧ k_ ≠ gb185 ∧ k_ ≠ gb186)) k_ ∧ some k_ ≠ (u5 : Value).ownBlock) rfl rfl ?aO ?aR (fun _ hk => hk) ?aF ?aB ?aS ?aL ?_; (case aR => exact (by skip; exact Kd.N_F (Kd.N_mono (ok' := (fun k_ => ((fun k_ => (P0_ k_ ∨ w.heap.size ≤ k_) ∧ some k_ ≠ (.slice (some ad187) x6_1.length co21 : Value).ownBlock ∧ some k_ ≠ (.slice (some ad188) x7_1.length co23 : Value).ownBlock ∧ k_ ≠ gb185 ∧ k_ ≠ gb186)) k_ ∧ some k_ ≠ (u5 : Value).ownBlock)) (HO191.out) (fun k_ hk => ⟨⟨hk.1, ⟨hk.2.2.1, ⟨hk.2.2.2.1, ⟨hk.2.2.2.2.1, hk.2.2.2.2.2⟩⟩⟩⟩, hk.2.1⟩)))); (case aB => exact (wb2_ HB.out GE185.out GE186.out)); (case aF => exact (fun k_ hk => ⟨(.inr (Nat.le_trans (below_size (wb2_ HB.out GE185.out GE186.out)) hk)), Kd.fresh' (Kd.R_lt (wR_ HO_6.out)) k_ hk, Kd.fresh' (Kd.R_lt (wR_ HO_7.out)) k_ hk, Kd.freshB (g := gb185) (o := .cells #[.string t173, .string t174, .string t175, .int .u8 t176, .int .i64 t177, .int .i64 t178, .int .i64 t179, .int .i64 t180, .slice Ao10 t181.length co10] 40 (0, 0)) (wB_ BK185.out) k_ hk, Kd.freshB (g := gb186) (o := .cells #[.string t173, .string (rdOf ByteArray.empty x7_1 x12_2), .int .u8 49, .int .i64 t177, .int .i64 t178, .int .i64 t179, .int .i64 t180, .slice none 0 0] 45 (0, 0)) (wB_ BK186.out) k_ hk⟩)); (case aO => exact (by (with_reducible repeat (first | apply Kd.N_alloc | apply Kd.N_drewN | apply Kd.N_drew)); exact Kd.N_mono HO_5.out (fun _ hk => ⟨hk.1.1, ⟨hk.1.2.1, ⟨hk.1.2.2.1, ⟨hk.1.2.2.2.1, hk.1.2.2.2.2⟩⟩⟩⟩))); (case aS => exact (below_size (wb2_ HB.out GE185.out GE186.out))); (case aL => have := LMc19.out; omega); intro v193 w32 ho hb hg hat; rw [← Ny192.out] at ho; have n0_ := A0_ (Kd.V_afterv (ok := (fun k_ => (P0_ k_ ∨ w.heap.size ≤ k_) ∧ some k_ ≠ (.slice (some ad187) x6_1.length co21 : Value).ownBlock ∧ some k_ ≠ (.slice (some ad188) x7_1.length co23 : Value).ownBlock ∧ some k_ ≠ (.slice Ao33 y189.length co33 : Value).ownBlock ∧ k_ ≠ gb185 ∧ k_ ≠ gb186)) (by (with_reducible repeat (first | apply Va_ | apply VN_ | apply V1_)); exact Kd.V_mono HO_0.out (fun _ hk => ⟨⟨hk.1.1, ⟨hk.1.2.2.1, ⟨hk.1.2.2.2.1, ⟨hk.2, ⟨hk.1.2.2.2.2.1, hk.1.2.2.2.2.2⟩⟩⟩⟩⟩, hk.1.2.1⟩)) hg hat); have n1_ := A0_ (Kd.R_over' (wR_ HO_6.out) (Kd.N_typed (wN_ HO_5.out)) (by decide) hg); have n2_ := A0_ (Kd.R_over' (wR_ HO_7.out) (Kd.N_typed (wN_ HO_5.out)) (by decide) hg); have n3_ := A0_ (Kd.V_afterv (ok := (fun k_ => (P0_ k_ ∨ w.heap.size ≤ k_) ∧ some k_ ≠ (.slice (some ad187) x6_1.length co21 : Value).ownBlock ∧ some k_ ≠ (.slice (some ad188) x7_1.length co23 : Value).ownBlock ∧ some k_ ≠ (.slice Ao33 y189.length co33 : Value).ownBlock ∧ k_ ≠ gb185 ∧ k_ ≠ gb186)) (by (with_reducible repeat (first | apply Va_ | apply VN_ | apply V1_)); exact Kd.V_mono HO_186008.out (fun _ hk => ⟨⟨hk.1.1, ⟨hk.1.2.2.1, ⟨hk.1.2.2.2.1, ⟨hk.2, ⟨hk.1.2.2.2.2.1, hk.1.2.2.2.2.2⟩⟩⟩⟩⟩, hk.1.2.1⟩)) hg hat); have n4_ := A0_ (Kd.V_afterv (ok := (fun k_ => (P0_ k_ ∨ w.heap.size ≤ k_) ∧ some k_ ≠ (.slice (some ad187) x6_1.length co21 : Value).ownBlock ∧ some k_ ≠ (.slice (some ad188) x7_1.length co23 : Value).ownBlock ∧ some k_ ≠ (.slice Ao33 y189.length co33 : Value).ownBlock ∧ k_ ≠ gb185 ∧ k_ ≠ gb186)) (by (with_reducible repeat (first | apply Va_ | apply VN_ | apply V1_)); exact Kd.V_mono HO_187007.out (fun _ hk => ⟨⟨hk.1.1, ⟨hk.1.2.2.1, ⟨hk.1.2.2.2.1, ⟨hk.2, ⟨hk.1.2.2.2.2.1, hk.1.2.2.2.2.2⟩⟩⟩⟩⟩, hk.1.2.1⟩)) hg hat); have n5_ := A0_ (blk_grown (g := gb185) (o := .cells #[.string t173, .string t174, .string t175, .int .u8 t176, .int .i64 t177, .int .i64 t178, .int .i64 t179, .int .i64 t180, .slice Ao10 t181.length co10] 40 (0, 0)) (wB_ BK185.out) hg (Kd.N_ne HO_5.out BK185.out (by decide))); have n6_ := A0_ (blk_grown (g := gb186) (o := .cells #[.string t173, .string (rdOf ByteArray.empty x7_1 x12_2), .int .u8 49, .int .i64 t177, .int .i64 t178, .int .i64 t179, .int .i64 t180, .slice none 0 0] 45 (0, 0)) (wB_ BK186.out) hg (Kd.N_away HO_5.out (fun _ hk => hk.1.2.2.2.2))); have n7_ := A0_ (Kd.N_afterv (ok := (fun k_ => (P0_ k_ ∨ w.heap.size ≤ k_) ∧ some k_ ≠ (.slice (some ad187) x6_1.length co21 : Value).ownBlock ∧ some k_ ≠ (.slice (some ad188) x7_1.length co23 : Value).ownBlock ∧ k_ ≠ gb185 ∧ k_ ≠ gb186)) (by (with_reducible repeat (first | apply Kd.N_alloc | apply Kd.N_drewN | apply Kd.N_drew)); exact Kd.N_mono HO191.out (fun _ hk => ⟨⟨hk.1, ⟨hk.2.2.1, ⟨hk.2.2.2.1, ⟨hk.2.2.2.2.1, hk.2.2.2.2.2⟩⟩⟩⟩, hk.2.1⟩)) hg hat); have n8_ := A0_ (hb); have n9_ := A0_ (ho); clear HO_0; clear HO_6; clear HO_7; clear HO_186008; clear HO_187007; clear BK185; clear BK186; clear HO191; clear HB; clear HO_5; have HO_0 := n0_; have HO_6 := n1_; have HO_7 := n2_; have HO_186008 := n3_; have HO_187007 := n4_; have BK185 := n5_; have BK186 := n6_; have HO191 := n7_; have HB := n8_; have HO194 := n9_; clear n0_ n1_ n2_ n3_ n4_ n5_ n6_ n7_ n8_ n9_; clear ho hb hg hat))
      go_roundg k2
      case measure => have := HK1.out; have := HK2.out; omega
      case rel => exact ⟨(y192), (x6_1), (x7_1), (wrap64 (x8_1 + 1)), wr_, H', ⟨by have := HK1.out; have := HK2.out; omega⟩, ⟨by (with_reducible repeat (first | apply Va_ | apply VN_ | apply V1_)); exact Kd.V_mono HO_0.out (fun _ hk => ⟨hk.1.1, ⟨hk.2, ⟨hk.1.2.1, hk.1.2.2.1⟩⟩⟩)⟩, ⟨by (with_reducible repeat (first | apply Kd.N_alloc | apply Kd.N_drewN | apply Kd.N_drew)); exact Kd.N_mono HO194.out (fun _ hk => ⟨hk.1, ⟨hk.2.1, hk.2.2.1⟩⟩)⟩, ⟨wR_ HO_6.out⟩, ⟨wR_ HO_7.out⟩, ⟨wb2_ HB.out GE185.out GE186.out⟩⟩
     rw [if_neg c15] at H
     have c15b0 : decide (x12_2 < (x6_1.length : Int)) = false := decide_eq_false c15
     clear c15
     obtain ⟨y195, hy195⟩ : ∃ y_ : List ByteArray, y_ = (([t175] : List ByteArray)) := ⟨_, rfl⟩
     replace H : (if x6_1.length + y195.length < 8796093022208 then ((some (([t173] : List ByteArray) : List ByteArray)).bind fun y201 => (if x7_1.length + y201.length < 8796093022208 then ((some (([(⟨t173, t174, t176, (⟨t177, t178, t179, t180⟩ : S38), t181⟩ : S45)] : List (S45)) : List (S45))).bind fun y207 => (if x5_1.length + y207.length < 1466015503701 then (bindleref08_Members.l0 k2 l0 l1 (x5_1 ++ y207) (x6_1 ++ y195) (x7_1 ++ y201) (wrap64 (x8_1 + 1))) else (none))) else (none))) else (none)) = some r := by first | (rw [hy195]; with_reducible exact H) | (have H2_ := (Option.bind_some _ _).symm.trans H; rw [hy195]; with_reducible exact H2_) | (have H2_ := (Option.bind_some _ _).symm.trans H; with_reducible exact H2_) | with_reducible exact H | (rw [hy195]; exact H) | exact H
     have Ny195 := A0_ hy195
     clear hy195
     by_cases c36 : x6_1.length + y195.length < 8796093022208
     rotate_left
     ·rw [if_neg c36] at H
      exact absurd H (by simp)
     rw [if_pos c36] at H
     have LMc36 := A0_ c36
     clear c36
     obtain ⟨y198, hy198⟩ : ∃ y_ : List ByteArray, y_ = (x6_1 ++ y195) := ⟨_, rfl⟩
     replace H : ((some (([t173] : List ByteArray) : List ByteArray)).bind fun y201 => (if x7_1.length + y201.length < 8796093022208 then ((some (([(⟨t173, t174, t176, (⟨t177, t178, t179, t180⟩ : S38), t181⟩ : S45)] : List (S45)) : List (S45))).bind fun y207 => (if x5_1.length + y207.length < 1466015503701 then (bindleref08_Members.l0 k2 l0 l1 (x5_1 ++ y207) y198 (x7_1 ++ y201) (wrap64 (x8_1 + 1))) else (none))) else (none))) = some r := by first | (rw [hy198]; with_reducible exact H) | (have H2_ := (Option.bind_some _ _).symm.trans H; rw [hy198]; with_reducible exact H2_) | (have H2_ := (Option.bind_some _ _).symm.trans H; with_reducible exact H2_) | with_reducible exact H | (rw [hy198]; exact H) | exact H
     have Ny198 := A0_ hy198
     clear hy198
     obtain ⟨y201, hy201⟩ : ∃ y_ : List ByteArray, y_ = (([t173] : List ByteArray)) := ⟨_, rfl⟩
     replace H : (if x7_1.length + y201.length < 8796093022208 then ((some (([(⟨t173, t174, t176, (⟨t177, t178, t179, t180⟩ : S38), t181⟩ : S45)] : List (S45)) : List (S45))).bind fun y207 => (if x5_1.length + y207.length < 1466015503701 then (bindleref08_Members.l0 k2 l0 l1 (x5_1 ++ y207) y198 (x7_1 ++ y201) (wrap64 (x8_1 + 1))) else (none))) else (none)) = some r := by first | (rw [hy201]; with_reducible exact H) | (have H2_ := (Option.bind_some _ _).symm.trans H; rw [hy201]; with_reducible exact H2_) | (have H2_ := (Option.bind_some _ _).symm.trans H; with_reducible exact H2_) | with_reducible exact H | (rw [hy201]; exact H) | exact H
     have Ny201 := A0_ hy201
     clear hy201
     by_cases c37 : x7_1.length + y201.length < 8796093022208
     rotate_left
     ·rw [if_neg c37] at H
      exact absurd H (by simp)
     rw [if_pos c37] at H
     have LMc37 := A0_ c37
     clear c37
     obtain ⟨y204, hy204⟩ : ∃ y_ : List ByteArray, y_ = (x7_1 ++ y201) := ⟨_, rfl⟩
     replace H : ((some (([(⟨t173, t174, t176, (⟨t177, t178, t179, t180⟩ : S38), t181⟩ : S45)] : List (S45)) : List (S45))).bind fun y207 => (if x5_1.length + y207.length < 1466015503701 then (bindleref08_Members.l0 k2 l0 l1 (x5_1 ++ y207) y198 y204 (wrap64 (x8_1 + 1))) else (none))) = some r := by first | (rw [hy204]; with_reducible exact H) | (have H2_ := (Option.bind_some _ _).symm.trans H; rw [hy204]; with_reducible exact H2_) | (have H2_ := (Option.bind_some _ _).symm.trans H; with_reducible exact H2_) | with_reducible exact H | (rw [hy204]; exact H) | exact H
     have Ny204 := A0_ hy204
     clear hy204
     obtain ⟨y207, hy207⟩ : ∃ y_ : List (S45), y_ = (([(⟨t173, t174, t176, (⟨t177, t178, t179, t180⟩ : S38), t181⟩ : S45)] : List (S45))) := ⟨_, rfl⟩
     replace H : (if x5_1.length + y207.length < 1466015503701 then (bindleref08_Members.l0 k2 l0 l1 (x5_1 ++ y207) y198 y204 (wrap64 (x8_1 + 1))) else (none)) = some r := by first | (rw [hy207]; with_reducible exact H) | (have H2_ := (Option.bind_some _ _).symm.trans H; rw [hy207]; with_reducible exact H2_) | (have H2_ := (Option.bind_some _ _).symm.trans H; with_reducible exact H2_) | with_reducible exact H | (rw [hy207]; exact H) | exact H
     have Ny207 := A0_ hy207
     clear hy207
     by_cases c38 : x5_1.length + y207.length < 1466015503701
     rotate_left
     ·rw [if_neg c38] at H
      exact absurd H (by simp)
     rw [if_pos c38] at H
     have LMc38 := A0_ c38
     clear c38
     obtain ⟨y210, hy210⟩ : ∃ y_ : List (S45), y_ = (x5_1 ++ y207) := ⟨_, rfl⟩
     replace H : (bindleref08_Members.l0 k2 l0 l1 y210 y198 y204 (wrap64 (x8_1 + 1))) = some r := by first | (rw [hy210]; with_reducible exact H) | (have H2_ := (Option.bind_some _ _).symm.trans H; rw [hy210]; with_reducible exact H2_) | (have H2_ := (Option.bind_some _ _).symm.trans H; with_reducible exact H2_) | with_reducible exact H | (rw [hy210]; exact H) | exact H
     have Ny210 := A0_ hy210
     clear hy210
     have H' := A0_ H
     clear H
     try go_wp2
     have n0_ := A0_ (V1_ HO_0.out)
     have n1_ := A0_ (Kd.N_drew HO_5.out)
     have n2_ := A0_ (R1_ HO_6.out)
     have n3_ := A0_ (R1_ HO_7.out)
     have n4_ := A0_ (V1_ HO_186008.out)
     have n5_ := A0_ (V1_ HO_187007.out)
     have n6_ := A0_ (blk_drew BK185.out)
     have n7_ := A0_ (blk_drew BK186.out)
     have n8_ := A0_ (b1_ HB.out)
     clear HO_0
     clear HO_5
     clear HO_6
     clear HO_7
     clear HO_186008
     clear HO_187007
     clear BK185
     clear BK186
     clear HB
     have HO_0 := n0_
     have HO_5 := n1_
     have HO_6 := n2_
     have HO_7 := n3_
     have HO_186008 := n4_
     have HO_187007 := n5_
     have BK185 := n6_
     have BK186 := n7_
     have HB := n8_
     clear n0_ n1_ n2_ n3_ n4_ n5_ n6_ n7_ n8_
     obtain ⟨Ao40, co40, eo40⟩ := Kd.R_slice HO_6.out
     (first | subst eo40 | (injection eo40 with f1_ f2_ f3_; have f4_ := f1_.symm; have f5_ := f3_.symm; clear f1_ f2_ f3_; subst f4_; subst f5_))
     refine start_ (n := 13) (S := fun w' => True) (ds := []) q20_0 (by kernel_rfl) rfl rfl trivial (fun hHeld => ?_); refine with_tabW bindleref08_Members.tab10 bindleref08_Members.bits10 (fun HT_ HW_ => ?_)
     generalize wr.drew = w39 at HO_0 HO_5 HO_6 HO_7 HO_186008 HO_187007 BK185 BK186 HB hHeld ⊢
     refine pur_ (i := 0) (N := some 42) q20_1 (any_of HT_.out (by kernel_rfl)) ?_
     refine pur_ (i := 1) (N := some 43) q20_2 (any_of HT_.out (by kernel_rfl)) ?_
     refine pur_ (i := 2) (N := some 44) q20_3 (any_of HT_.out (by kernel_rfl)) ?_
     refine pur_ (i := 3) (N := some 45) q20_4 (any_of HT_.out (by kernel_rfl)) ?_
     refine pur_ (i := 4) (N := some 46) q20_5 (any_of HT_.out (by kernel_rfl)) ?_
     refine puu_ (i := 5) (N := some 47) q20_6 (any_of HT_.out (by kernel_rfl)) ?_
     refine puu_ (i := 6) (N := some 48) q20_7 (any_of HT_.out (by kernel_rfl)) ?_
     refine puu_ (i := 7) (N := some 49) q20_8 (any_of HT_.out (by kernel_rfl)) ?_
     refine puu_ (i := 8) (N := some 50) q20_25 (any_of HT_.out (by kernel_rfl)) ?_
     refine puu_ (i := 9) (N := some 51) q20_10 (any_of HT_.out (by kernel_rfl)) ?_
     refine puu_ (i := 10) (N := some 52) q20_11 (any_of HT_.out (by kernel_rfl)) ?_
     refine puu_ (i := 11) (N := some 53) q20_12 (any_of HT_.out (by kernel_rfl)) ?_
     refine pur_ (i := 12) (N := some 54) q20_13 (any_of HT_.out (by kernel_rfl)) ?_
     refine done_ (done_of HT_.out (by kernel_rfl)) ?_
     obtain ⟨Ao41, co41, eo41⟩ := Kd.R_slice HO_7.out
     subst eo41
     try go_wp2
     have n0_ := A0_ (V1_ HO_0.out)
     have n1_ := A0_ (Kd.N_drew HO_5.out)
     have n2_ := A0_ (R1_ HO_6.out)
     have n3_ := A0_ (R1_ HO_7.out)
     have n4_ := A0_ (V1_ HO_186008.out)
     have n5_ := A0_ (V1_ HO_187007.out)
     have n6_ := A0_ (blk_drew BK185.out)
     have n7_ := A0_ (blk_drew BK186.out)
     have n8_ := A0_ (b1_ HB.out)
     clear HO_0
     clear HO_5
     clear HO_6
     clear HO_7
     clear HO_186008
     clear HO_187007
     clear BK185
     clear BK186
     clear HB
     have HO_0 := n0_
     have HO_5 := n1_
     have HO_6 := n2_
     have HO_7 := n3_
     have HO_186008 := n4_
     have HO_187007 := n5_
     have BK185 := n6_
     have BK186 := n7_
     have HB := n8_
     clear n0_ n1_ n2_ n3_ n4_ n5_ n6_ n7_ n8_
     refine start_ (n := 12) (S := fun w' => w'.cell? ⟨gb185, 0, none⟩ = some (.string t173) ∧ w'.cell? ⟨gb185, 1, none⟩ = some (.string t174) ∧ w'.cell? ⟨gb185, 2, none⟩ = some (.string t175) ∧ w'.cell? ⟨gb185, 3, none⟩ = some (.int .u8 t176) ∧ w'.cell? ⟨gb185, 4, none⟩ = some (.int .i64 t177) ∧ w'.cell? ⟨gb185, 5, none⟩ = some (.int .i64 t178) ∧ w'.cell? ⟨gb185, 6, none⟩ = some (.int .i64 t179) ∧ w'.cell? ⟨gb185, 7, none⟩ = some (.int .i64 t180) ∧ w'.cell? ⟨gb185, 8, none⟩ = some (.slice Ao10 t181.length co10)) (ds := []) q20_26 (by kernel_rfl) rfl rfl ⟨(bc_ BK185.out 0).trans rfl, (bc_ BK185.out 1).trans rfl, (bc_ BK185.out 2).trans rfl, (bc_ BK185.out 3).trans rfl, (bc_ BK185.out 4).trans rfl, (bc_ BK185.out 5).trans rfl, (bc_ BK185.out 6).trans rfl, (bc_ BK185.out 7).trans rfl, (bc_ BK185.out 8).trans rfl⟩ (fun hHeld => ?_); refine with_tabW bindleref08_Members.tab14 bindleref08_Members.bits14 (fun HT_ HW_ => ?_)
     generalize w39.drew = w42 at HO_0 HO_5 HO_6 HO_7 HO_186008 HO_187007 BK185 BK186 HB hHeld ⊢
     refine pur_ (i := 0) (N := some 68) q20_27 (any_of HT_.out (by kernel_rfl)) ?_
     refine pur_ (i := 1) (N := some 69) q20_28 (any_of HT_.out (by kernel_rfl)) ?_
     refine pur_ (i := 5) (N := some 73) q20_29 (any_of HT_.out (by kernel_rfl)) ?_
     refine pur_ (i := 6) (N := some 74) q20_30 (any_of HT_.out (by kernel_rfl)) ?_
     refine take_ (i := 2) (N := some 70) (v := ?_) (a' := ?_) q20_31 rfl rfl (take_ofW HT_.out HW_.out (by kernel_rfl)) (fun _ _ _ h => h) (Or.inl ⟨by rfl, ?_⟩) hHeld ?_ ?_
     rotate_left
     ·rintro w' ⟨s0, s1, s2, s3, s4, s5, s6, s7, s8⟩
      go_simp
      with_reducible rfl
     rotate_left
     ·simp only [Act.put, List.setIfInBounds_toArray, List.set_cons_zero, List.set_cons_succ, i64_w, i32_w]
      rfl
     refine take_ (i := 7) (N := some 75) (v := ?_) (a' := ?_) q20_32 rfl rfl (take_ofW HT_.out HW_.out (by kernel_rfl)) (fun _ _ _ h => h) (Or.inl ⟨by rfl, ?_⟩) hHeld ?_ ?_
     rotate_left
     ·rintro w' ⟨s0, s1, s2, s3, s4, s5, s6, s7, s8⟩
      go_simp
      with_reducible rfl
     rotate_left
     ·simp only [Act.put, List.setIfInBounds_toArray, List.set_cons_zero, List.set_cons_succ, i64_w, i32_w]
      rfl
     refine join_ (σ := Value × Value × Value) 3 q20_33 (fun s_ => [(71, s_.1), (72, s_.2.1), (76, s_.2.2)]) (fun s_ w' => (w'.cell? ⟨gb185, 0, none⟩ = some (.string t173) ∧ w'.cell? ⟨gb185, 1, none⟩ = some (.string t174) ∧ w'.cell? ⟨gb185, 2, none⟩ = some (.string t175) ∧ w'.cell? ⟨gb185, 3, none⟩ = some (.int .u8 t176) ∧ w'.cell? ⟨gb185, 4, none⟩ = some (.int .i64 t177) ∧ w'.cell? ⟨gb185, 5, none⟩ = some (.int .i64 t178) ∧ w'.cell? ⟨gb185, 6, none⟩ = some (.int .i64 t179) ∧ w'.cell? ⟨gb185, 7, none⟩ = some (.int .i64 t180) ∧ w'.cell? ⟨gb185, 8, none⟩ = some (.slice Ao10 t181.length co10)) ∧ (Kd.R Kd.string 9 w' w.heap.size (fun k_ => (w.heap.size ≤ k_) ∧ some k_ ≠ (s_.2.1 : Value).ownBlock ∧ some k_ ≠ (s_.2.2 : Value).ownBlock ∧ some k_ ≠ (.slice Ao41 x7_1.length co41 : Value).ownBlock) s_.1 y195) ∧ (Kd.R Kd.string 9 w' w.heap.size (fun k_ => (w.heap.size ≤ k_) ∧ some k_ ≠ (s_.1 : Value).ownBlock ∧ some k_ ≠ (s_.2.2 : Value).ownBlock ∧ some k_ ≠ (.slice Ao41 x7_1.length co41 : Value).ownBlock) s_.2.1 y198) ∧ (Kd.R Kd.string 9 w' w.heap.size (fun k_ => (w.heap.size ≤ k_) ∧ some k_ ≠ (s_.1 : Value).ownBlock ∧ some k_ ≠ (s_.2.1 : Value).ownBlock ∧ some k_ ≠ (.slice Ao41 x7_1.length co41 : Value).ownBlock) s_.2.2 y201) ∧ (Kd.V k40 40 w' w.heap.size (fun k_ => (P0_ k_ ∨ w.heap.size ≤ k_) ∧ some k_ ≠ (s_.1 : Value).ownBlock ∧ some k_ ≠ (s_.2.1 : Value).ownBlock ∧ some k_ ≠ (s_.2.2 : Value).ownBlock ∧ some k_ ≠ (u5 : Value).ownBlock ∧ some k_ ≠ (.slice Ao41 x7_1.length co41 : Value).ownBlock ∧ k_ ≠ gb185 ∧ k_ ≠ gb186) (.slice A0 l0.length c0) l0) ∧ (Kd.V (Kd.int .u8) 5 w' w.heap.size (fun k_ => (P0_ k_ ∨ w.heap.size ≤ k_) ∧ some k_ ≠ (s_.1 : Value).ownBlock ∧ some k_ ≠ (s_.2.1 : Value).ownBlock ∧ some k_ ≠ (s_.2.2 : Value).ownBlock ∧ some k_ ≠ (u5 : Value).ownBlock ∧ some k_ ≠ (.slice Ao41 x7_1.length co41 : Value).ownBlock ∧ k_ ≠ gb185 ∧ k_ ≠ gb186) (.slice Ao10 t181.length co10) t181) ∧ (Kd.V (Kd.int .u8) 5 w' w.heap.size (fun k_ => (P0_ k_ ∨ w.heap.size ≤ k_) ∧ some k_ ≠ (s_.1 : Value).ownBlock ∧ some k_ ≠ (s_.2.1 : Value).ownBlock ∧ some k_ ≠ (s_.2.2 : Value).ownBlock ∧ some k_ ≠ (u5 : Value).ownBlock ∧ some k_ ≠ (.slice Ao41 x7_1.length co41 : Value).ownBlock ∧ k_ ≠ gb185 ∧ k_ ≠ gb186) (.slice Ao10 t181.length co10) t181) ∧ (Kd.N k45 45 w' w.heap.size (fun k_ => (P0_ k_ ∨ w.heap.size ≤ k_) ∧ some k_ ≠ (s_.1 : Value).ownBlock ∧ some k_ ≠ (s_.2.1 : Value).ownBlock ∧ some k_ ≠ (s_.2.2 : Value).ownBlock ∧ some k_ ≠ (.slice Ao41 x7_1.length co41 : Value).ownBlock ∧ k_ ≠ gb185 ∧ k_ ≠ gb186) u5 x5_1) ∧ (Kd.R Kd.string 9 w' w.heap.size (fun k_ => (w.heap.size ≤ k_) ∧ some k_ ≠ (s_.1 : Value).ownBlock ∧ some k_ ≠ (s_.2.1 : Value).ownBlock ∧ some k_ ≠ (s_.2.2 : Value).ownBlock) (.slice Ao41 x7_1.length co41) x7_1) ∧ (w'.heap[gb185]? = some (.cells #[.string t173, .string t174, .string t175, .int .u8 t176, .int .i64 t177, .int .i64 t178, .int .i64 t179, .int .i64 t180, .slice Ao10 t181.length co10] 40 (0, 0))) ∧ (w'.heap[gb186]? = some (.cells #[.string t173, .string t174, .int .u8 t176, .int .i64 t177, .int .i64 t178, .int .i64 t179, .int .i64 t180, .slice Ao10 t181.length co10] 45 (0, 0))) ∧ (Below w.heap.size w w')) ?_ ?_
     rotate_left
     ·intro hCont
      refine two_ (i := 3) (j := 8) (Ni := some 71) (Nj := some 76) q20_34 q20_35 rfl rfl rfl rfl (two_of HT_.out (by kernel_rfl)) (by decide) (by decide) (fun K hK => ?_) (fun K hK => ?_)
      rotate_left
      ·skip
       refine Kd.R_lit_step Kd.string _ 9 ?hg (N := 76) ?hd (xs := ([t173] : List ByteArray)) (inner := [.string t173]) (ok := fun _ => True) (okp := fun _ => True) ?hr ?hp (fun _ hk => hk) trivial (Below.refl _ _) (Nat.le_refl _) (by simp) ?_; (case hd => rfl); (case hg => rfl); (case hr => first | (go_simp; done) | (go_simp; rfl)); (case hp => exact (Reps.one (show Kd.M Kd.string _ _ _ t173 [.string t173] from rfl) (Reps.none _ _)))
       intro v202 w43 ho44 hb hg_ hnew_
       clear hg_ hnew_
       (first | rw [← Ny201.out] at ho44 | (simp only [Int.reduceToNat] at ho44; rw [← Ny201.out] at ho44))
       have n0_ := A0_ (Kd.V_elder' (wV_ HO_0.out) (Kd.R_base ho44) hb)
       have n1_ := A0_ (Kd.N_elder' (wN_ HO_5.out) (Kd.R_base ho44) hb)
       have n2_ := A0_ (Kd.R_elder' (wR_ HO_6.out) (Kd.R_base ho44) hb)
       have n3_ := A0_ (Kd.R_elder' (wR_ HO_7.out) (Kd.R_base ho44) hb)
       have n4_ := A0_ (Kd.V_elder' (wV_ HO_186008.out) (Kd.R_base ho44) hb)
       have n5_ := A0_ (Kd.V_elder' (wV_ HO_187007.out) (Kd.R_base ho44) hb)
       have n6_ := A0_ (Kd.R_lower (Kd.R_new' (Kd.R_new' (Kd.R_newM (M := fun k_ => (w.heap.size ≤ k_)) ho44 (below_size (wb2_ HB.out GE185.out GE186.out)) (fun k_ h_ => h_)) (Kd.R_lt (wR_ HO_6.out))) (Kd.R_lt (wR_ HO_7.out))) (below_size (wb2_ HB.out GE185.out GE186.out)))
       have n7_ := A0_ (blk_below (g := gb185) (o := .cells #[.string t173, .string t174, .string t175, .int .u8 t176, .int .i64 t177, .int .i64 t178, .int .i64 t179, .int .i64 t180, .slice Ao10 t181.length co10] 40 (0, 0)) (wB_ BK185.out) hb)
       have n8_ := A0_ (blk_below (g := gb186) (o := .cells #[.string t173, .string t174, .int .u8 t176, .int .i64 t177, .int .i64 t178, .int .i64 t179, .int .i64 t180, .slice Ao10 t181.length co10] 45 (0, 0)) (wB_ BK186.out) hb)
       have n9_ := A0_ (below_step (wb2_ HB.out GE185.out GE186.out) hb)
       clear HO_0
       clear HO_5
       clear HO_6
       clear HO_7
       clear HO_186008
       clear HO_187007
       clear BK185
       clear BK186
       clear HB
       have HO_0 := n0_
       have HO_5 := n1_
       have HO_6 := n2_
       have HO_7 := n3_
       have HO_186008 := n4_
       have HO_187007 := n5_
       have HO203 := n6_
       have BK185 := n7_
       have BK186 := n8_
       have HB := n9_
       clear n0_ n1_ n2_ n3_ n4_ n5_ n6_ n7_ n8_ n9_
       clear hb ho44
       refine hK.out _ _ ⟨(bc_ BK185.out 0).trans rfl, (bc_ BK185.out 1).trans rfl, (bc_ BK185.out 2).trans rfl, (bc_ BK185.out 3).trans rfl, (bc_ BK185.out 4).trans rfl, (bc_ BK185.out 5).trans rfl, (bc_ BK185.out 6).trans rfl, (bc_ BK185.out 7).trans rfl, (bc_ BK185.out 8).trans rfl⟩ (fun hHeld => ?_)
       clear hK K
       refine norm_ (a' := ?_) ?_ ?_
       rotate_left
       ·show Act.put _ (some 76) _ = _
        simp only [Act.put, List.setIfInBounds_toArray, List.set_cons_zero, List.set_cons_succ, i64_w, i32_w]
        rfl
       refine one_ (i := 3) (N := some 71) q20_36 rfl rfl (one_of HT_.out (by kernel_rfl)) (by decide) (fun K hK => ?_)
       refine Kd.R_lit_step Kd.string _ 9 ?hg (N := 71) ?hd (xs := ([t175] : List ByteArray)) (inner := [.string t175]) (ok := fun _ => True) (okp := fun _ => True) ?hr ?hp (fun _ hk => hk) trivial (Below.refl _ _) (Nat.le_refl _) (by simp) ?_; (case hd => rfl); (case hg => rfl); (case hr => first | (go_simp; done) | (go_simp; rfl)); (case hp => exact (Reps.one (show Kd.M Kd.string _ _ _ t175 [.string t175] from rfl) (Reps.none _ _)))
       intro v196 w45 ho46 hb hg_ hnew_
       clear hg_ hnew_
       (first | rw [← Ny195.out] at ho46 | (simp only [Int.reduceToNat] at ho46; rw [← Ny195.out] at ho46))
       have n0_ := A0_ (Kd.V_elder' (wV_ HO_0.out) (Kd.R_base ho46) hb)
       have n1_ := A0_ (Kd.N_elder' (wN_ HO_5.out) (Kd.R_base ho46) hb)
       have n2_ := A0_ (Kd.R_elder' (wR_ HO_6.out) (Kd.R_base ho46) hb)
       have n3_ := A0_ (Kd.R_elder' (wR_ HO_7.out) (Kd.R_base ho46) hb)
       have n4_ := A0_ (Kd.V_elder' (wV_ HO_186008.out) (Kd.R_base ho46) hb)
       have n5_ := A0_ (Kd.V_elder' (wV_ HO_187007.out) (Kd.R_base ho46) hb)
       have n6_ := A0_ (Kd.R_elder' (wR_ HO203.out) (Kd.R_base ho46) hb)
       have n7_ := A0_ (Kd.R_lower (Kd.R_new' (Kd.R_new' (Kd.R_new' (Kd.R_newM (M := fun k_ => (w.heap.size ≤ k_)) ho46 (below_size (wb2_ HB.out GE185.out GE186.out)) (fun k_ h_ => h_)) (Kd.R_lt (wR_ HO_6.out))) (Kd.R_lt (wR_ HO_7.out))) (Kd.R_lt (wR_ HO203.out))) (below_size (wb2_ HB.out GE185.out GE186.out)))
       have n8_ := A0_ (blk_below (g := gb185) (o := .cells #[.string t173, .string t174, .string t175, .int .u8 t176, .int .i64 t177, .int .i64 t178, .int .i64 t179, .int .i64 t180, .slice Ao10 t181.length co10] 40 (0, 0)) (wB_ BK185.out) hb)
       have n9_ := A0_ (blk_below (g := gb186) (o := .cells #[.string t173, .string t174, .int .u8 t176, .int .i64 t177, .int .i64 t178, .int .i64 t179, .int .i64 t180, .slice Ao10 t181.length co10] 45 (0, 0)) (wB_ BK186.out) hb)
       have n10_ := A0_ (below_step (wb2_ HB.out GE185.out GE186.out) hb)
       clear HO_0
       clear HO_5
       clear HO_6
       clear HO_7
       clear HO_186008
       clear HO_187007
       clear HO203
       clear BK185
       clear BK186
       clear HB
       have HO_0 := n0_
       have HO_5 := n1_
       have HO_6 := n2_
       have HO_7 := n3_
       have HO_186008 := n4_
       have HO_187007 := n5_
       have HO203 := n6_
       have HO197 := n7_
       have BK185 := n8_
       have BK186 := n9_
       have HB := n10_
       clear n0_ n1_ n2_ n3_ n4_ n5_ n6_ n7_ n8_ n9_ n10_
       clear hb ho46
       obtain ⟨Ao48, co48, eo48⟩ := Kd.R_slice HO197.out
       (first | subst eo48 | (injection eo48 with f1_ f2_ f3_; have f4_ := f1_.symm; have f5_ := f3_.symm; clear f1_ f2_ f3_; subst f4_; subst f5_))
       refine hK.out _ _ ⟨(bc_ BK185.out 0).trans rfl, (bc_ BK185.out 1).trans rfl, (bc_ BK185.out 2).trans rfl, (bc_ BK185.out 3).trans rfl, (bc_ BK185.out 4).trans rfl, (bc_ BK185.out 5).trans rfl, (bc_ BK185.out 6).trans rfl, (bc_ BK185.out 7).trans rfl, (bc_ BK185.out 8).trans rfl⟩ (fun hHeld => ?_)
       clear hK K
       refine norm_ (a' := ?_) ?_ ?_
       rotate_left
       ·show Act.put _ (some 71) _ = _
        simp only [Act.put, List.setIfInBounds_toArray, List.set_cons_zero, List.set_cons_succ, i64_w, i32_w]
        rfl
       refine one_ (i := 4) (N := some 72) q20_33 rfl rfl (one_of HT_.out (by kernel_rfl)) (by decide) (fun K hK => ?_)
       refine Kd.R_append_rows_step Kd.string (w0 := w) w.heap.size (by rfl) (.tmp 68) (.tmp 71) 26 9 (.string ⟨#[]⟩) 16 rfl Tryd.underlying26 info9 rfl (by decide) (by omega) (.slice Ao40 x6_1.length co40) x6_1 y195 _ _ _ (fun k_ => (w.heap.size ≤ k_) ∧ some k_ ≠ (.slice Ao41 x7_1.length co41 : Value).ownBlock ∧ some k_ ≠ (v202 : Value).ownBlock ∧ some k_ ≠ (.slice Ao48 y195.length co48 : Value).ownBlock) (fun _ => False) rfl rfl ?aO ?aR (fun _ _ h => h) (fun _ h => h.elim) ?aF ?aB ?aS ?aL ?_
       (case aR => exact wc_ (Kd.R_reads' HO197.out).2.2)
       (case aB => exact (wb2_ HB.out GE185.out GE186.out))
       (case aF => exact (fun k_ hk => ⟨(Nat.le_trans (below_size (wb2_ HB.out GE185.out GE186.out)) hk), Kd.fresh' (Kd.R_lt (wR_ HO_7.out)) k_ hk, Kd.fresh' (Kd.R_lt (wR_ HO203.out)) k_ hk, Kd.fresh' (Kd.R_lt (wR_ HO197.out)) k_ hk⟩))
       (case aO => exact (by (with_reducible repeat (first | apply Ra_ | apply RN_ | apply R1_)); exact Kd.R_mono HO_6.out (fun _ hk => ⟨hk.1.1.1, ⟨hk.1.1.2, ⟨hk.1.2, hk.2⟩⟩⟩)))
       (case aS => exact (below_size (wb2_ HB.out GE185.out GE186.out)))
       (case aL => have := LMc36.out; omega)
       intro v199 w47 ho hb hg hat
       rw [← Ny198.out] at ho
       have n0_ := A0_ (Kd.V_afterv (ok := (fun k_ => (P0_ k_ ∨ w.heap.size ≤ k_) ∧ some k_ ≠ (u5 : Value).ownBlock ∧ some k_ ≠ (.slice Ao41 x7_1.length co41 : Value).ownBlock ∧ some k_ ≠ (v202 : Value).ownBlock ∧ some k_ ≠ (.slice Ao48 y195.length co48 : Value).ownBlock ∧ k_ ≠ gb185 ∧ k_ ≠ gb186)) (by (with_reducible repeat (first | apply Va_ | apply VN_ | apply V1_)); exact Kd.V_mono HO_0.out (fun _ hk => ⟨⟨hk.1.1.1, ⟨hk.1.1.2.1, ⟨hk.1.1.2.2.2.1, ⟨hk.1.2, ⟨hk.2, ⟨hk.1.1.2.2.2.2.1, hk.1.1.2.2.2.2.2⟩⟩⟩⟩⟩⟩, hk.1.1.2.2.1⟩)) hg hat)
       have n1_ := A0_ (Kd.N_afterv (ok := (fun k_ => (P0_ k_ ∨ w.heap.size ≤ k_) ∧ some k_ ≠ (.slice Ao41 x7_1.length co41 : Value).ownBlock ∧ some k_ ≠ (v202 : Value).ownBlock ∧ some k_ ≠ (.slice Ao48 y195.length co48 : Value).ownBlock ∧ k_ ≠ gb185 ∧ k_ ≠ gb186)) (by (with_reducible repeat (first | apply Kd.N_alloc | apply Kd.N_drewN | apply Kd.N_drew)); exact Kd.N_mono HO_5.out (fun _ hk => ⟨⟨hk.1.1.1, ⟨hk.1.1.2.2.1, ⟨hk.1.2, ⟨hk.2, ⟨hk.1.1.2.2.2.1, hk.1.1.2.2.2.2⟩⟩⟩⟩⟩, hk.1.1.2.1⟩)) hg hat)
       have n2_ := A0_ (Kd.R_after (ok := (fun k_ => (w.heap.size ≤ k_) ∧ some k_ ≠ (v202 : Value).ownBlock ∧ some k_ ≠ (.slice Ao48 y195.length co48 : Value).ownBlock)) (by (with_reducible repeat (first | apply Ra_ | apply RN_ | apply R1_)); exact Kd.R_mono HO_7.out (fun _ hk => ⟨⟨hk.1.1.1, ⟨hk.1.2, hk.2⟩⟩, hk.1.1.2⟩)) hg hat)
       have n3_ := A0_ (Kd.V_afterv (ok := (fun k_ => (P0_ k_ ∨ w.heap.size ≤ k_) ∧ some k_ ≠ (u5 : Value).ownBlock ∧ some k_ ≠ (.slice Ao41 x7_1.length co41 : Value).ownBlock ∧ some k_ ≠ (v202 : Value).ownBlock ∧ some k_ ≠ (.slice Ao48 y195.length co48 : Value).ownBlock ∧ k_ ≠ gb185 ∧ k_ ≠ gb186)) (by (with_reducible repeat (first | apply Va_ | apply VN_ | apply V1_)); exact Kd.V_mono HO_186008.out (fun _ hk => ⟨⟨hk.1.1.1, ⟨hk.1.1.2.1, ⟨hk.1.1.2.2.2.1, ⟨hk.1.2, ⟨hk.2, ⟨hk.1.1.2.2.2.2.1, hk.1.1.2.2.2.2.2⟩⟩⟩⟩⟩⟩, hk.1.1.2.2.1⟩)) hg hat)
       have n4_ := A0_ (Kd.V_afterv (ok := (fun k_ => (P0_ k_ ∨ w.heap.size ≤ k_) ∧ some k_ ≠ (u5 : Value).ownBlock ∧ some k_ ≠ (.slice Ao41 x7_1.length co41 : Value).ownBlock ∧ some k_ ≠ (v202 : Value).ownBlock ∧ some k_ ≠ (.slice Ao48 y195.length co48 : Value).ownBlock ∧ k_ ≠ gb185 ∧ k_ ≠ gb186)) (by (with_reducible repeat (first | apply Va_ | apply VN_ | apply V1_)); exact Kd.V_mono HO_187007.out (fun _ hk => ⟨⟨hk.1.1.1, ⟨hk.1.1.2.1, ⟨hk.1.1.2.2.2.1, ⟨hk.1.2, ⟨hk.2, ⟨hk.1.1.2.2.2.2.1, hk.1.1.2.2.2.2.2⟩⟩⟩⟩⟩⟩, hk.1.1.2.2.1⟩)) hg hat)
       have n5_ := A0_ (blk_grown (g := gb185) (o := .cells #[.string t173, .string t174, .string t175, .int .u8 t176, .int .i64 t177, .int .i64 t178, .int .i64 t179, .int .i64 t180, .slice Ao10 t181.length co10] 40 (0, 0)) (wB_ BK185.out) hg (Kd.R_ne HO_6.out BK185.out (by decide)))
       have n6_ := A0_ (blk_grown (g := gb186) (o := .cells #[.string t173, .string t174, .int .u8 t176, .int .i64 t177, .int .i64 t178, .int .i64 t179, .int .i64 t180, .slice Ao10 t181.length co10] 45 (0, 0)) (wB_ BK186.out) hg (Kd.R_ne HO_6.out BK186.out (by decide)))
       have n7_ := A0_ (Kd.R_after (ok := (fun k_ => (w.heap.size ≤ k_) ∧ some k_ ≠ (.slice Ao41 x7_1.length co41 : Value).ownBlock ∧ some k_ ≠ (.slice Ao48 y195.length co48 : Value).ownBlock)) (by (with_reducible repeat (first | apply Ra_ | apply RN_ | apply R1_)); exact Kd.R_mono HO203.out (fun _ hk => ⟨⟨hk.1.1.1.1, ⟨hk.1.2, hk.2⟩⟩, hk.1.1.2⟩)) hg hat)
       have n8_ := A0_ (Kd.R_after (ok := (fun k_ => (w.heap.size ≤ k_) ∧ some k_ ≠ (.slice Ao41 x7_1.length co41 : Value).ownBlock ∧ some k_ ≠ (v202 : Value).ownBlock)) (by (with_reducible repeat (first | apply Ra_ | apply RN_ | apply R1_)); exact Kd.R_mono HO197.out (fun _ hk => ⟨⟨hk.1.1.1.1, ⟨hk.1.2, hk.2⟩⟩, hk.1.1.2⟩)) hg hat)
       have n9_ := A0_ (hb)
       have n10_ := A0_ (ho)
       clear HO_0
       clear HO_5
       clear HO_7
       clear HO_186008
       clear HO_187007
       clear BK185
       clear BK186
       clear HO203
       clear HO197
       clear HB
       clear HO_6
       have HO_0 := n0_
       have HO_5 := n1_
       have HO_7 := n2_
       have HO_186008 := n3_
       have HO_187007 := n4_
       have BK185 := n5_
       have BK186 := n6_
       have HO203 := n7_
       have HO197 := n8_
       have HB := n9_
       have HO200 := n10_
       clear n0_ n1_ n2_ n3_ n4_ n5_ n6_ n7_ n8_ n9_ n10_
       clear ho hb hg hat
       refine hK.out _ _ ⟨(bc_ BK185.out 0).trans rfl, (bc_ BK185.out 1).trans rfl, (bc_ BK185.out 2).trans rfl, (bc_ BK185.out 3).trans rfl, (bc_ BK185.out 4).trans rfl, (bc_ BK185.out 5).trans rfl, (bc_ BK185.out 6).trans rfl, (bc_ BK185.out 7).trans rfl, (bc_ BK185.out 8).trans rfl⟩ (fun hHeld => ?_)
       clear hK K
       refine norm_ (a' := ?_) ?_ ?_
       rotate_left
       ·show Act.put _ (some 72) _ = _
        simp only [Act.put, List.setIfInBounds_toArray, List.set_cons_zero, List.set_cons_succ, i64_w, i32_w]
        rfl
       exact norm_ (by simp only [putAll, Act.put, List.setIfInBounds_toArray, List.set_cons_zero, List.set_cons_succ]) (hCont (.slice Ao48 y195.length co48, v199, v202) _ ⟨hHeld, (by (with_reducible repeat (first | apply Ra_ | apply RN_ | apply R1_)); exact Kd.R_mono HO197.out (fun _ hk => ⟨hk.1.1, ⟨hk.2, ⟨hk.1.2.2, hk.1.2.1⟩⟩⟩)), (by (with_reducible repeat (first | apply Ra_ | apply RN_ | apply R1_)); exact Kd.R_mono HO200.out (fun _ hk => ⟨hk.1, ⟨hk.2.2.2, ⟨hk.2.2.1, hk.2.1⟩⟩⟩)), (by (with_reducible repeat (first | apply Ra_ | apply RN_ | apply R1_)); exact Kd.R_mono HO203.out (fun _ hk => ⟨hk.1.1, ⟨hk.1.2.2, ⟨hk.2, hk.1.2.1⟩⟩⟩)), (by (with_reducible repeat (first | apply Va_ | apply VN_ | apply V1_)); exact Kd.V_mono HO_0.out (fun _ hk => ⟨hk.1.1, ⟨hk.1.2.2.2.2.1, ⟨hk.2, ⟨hk.1.2.2.2.1, ⟨hk.1.2.1, ⟨hk.1.2.2.1, ⟨hk.1.2.2.2.2.2.1, hk.1.2.2.2.2.2.2⟩⟩⟩⟩⟩⟩⟩)), (by (with_reducible repeat (first | apply Va_ | apply VN_ | apply V1_)); exact Kd.V_mono HO_186008.out (fun _ hk => ⟨hk.1.1, ⟨hk.1.2.2.2.2.1, ⟨hk.2, ⟨hk.1.2.2.2.1, ⟨hk.1.2.1, ⟨hk.1.2.2.1, ⟨hk.1.2.2.2.2.2.1, hk.1.2.2.2.2.2.2⟩⟩⟩⟩⟩⟩⟩)), (by (with_reducible repeat (first | apply Va_ | apply VN_ | apply V1_)); exact Kd.V_mono HO_187007.out (fun _ hk => ⟨hk.1.1, ⟨hk.1.2.2.2.2.1, ⟨hk.2, ⟨hk.1.2.2.2.1, ⟨hk.1.2.1, ⟨hk.1.2.2.1, ⟨hk.1.2.2.2.2.2.1, hk.1.2.2.2.2.2.2⟩⟩⟩⟩⟩⟩⟩)), (by (with_reducible repeat (first | apply Kd.N_alloc | apply Kd.N_drewN | apply Kd.N_drew)); exact Kd.N_mono HO_5.out (fun _ hk => ⟨hk.1.1, ⟨hk.1.2.2.2.1, ⟨hk.2, ⟨hk.1.2.2.1, ⟨hk.1.2.1, ⟨hk.1.2.2.2.2.1, hk.1.2.2.2.2.2⟩⟩⟩⟩⟩⟩)), (by (with_reducible repeat (first | apply Ra_ | apply RN_ | apply R1_)); exact Kd.R_mono HO_7.out (fun _ hk => ⟨hk.1.1, ⟨hk.1.2.2, ⟨hk.2, hk.1.2.1⟩⟩⟩)), (wB_ BK185.out), (wB_ BK186.out), (wb2_ HB.out GE185.out GE186.out)⟩)
      skip
      refine Kd.R_lit_step Kd.string _ 9 ?hg (N := 71) ?hd (xs := ([t175] : List ByteArray)) (inner := [.string t175]) (ok := fun _ => True) (okp := fun _ => True) ?hr ?hp (fun _ hk => hk) trivial (Below.refl _ _) (Nat.le_refl _) (by simp) ?_; (case hd => rfl); (case hg => rfl); (case hr => first | (go_simp; done) | (go_simp; rfl)); (case hp => exact (Reps.one (show Kd.M Kd.string _ _ _ t175 [.string t175] from rfl) (Reps.none _ _)))
      intro v196 w43 ho44 hb hg_ hnew_
      clear hg_ hnew_
      (first | rw [← Ny195.out] at ho44 | (simp only [Int.reduceToNat] at ho44; rw [← Ny195.out] at ho44))
      have n0_ := A0_ (Kd.V_elder' (wV_ HO_0.out) (Kd.R_base ho44) hb)
      have n1_ := A0_ (Kd.N_elder' (wN_ HO_5.out) (Kd.R_base ho44) hb)
      have n2_ := A0_ (Kd.R_elder' (wR_ HO_6.out) (Kd.R_base ho44) hb)
      have n3_ := A0_ (Kd.R_elder' (wR_ HO_7.out) (Kd.R_base ho44) hb)
      have n4_ := A0_ (Kd.V_elder' (wV_ HO_186008.out) (Kd.R_base ho44) hb)
      have n5_ := A0_ (Kd.V_elder' (wV_ HO_187007.out) (Kd.R_base ho44) hb)
      have n6_ := A0_ (Kd.R_lower (Kd.R_new' (Kd.R_new' (Kd.R_newM (M := fun k_ => (w.heap.size ≤ k_)) ho44 (below_size (wb2_ HB.out GE185.out GE186.out)) (fun k_ h_ => h_)) (Kd.R_lt (wR_ HO_6.out))) (Kd.R_lt (wR_ HO_7.out))) (below_size (wb2_ HB.out GE185.out GE186.out)))
      have n7_ := A0_ (blk_below (g := gb185) (o := .cells #[.string t173, .string t174, .string t175, .int .u8 t176, .int .i64 t177, .int .i64 t178, .int .i64 t179, .int .i64 t180, .slice Ao10 t181.length co10] 40 (0, 0)) (wB_ BK185.out) hb)
      have n8_ := A0_ (blk_below (g := gb186) (o := .cells #[.string t173, .string t174, .int .u8 t176, .int .i64 t177, .int .i64 t178, .int .i64 t179, .int .i64 t180, .slice Ao10 t181.length co10] 45 (0, 0)) (wB_ BK186.out) hb)
      have n9_ := A0_ (below_step (wb2_ HB.out GE185.out GE186.out) hb)
      clear HO_0
      clear HO_5
      clear HO_6
      clear HO_7
      clear HO_186008
      clear HO_187007
      clear BK185
      clear BK186
      clear HB
      have HO_0 := n0_
      have HO_5 := n1_
      have HO_6 := n2_
      have HO_7 := n3_
      have HO_186008 := n4_
      have HO_187007 := n5_
      have HO197 := n6_
      have BK185 := n7_
      have BK186 := n8_
      have HB := n9_
      clear n0_ n1_ n2_ n3_ n4_ n5_ n6_ n7_ n8_ n9_
      clear hb ho44
      obtain ⟨Ao46, co46, eo46⟩ := Kd.R_slice HO197.out
      (first | subst eo46 | (injection eo46 with f1_ f2_ f3_; have f4_ := f1_.symm; have f5_ := f3_.symm; clear f1_ f2_ f3_; subst f4_; subst f5_))
      refine hK.out _ _ ⟨(bc_ BK185.out 0).trans rfl, (bc_ BK185.out 1).trans rfl, (bc_ BK185.out 2).trans rfl, (bc_ BK185.out 3).trans rfl, (bc_ BK185.out 4).trans rfl, (bc_ BK185.out 5).trans rfl, (bc_ BK185.out 6).trans rfl, (bc_ BK185.out 7).trans rfl, (bc_ BK185.out 8).trans rfl⟩ (fun hHeld => ?_)
      clear hK K
      refine norm_ (a' := ?_) ?_ ?_
      rotate_left
      ·show Act.put _ (some 71) _ = _
       simp only [Act.put, List.setIfInBounds_toArray, List.set_cons_zero, List.set_cons_succ, i64_w, i32_w]
       rfl
      refine two_ (i := 4) (j := 8) (Ni := some 72) (Nj := some 76) q20_37 q20_36 rfl rfl rfl rfl (two_of HT_.out (by kernel_rfl)) (by decide) (by decide) (fun K hK => ?_) (fun K hK => ?_)
      ·skip
       refine Kd.R_append_rows_step Kd.string (w0 := w) w.heap.size (by rfl) (.tmp 68) (.tmp 71) 26 9 (.string ⟨#[]⟩) 16 rfl Tryd.underlying26 info9 rfl (by decide) (by omega) (.slice Ao40 x6_1.length co40) x6_1 y195 _ _ _ (fun k_ => (w.heap.size ≤ k_) ∧ some k_ ≠ (.slice Ao41 x7_1.length co41 : Value).ownBlock ∧ some k_ ≠ (.slice Ao46 y195.length co46 : Value).ownBlock) (fun _ => False) rfl rfl ?aO ?aR (fun _ _ h => h) (fun _ h => h.elim) ?aF ?aB ?aS ?aL ?_
       (case aR => exact wc_ (Kd.R_reads' HO197.out).2.2)
       (case aB => exact (wb2_ HB.out GE185.out GE186.out))
       (case aF => exact (fun k_ hk => ⟨(Nat.le_trans (below_size (wb2_ HB.out GE185.out GE186.out)) hk), Kd.fresh' (Kd.R_lt (wR_ HO_7.out)) k_ hk, Kd.fresh' (Kd.R_lt (wR_ HO197.out)) k_ hk⟩))
       (case aO => exact (by (with_reducible repeat (first | apply Ra_ | apply RN_ | apply R1_)); exact Kd.R_mono HO_6.out (fun _ hk => ⟨hk.1.1, ⟨hk.1.2, hk.2⟩⟩)))
       (case aS => exact (below_size (wb2_ HB.out GE185.out GE186.out)))
       (case aL => have := LMc36.out; omega)
       intro v199 w45 ho hb hg hat
       rw [← Ny198.out] at ho
       have n0_ := A0_ (Kd.V_afterv (ok := (fun k_ => (P0_ k_ ∨ w.heap.size ≤ k_) ∧ some k_ ≠ (u5 : Value).ownBlock ∧ some k_ ≠ (.slice Ao41 x7_1.length co41 : Value).ownBlock ∧ some k_ ≠ (.slice Ao46 y195.length co46 : Value).ownBlock ∧ k_ ≠ gb185 ∧ k_ ≠ gb186)) (by (with_reducible repeat (first | apply Va_ | apply VN_ | apply V1_)); exact Kd.V_mono HO_0.out (fun _ hk => ⟨⟨hk.1.1, ⟨hk.1.2.1, ⟨hk.1.2.2.2.1, ⟨hk.2, ⟨hk.1.2.2.2.2.1, hk.1.2.2.2.2.2⟩⟩⟩⟩⟩, hk.1.2.2.1⟩)) hg hat)
       have n1_ := A0_ (Kd.N_afterv (ok := (fun k_ => (P0_ k_ ∨ w.heap.size ≤ k_) ∧ some k_ ≠ (.slice Ao41 x7_1.length co41 : Value).ownBlock ∧ some k_ ≠ (.slice Ao46 y195.length co46 : Value).ownBlock ∧ k_ ≠ gb185 ∧ k_ ≠ gb186)) (by (with_reducible repeat (first | apply Kd.N_alloc | apply Kd.N_drewN | apply Kd.N_drew)); exact Kd.N_mono HO_5.out (fun _ hk => ⟨⟨hk.1.1, ⟨hk.1.2.2.1, ⟨hk.2, ⟨hk.1.2.2.2.1, hk.1.2.2.2.2⟩⟩⟩⟩, hk.1.2.1⟩)) hg hat)
       have n2_ := A0_ (Kd.R_after (ok := (fun k_ => (w.heap.size ≤ k_) ∧ some k_ ≠ (.slice Ao46 y195.length co46 : Value).ownBlock)) (by (with_reducible repeat (first | apply Ra_ | apply RN_ | apply R1_)); exact Kd.R_mono HO_7.out (fun _ hk => ⟨⟨hk.1.1, hk.2⟩, hk.1.2⟩)) hg hat)
       have n3_ := A0_ (Kd.V_afterv (ok := (fun k_ => (P0_ k_ ∨ w.heap.size ≤ k_) ∧ some k_ ≠ (u5 : Value).ownBlock ∧ some k_ ≠ (.slice Ao41 x7_1.length co41 : Value).ownBlock ∧ some k_ ≠ (.slice Ao46 y195.length co46 : Value).ownBlock ∧ k_ ≠ gb185 ∧ k_ ≠ gb186)) (by (with_reducible repeat (first | apply Va_ | apply VN_ | apply V1_)); exact Kd.V_mono HO_186008.out (fun _ hk => ⟨⟨hk.1.1, ⟨hk.1.2.1, ⟨hk.1.2.2.2.1, ⟨hk.2, ⟨hk.1.2.2.2.2.1, hk.1.2.2.2.2.2⟩⟩⟩⟩⟩, hk.1.2.2.1⟩)) hg hat)
       have n4_ := A0_ (Kd.V_afterv (ok := (fun k_ => (P0_ k_ ∨ w.heap.size ≤ k_) ∧ some k_ ≠ (u5 : Value).ownBlock ∧ some k_ ≠ (.slice Ao41 x7_1.length co41 : Value).ownBlock ∧ some k_ ≠ (.slice Ao46 y195.length co46 : Value).ownBlock ∧ k_ ≠ gb185 ∧ k_ ≠ gb186)) (by (with_reducible repeat (first | apply Va_ | apply VN_ | apply V1_)); exact Kd.V_mono HO_187007.out (fun _ hk => ⟨⟨hk.1.1, ⟨hk.1.2.1, ⟨hk.1.2.2.2.1, ⟨hk.2, ⟨hk.1.2.2.2.2.1, hk.1.2.2.2.2.2⟩⟩⟩⟩⟩, hk.1.2.2.1⟩)) hg hat)
       have n5_ := A0_ (blk_grown (g := gb185) (o := .cells #[.string t173, .string t174, .string t175, .int .u8 t176, .int .i64 t177, .int .i64 t178, .int .i64 t179, .int .i64 t180, .slice Ao10 t181.length co10] 40 (0, 0)) (wB_ BK185.out) hg (Kd.R_ne HO_6.out BK185.out (by decide)))
       have n6_ := A0_ (blk_grown (g := gb186) (o := .cells #[.string t173, .string t174, .int .u8 t176, .int .i64 t177, .int .i64 t178, .int .i64 t179, .int .i64 t180, .slice Ao10 t181.length co10] 45 (0, 0)) (wB_ BK186.out) hg (Kd.R_ne HO_6.out BK186.out (by decide)))
       have n7_ := A0_ (Kd.R_after (ok := (fun k_ => (w.heap.size ≤ k_) ∧ some k_ ≠ (.slice Ao41 x7_1.length co41 : Value).ownBlock)) (by (with_reducible repeat (first | apply Ra_ | apply RN_ | apply R1_)); exact Kd.R_mono HO197.out (fun _ hk => ⟨⟨hk.1.1.1, hk.2⟩, hk.1.2⟩)) hg hat)
       have n8_ := A0_ (hb)
       have n9_ := A0_ (ho)
       clear HO_0
       clear HO_5
       clear HO_7
       clear HO_186008
       clear HO_187007
       clear BK185
       clear BK186
       clear HO197
       clear HB
       clear HO_6
       have HO_0 := n0_
       have HO_5 := n1_
       have HO_7 := n2_
       have HO_186008 := n3_
       have HO_187007 := n4_
       have BK185 := n5_
       have BK186 := n6_
       have HO197 := n7_
       have HB := n8_
       have HO200 := n9_
       clear n0_ n1_ n2_ n3_ n4_ n5_ n6_ n7_ n8_ n9_
       clear ho hb hg hat
       refine hK.out _ _ ⟨(bc_ BK185.out 0).trans rfl, (bc_ BK185.out 1).trans rfl, (bc_ BK185.out 2).trans rfl, (bc_ BK185.out 3).trans rfl, (bc_ BK185.out 4).trans rfl, (bc_ BK185.out 5).trans rfl, (bc_ BK185.out 6).trans rfl, (bc_ BK185.out 7).trans rfl, (bc_ BK185.out 8).trans rfl⟩ (fun hHeld => ?_)
       clear hK K
       refine norm_ (a' := ?_) ?_ ?_
       rotate_left
       ·show Act.put _ (some 72) _ = _
        simp only [Act.put, List.setIfInBounds_toArray, List.set_cons_zero, List.set_cons_succ, i64_w, i32_w]
        rfl
       refine one_ (i := 8) (N := some 76) q20_33 rfl rfl (one_of HT_.out (by kernel_rfl)) (by decide) (fun K hK => ?_)
       refine Kd.R_lit_step Kd.string _ 9 ?hg (N := 76) ?hd (xs := ([t173] : List ByteArray)) (inner := [.string t173]) (ok := fun _ => True) (okp := fun _ => True) ?hr ?hp (fun _ hk => hk) trivial (Below.refl _ _) (Nat.le_refl _) (by simp) ?_; (case hd => rfl); (case hg => rfl); (case hr => first | (go_simp; done) | (go_simp; rfl)); (case hp => exact (Reps.one (show Kd.M Kd.string _ _ _ t173 [.string t173] from rfl) (Reps.none _ _)))
       intro v202 w47 ho48 hb hg_ hnew_
       clear hg_ hnew_
       (first | rw [← Ny201.out] at ho48 | (simp only [Int.reduceToNat] at ho48; rw [← Ny201.out] at ho48))
       have n0_ := A0_ (Kd.V_elder' (wV_ HO_0.out) (Kd.R_base ho48) hb)
       have n1_ := A0_ (Kd.N_elder' (wN_ HO_5.out) (Kd.R_base ho48) hb)
       have n2_ := A0_ (Kd.R_elder' (wR_ HO_7.out) (Kd.R_base ho48) hb)
       have n3_ := A0_ (Kd.V_elder' (wV_ HO_186008.out) (Kd.R_base ho48) hb)
       have n4_ := A0_ (Kd.V_elder' (wV_ HO_187007.out) (Kd.R_base ho48) hb)
       have n5_ := A0_ (Kd.R_elder' (wR_ HO197.out) (Kd.R_base ho48) hb)
       have n6_ := A0_ (Kd.R_elder' (wR_ HO200.out) (Kd.R_base ho48) hb)
       have n7_ := A0_ (Kd.R_lower (Kd.R_new' (Kd.R_new' (Kd.R_new' (Kd.R_newM (M := fun k_ => (w.heap.size ≤ k_)) ho48 (below_size (wb2_ HB.out GE185.out GE186.out)) (fun k_ h_ => h_)) (Kd.R_lt (wR_ HO_7.out))) (Kd.R_lt (wR_ HO197.out))) (Kd.R_lt (wR_ HO200.out))) (below_size (wb2_ HB.out GE185.out GE186.out)))
       have n8_ := A0_ (blk_below (g := gb185) (o := .cells #[.string t173, .string t174, .string t175, .int .u8 t176, .int .i64 t177, .int .i64 t178, .int .i64 t179, .int .i64 t180, .slice Ao10 t181.length co10] 40 (0, 0)) (wB_ BK185.out) hb)
       have n9_ := A0_ (blk_below (g := gb186) (o := .cells #[.string t173, .string t174, .int .u8 t176, .int .i64 t177, .int .i64 t178, .int .i64 t179, .int .i64 t180, .slice Ao10 t181.length co10] 45 (0, 0)) (wB_ BK186.out) hb)
       have n10_ := A0_ (below_step (wb2_ HB.out GE185.out GE186.out) hb)
       clear HO_0
       clear HO_5
       clear HO_7
       clear HO_186008
       clear HO_187007
       clear HO197
       clear HO200
       clear BK185
       clear BK186
       clear HB
       have HO_0 := n0_
       have HO_5 := n1_
       have HO_7 := n2_
       have HO_186008 := n3_
       have HO_187007 := n4_
       have HO197 := n5_
       have HO200 := n6_
       have HO203 := n7_
       have BK185 := n8_
       have BK186 := n9_
       have HB := n10_
       clear n0_ n1_ n2_ n3_ n4_ n5_ n6_ n7_ n8_ n9_ n10_
       clear hb ho48
       refine hK.out _ _ ⟨(bc_ BK185.out 0).trans rfl, (bc_ BK185.out 1).trans rfl, (bc_ BK185.out 2).trans rfl, (bc_ BK185.out 3).trans rfl, (bc_ BK185.out 4).trans rfl, (bc_ BK185.out 5).trans rfl, (bc_ BK185.out 6).trans rfl, (bc_ BK185.out 7).trans rfl, (bc_ BK185.out 8).trans rfl⟩ (fun hHeld => ?_)
       clear hK K
       refine norm_ (a' := ?_) ?_ ?_
       rotate_left
       ·show Act.put _ (some 76) _ = _
        simp only [Act.put, List.setIfInBounds_toArray, List.set_cons_zero, List.set_cons_succ, i64_w, i32_w]
        rfl
       exact norm_ (by simp only [putAll, Act.put, List.setIfInBounds_toArray, List.set_cons_zero, List.set_cons_succ]) (hCont (.slice Ao46 y195.length co46, v199, v202) _ ⟨hHeld, (by (with_reducible repeat (first | apply Ra_ | apply RN_ | apply R1_)); exact Kd.R_mono HO197.out (fun _ hk => ⟨hk.1.1.1, ⟨hk.1.2, ⟨hk.2, hk.1.1.2⟩⟩⟩)), (by (with_reducible repeat (first | apply Ra_ | apply RN_ | apply R1_)); exact Kd.R_mono HO200.out (fun _ hk => ⟨hk.1.1, ⟨hk.1.2.2, ⟨hk.2, hk.1.2.1⟩⟩⟩)), (by (with_reducible repeat (first | apply Ra_ | apply RN_ | apply R1_)); exact Kd.R_mono HO203.out (fun _ hk => ⟨hk.1.1.1.1, ⟨hk.1.2, ⟨hk.2, hk.1.1.2⟩⟩⟩)), (by (with_reducible repeat (first | apply Va_ | apply VN_ | apply V1_)); exact Kd.V_mono HO_0.out (fun _ hk => ⟨hk.1.1.1, ⟨hk.1.1.2.2.2.1, ⟨hk.1.2, ⟨hk.2, ⟨hk.1.1.2.1, ⟨hk.1.1.2.2.1, ⟨hk.1.1.2.2.2.2.1, hk.1.1.2.2.2.2.2⟩⟩⟩⟩⟩⟩⟩)), (by (with_reducible repeat (first | apply Va_ | apply VN_ | apply V1_)); exact Kd.V_mono HO_186008.out (fun _ hk => ⟨hk.1.1.1, ⟨hk.1.1.2.2.2.1, ⟨hk.1.2, ⟨hk.2, ⟨hk.1.1.2.1, ⟨hk.1.1.2.2.1, ⟨hk.1.1.2.2.2.2.1, hk.1.1.2.2.2.2.2⟩⟩⟩⟩⟩⟩⟩)), (by (with_reducible repeat (first | apply Va_ | apply VN_ | apply V1_)); exact Kd.V_mono HO_187007.out (fun _ hk => ⟨hk.1.1.1, ⟨hk.1.1.2.2.2.1, ⟨hk.1.2, ⟨hk.2, ⟨hk.1.1.2.1, ⟨hk.1.1.2.2.1, ⟨hk.1.1.2.2.2.2.1, hk.1.1.2.2.2.2.2⟩⟩⟩⟩⟩⟩⟩)), (by (with_reducible repeat (first | apply Kd.N_alloc | apply Kd.N_drewN | apply Kd.N_drew)); exact Kd.N_mono HO_5.out (fun _ hk => ⟨hk.1.1.1, ⟨hk.1.1.2.2.1, ⟨hk.1.2, ⟨hk.2, ⟨hk.1.1.2.1, ⟨hk.1.1.2.2.2.1, hk.1.1.2.2.2.2⟩⟩⟩⟩⟩⟩)), (by (with_reducible repeat (first | apply Ra_ | apply RN_ | apply R1_)); exact Kd.R_mono HO_7.out (fun _ hk => ⟨hk.1.1.1, ⟨hk.1.1.2, ⟨hk.1.2, hk.2⟩⟩⟩)), (wB_ BK185.out), (wB_ BK186.out), (wb2_ HB.out GE185.out GE186.out)⟩)
      skip
      refine Kd.R_lit_step Kd.string _ 9 ?hg (N := 76) ?hd (xs := ([t173] : List ByteArray)) (inner := [.string t173]) (ok := fun _ => True) (okp := fun _ => True) ?hr ?hp (fun _ hk => hk) trivial (Below.refl _ _) (Nat.le_refl _) (by simp) ?_; (case hd => rfl); (case hg => rfl); (case hr => first | (go_simp; done) | (go_simp; rfl)); (case hp => exact (Reps.one (show Kd.M Kd.string _ _ _ t173 [.string t173] from rfl) (Reps.none _ _)))
      intro v202 w45 ho46 hb hg_ hnew_
      clear hg_ hnew_
      (first | rw [← Ny201.out] at ho46 | (simp only [Int.reduceToNat] at ho46; rw [← Ny201.out] at ho46))
      have n0_ := A0_ (Kd.V_elder' (wV_ HO_0.out) (Kd.R_base ho46) hb)
      have n1_ := A0_ (Kd.N_elder' (wN_ HO_5.out) (Kd.R_base ho46) hb)
      have n2_ := A0_ (Kd.R_elder' (wR_ HO_6.out) (Kd.R_base ho46) hb)
      have n3_ := A0_ (Kd.R_elder' (wR_ HO_7.out) (Kd.R_base ho46) hb)
      have n4_ := A0_ (Kd.V_elder' (wV_ HO_186008.out) (Kd.R_base ho46) hb)
      have n5_ := A0_ (Kd.V_elder' (wV_ HO_187007.out) (Kd.R_base ho46) hb)
      have n6_ := A0_ (Kd.R_elder' (wR_ HO197.out) (Kd.R_base ho46) hb)
      have n7_ := A0_ (Kd.R_lower (Kd.R_new' (Kd.R_new' (Kd.R_new' (Kd.R_newM (M := fun k_ => (w.heap.size ≤ k_)) ho46 (below_size (wb2_ HB.out GE185.out GE186.out)) (fun k_ h_ => h_)) (Kd.R_lt (wR_ HO_6.out))) (Kd.R_lt (wR_ HO_7.out))) (Kd.R_lt (wR_ HO197.out))) (below_size (wb2_ HB.out GE185.out GE186.out)))
      have n8_ := A0_ (blk_below (g := gb185) (o := .cells #[.string t173, .string t174, .string t175, .int .u8 t176, .int .i64 t177, .int .i64 t178, .int .i64 t179, .int .i64 t180, .slice Ao10 t181.length co10] 40 (0, 0)) (wB_ BK185.out) hb)
      have n9_ := A0_ (blk_below (g := gb186) (o := .cells #[.string t173, .string t174, .int .u8 t176, .int .i64 t177, .int .i64 t178, .int .i64 t179, .int .i64 t180, .slice Ao10 t181.length co10] 45 (0, 0)) (wB_ BK186.out) hb)
      have n10_ := A0_ (below_step (wb2_ HB.out GE185.out GE186.out) hb)
      clear HO_0
      clear HO_5
      clear HO_6
      clear HO_7
      clear HO_186008
      clear HO_187007
      clear HO197
      clear BK185
      clear BK186
      clear HB
      have HO_0 := n0_
      have HO_5 := n1_
      have HO_6 := n2_
      have HO_7 := n3_
      have HO_186008 := n4_
      have HO_187007 := n5_
      have HO197 := n6_
      have HO203 := n7_
      have BK185 := n8_
      have BK186 := n9_
      have HB := n10_
      clear n0_ n1_ n2_ n3_ n4_ n5_ n6_ n7_ n8_ n9_ n10_
      clear hb ho46
      obtain ⟨Ao48, co48, eo48⟩ := Kd.R_slice HO197.out
      (first | subst eo48 | (injection eo48 with f1_ f2_ f3_; have f4_ := f1_.symm; have f5_ := f3_.symm; clear f1_ f2_ f3_; subst f4_; subst f5_))
      refine hK.out _ _ ⟨(bc_ BK185.out 0).trans rfl, (bc_ BK185.out 1).trans rfl, (bc_ BK185.out 2).trans rfl, (bc_ BK185.out 3).trans rfl, (bc_ BK185.out 4).trans rfl, (bc_ BK185.out 5).trans rfl, (bc_ BK185.out 6).trans rfl, (bc_ BK185.out 7).trans rfl, (bc_ BK185.out 8).trans rfl⟩ (fun hHeld => ?_)
      clear hK K
      refine norm_ (a' := ?_) ?_ ?_
      rotate_left
      ·show Act.put _ (some 76) _ = _
       simp only [Act.put, List.setIfInBounds_toArray, List.set_cons_zero, List.set_cons_succ, i64_w, i32_w]
       rfl
      refine one_ (i := 4) (N := some 72) q20_33 rfl rfl (one_of HT_.out (by kernel_rfl)) (by decide) (fun K hK => ?_)
      refine Kd.R_append_rows_step Kd.string (w0 := w) w.heap.size (by rfl) (.tmp 68) (.tmp 71) 26 9 (.string ⟨#[]⟩) 16 rfl Tryd.underlying26 info9 rfl (by decide) (by omega) (.slice Ao40 x6_1.length co40) x6_1 y195 _ _ _ (fun k_ => (w.heap.size ≤ k_) ∧ some k_ ≠ (.slice Ao41 x7_1.length co41 : Value).ownBlock ∧ some k_ ≠ (.slice Ao48 y195.length co48 : Value).ownBlock ∧ some k_ ≠ (v202 : Value).ownBlock) (fun _ => False) rfl rfl ?aO ?aR (fun _ _ h => h) (fun _ h => h.elim) ?aF ?aB ?aS ?aL ?_
      (case aR => exact wc_ (Kd.R_reads' HO197.out).2.2)
      (case aB => exact (wb2_ HB.out GE185.out GE186.out))
      (case aF => exact (fun k_ hk => ⟨(Nat.le_trans (below_size (wb2_ HB.out GE185.out GE186.out)) hk), Kd.fresh' (Kd.R_lt (wR_ HO_7.out)) k_ hk, Kd.fresh' (Kd.R_lt (wR_ HO197.out)) k_ hk, Kd.fresh' (Kd.R_lt (wR_ HO203.out)) k_ hk⟩))
      (case aO => exact (by (with_reducible repeat (first | apply Ra_ | apply RN_ | apply R1_)); exact Kd.R_mono HO_6.out (fun _ hk => ⟨hk.1.1.1, ⟨hk.1.1.2, ⟨hk.1.2, hk.2⟩⟩⟩)))
      (case aS => exact (below_size (wb2_ HB.out GE185.out GE186.out)))
      (case aL => have := LMc36.out; omega)
      intro v199 w47 ho hb hg hat
      rw [← Ny198.out] at ho
      have n0_ := A0_ (Kd.V_afterv (ok := (fun k_ => (P0_ k_ ∨ w.heap.size ≤ k_) ∧ some k_ ≠ (u5 : Value).ownBlock ∧ some k_ ≠ (.slice Ao41 x7_1.length co41 : Value).ownBlock ∧ some k_ ≠ (.slice Ao48 y195.length co48 : Value).ownBlock ∧ some k_ ≠ (v202 : Value).ownBlock ∧ k_ ≠ gb185 ∧ k_ ≠ gb186)) (by (with_reducible repeat (first | apply Va_ | apply VN_ | apply V1_)); exact Kd.V_mono HO_0.out (fun _ hk => ⟨⟨hk.1.1.1, ⟨hk.1.1.2.1, ⟨hk.1.1.2.2.2.1, ⟨hk.1.2, ⟨hk.2, ⟨hk.1.1.2.2.2.2.1, hk.1.1.2.2.2.2.2⟩⟩⟩⟩⟩⟩, hk.1.1.2.2.1⟩)) hg hat)
      have n1_ := A0_ (Kd.N_afterv (ok := (fun k_ => (P0_ k_ ∨ w.heap.size ≤ k_) ∧ some k_ ≠ (.slice Ao41 x7_1.length co41 : Value).ownBlock ∧ some k_ ≠ (.slice Ao48 y195.length co48 : Value).ownBlock ∧ some k_ ≠ (v202 : Value).ownBlock ∧ k_ ≠ gb185 ∧ k_ ≠ gb186)) (by (with_reducible repeat (first | apply Kd.N_alloc | apply Kd.N_drewN | apply Kd.N_drew)); exact Kd.N_mono HO_5.out (fun _ hk => ⟨⟨hk.1.1.1, ⟨hk.1.1.2.2.1, ⟨hk.1.2, ⟨hk.2, ⟨hk.1.1.2.2.2.1, hk.1.1.2.2.2.2⟩⟩⟩⟩⟩, hk.1.1.2.1⟩)) hg hat)
      have n2_ := A0_ (Kd.R_after (ok := (fun k_ => (w.heap.size ≤ k_) ∧ some k_ ≠ (.slice Ao48 y195.length co48 : Value).ownBlock ∧ some k_ ≠ (v202 : Value).ownBlock)) (by (with_reducible repeat (first | apply Ra_ | apply RN_ | apply R1_)); exact Kd.R_mono HO_7.out (fun _ hk => ⟨⟨hk.1.1.1, ⟨hk.1.2, hk.2⟩⟩, hk.1.1.2⟩)) hg hat)
      have n3_ := A0_ (Kd.V_afterv (ok := (fun k_ => (P0_ k_ ∨ w.heap.size ≤ k_) ∧ some k_ ≠ (u5 : Value).ownBlock ∧ some k_ ≠ (.slice Ao41 x7_1.length co41 : Value).ownBlock ∧ some k_ ≠ (.slice Ao48 y195.length co48 : Value).ownBlock ∧ some k_ ≠ (v202 : Value).ownBlock ∧ k_ ≠ gb185 ∧ k_ ≠ gb186)) (by (with_reducible repeat (first | apply Va_ | apply VN_ | apply V1_)); exact Kd.V_mono HO_186008.out (fun _ hk => ⟨⟨hk.1.1.1, ⟨hk.1.1.2.1, ⟨hk.1.1.2.2.2.1, ⟨hk.1.2, ⟨hk.2, ⟨hk.1.1.2.2.2.2.1, hk.1.1.2.2.2.2.2⟩⟩⟩⟩⟩⟩, hk.1.1.2.2.1⟩)) hg hat)
      have n4_ := A0_ (Kd.V_afterv (ok := (fun k_ => (P0_ k_ ∨ w.heap.size ≤ k_) ∧ some k_ ≠ (u5 : Value).ownBlock ∧ some k_ ≠ (.slice Ao41 x7_1.length co41 : Value).ownBlock ∧ some k_ ≠ (.slice Ao48 y195.length co48 : Value).ownBlock ∧ some k_ ≠ (v202 : Value).ownBlock ∧ k_ ≠ gb185 ∧ k_ ≠ gb186)) (by (with_reducible repeat (first | apply Va_ | apply VN_ | apply V1_)); exact Kd.V_mono HO_187007.out (fun _ hk => ⟨⟨hk.1.1.1, ⟨hk.1.1.2.1, ⟨hk.1.1.2.2.2.1, ⟨hk.1.2, ⟨hk.2, ⟨hk.1.1.2.2.2.2.1, hk.1.1.2.2.2.2.2⟩⟩⟩⟩⟩⟩, hk.1.1.2.2.1⟩)) hg hat)
      have n5_ := A0_ (blk_grown (g := gb185) (o := .cells #[.string t173, .string t174, .string t175, .int .u8 t176, .int .i64 t177, .int .i64 t178, .int .i64 t179, .int .i64 t180, .slice Ao10 t181.length co10] 40 (0, 0)) (wB_ BK185.out) hg (Kd.R_ne HO_6.out BK185.out (by decide)))
      have n6_ := A0_ (blk_grown (g := gb186) (o := .cells #[.string t173, .string t174, .int .u8 t176, .int .i64 t177, .int .i64 t178, .int .i64 t179, .int .i64 t180, .slice Ao10 t181.length co10] 45 (0, 0)) (wB_ BK186.out) hg (Kd.R_ne HO_6.out BK186.out (by decide)))
      have n7_ := A0_ (Kd.R_after (ok := (fun k_ => (w.heap.size ≤ k_) ∧ some k_ ≠ (.slice Ao41 x7_1.length co41 : Value).ownBlock ∧ some k_ ≠ (v202 : Value).ownBlock)) (by (with_reducible repeat (first | apply Ra_ | apply RN_ | apply R1_)); exact Kd.R_mono HO197.out (fun _ hk => ⟨⟨hk.1.1.1.1, ⟨hk.1.2, hk.2⟩⟩, hk.1.1.2⟩)) hg hat)
      have n8_ := A0_ (Kd.R_after (ok := (fun k_ => (w.heap.size ≤ k_) ∧ some k_ ≠ (.slice Ao41 x7_1.length co41 : Value).ownBlock ∧ some k_ ≠ (.slice Ao48 y195.length co48 : Value).ownBlock)) (by (with_reducible repeat (first | apply Ra_ | apply RN_ | apply R1_)); exact Kd.R_mono HO203.out (fun _ hk => ⟨⟨hk.1.1.1.1, ⟨hk.1.2, hk.2⟩⟩, hk.1.1.2⟩)) hg hat)
      have n9_ := A0_ (hb)
      have n10_ := A0_ (ho)
      clear HO_0
      clear HO_5
      clear HO_7
      clear HO_186008
      clear HO_187007
      clear BK185
      clear BK186
      clear HO197
      clear HO203
      clear HB
      clear HO_6
      have HO_0 := n0_
      have HO_5 := n1_
      have HO_7 := n2_
      have HO_186008 := n3_
      have HO_187007 := n4_
      have BK185 := n5_
      have BK186 := n6_
      have HO197 := n7_
      have HO203 := n8_
      have HB := n9_
      have HO200 := n10_
      clear n0_ n1_ n2_ n3_ n4_ n5_ n6_ n7_ n8_ n9_ n10_
      clear ho hb hg hat
      refine hK.out _ _ ⟨(bc_ BK185.out 0).trans rfl, (bc_ BK185.out 1).trans rfl, (bc_ BK185.out 2).trans rfl, (bc_ BK185.out 3).trans rfl, (bc_ BK185.out 4).trans rfl, (bc_ BK185.out 5).trans rfl, (bc_ BK185.out 6).trans rfl, (bc_ BK185.out 7).trans rfl, (bc_ BK185.out 8).trans rfl⟩ (fun hHeld => ?_)
      clear hK K
      refine norm_ (a' := ?_) ?_ ?_
      rotate_left
      ·show Act.put _ (some 72) _ = _
       simp only [Act.put, List.setIfInBounds_toArray, List.set_cons_zero, List.set_cons_succ, i64_w, i32_w]
       rfl
      exact norm_ (by simp only [putAll, Act.put, List.setIfInBounds_toArray, List.set_cons_zero, List.set_cons_succ]) (hCont (.slice Ao48 y195.length co48, v199, v202) _ ⟨hHeld, (by (with_reducible repeat (first | apply Ra_ | apply RN_ | apply R1_)); exact Kd.R_mono HO197.out (fun _ hk => ⟨hk.1.1, ⟨hk.2, ⟨hk.1.2.2, hk.1.2.1⟩⟩⟩)), (by (with_reducible repeat (first | apply Ra_ | apply RN_ | apply R1_)); exact Kd.R_mono HO200.out (fun _ hk => ⟨hk.1, ⟨hk.2.2.1, ⟨hk.2.2.2, hk.2.1⟩⟩⟩)), (by (with_reducible repeat (first | apply Ra_ | apply RN_ | apply R1_)); exact Kd.R_mono HO203.out (fun _ hk => ⟨hk.1.1, ⟨hk.1.2.2, ⟨hk.2, hk.1.2.1⟩⟩⟩)), (by (with_reducible repeat (first | apply Va_ | apply VN_ | apply V1_)); exact Kd.V_mono HO_0.out (fun _ hk => ⟨hk.1.1, ⟨hk.1.2.2.2.1, ⟨hk.2, ⟨hk.1.2.2.2.2.1, ⟨hk.1.2.1, ⟨hk.1.2.2.1, ⟨hk.1.2.2.2.2.2.1, hk.1.2.2.2.2.2.2⟩⟩⟩⟩⟩⟩⟩)), (by (with_reducible repeat (first | apply Va_ | apply VN_ | apply V1_)); exact Kd.V_mono HO_186008.out (fun _ hk => ⟨hk.1.1, ⟨hk.1.2.2.2.1, ⟨hk.2, ⟨hk.1.2.2.2.2.1, ⟨hk.1.2.1, ⟨hk.1.2.2.1, ⟨hk.1.2.2.2.2.2.1, hk.1.2.2.2.2.2.2⟩⟩⟩⟩⟩⟩⟩)), (by (with_reducible repeat (first | apply Va_ | apply VN_ | apply V1_)); exact Kd.V_mono HO_187007.out (fun _ hk => ⟨hk.1.1, ⟨hk.1.2.2.2.1, ⟨hk.2, ⟨hk.1.2.2.2.2.1, ⟨hk.1.2.1, ⟨hk.1.2.2.1, ⟨hk.1.2.2.2.2.2.1, hk.1.2.2.2.2.2.2⟩⟩⟩⟩⟩⟩⟩)), (by (with_reducible repeat (first | apply Kd.N_alloc | apply Kd.N_drewN | apply Kd.N_drew)); exact Kd.N_mono HO_5.out (fun _ hk => ⟨hk.1.1, ⟨hk.1.2.2.1, ⟨hk.2, ⟨hk.1.2.2.2.1, ⟨hk.1.2.1, ⟨hk.1.2.2.2.2.1, hk.1.2.2.2.2.2⟩⟩⟩⟩⟩⟩)), (by (with_reducible repeat (first | apply Ra_ | apply RN_ | apply R1_)); exact Kd.R_mono HO_7.out (fun _ hk => ⟨hk.1.1, ⟨hk.1.2.1, ⟨hk.2, hk.1.2.2⟩⟩⟩)), (wB_ BK185.out), (wB_ BK186.out), (wb2_ HB.out GE185.out GE186.out)⟩)
     rintro ⟨v196, v199, v202⟩ w49 ⟨hS_, h0_, h1_, h2_, h3_, h4_, h5_, h6_, h7_, h8_, h9_, h10_⟩
     have n0_ : Aside0 (Kd.R Kd.string 9 w49 w.heap.size (fun k_ => (w.heap.size ≤ k_) ∧ some k_ ≠ (v199 : Value).ownBlock ∧ some k_ ≠ (v202 : Value).ownBlock ∧ some k_ ≠ (.slice Ao41 x7_1.length co41 : Value).ownBlock) v196 y195) := ⟨h0_⟩
     have n1_ : Aside0 (Kd.R Kd.string 9 w49 w.heap.size (fun k_ => (w.heap.size ≤ k_) ∧ some k_ ≠ (v196 : Value).ownBlock ∧ some k_ ≠ (v202 : Value).ownBlock ∧ some k_ ≠ (.slice Ao41 x7_1.length co41 : Value).ownBlock) v199 y198) := ⟨h1_⟩
     have n2_ : Aside0 (Kd.R Kd.string 9 w49 w.heap.size (fun k_ => (w.heap.size ≤ k_) ∧ some k_ ≠ (v196 : Value).ownBlock ∧ some k_ ≠ (v199 : Value).ownBlock ∧ some k_ ≠ (.slice Ao41 x7_1.length co41 : Value).ownBlock) v202 y201) := ⟨h2_⟩
     have n3_ : Aside0 (Kd.V k40 40 w49 w.heap.size (fun k_ => (P0_ k_ ∨ w.heap.size ≤ k_) ∧ some k_ ≠ (v196 : Value).ownBlock ∧ some k_ ≠ (v199 : Value).ownBlock ∧ some k_ ≠ (v202 : Value).ownBlock ∧ some k_ ≠ (u5 : Value).ownBlock ∧ some k_ ≠ (.slice Ao41 x7_1.length co41 : Value).ownBlock ∧ k_ ≠ gb185 ∧ k_ ≠ gb186) (.slice A0 l0.length c0) l0) := ⟨h3_⟩
     have n4_ : Aside0 (Kd.V (Kd.int .u8) 5 w49 w.heap.size (fun k_ => (P0_ k_ ∨ w.heap.size ≤ k_) ∧ some k_ ≠ (v196 : Value).ownBlock ∧ some k_ ≠ (v199 : Value).ownBlock ∧ some k_ ≠ (v202 : Value).ownBlock ∧ some k_ ≠ (u5 : Value).ownBlock ∧ some k_ ≠ (.slice Ao41 x7_1.length co41 : Value).ownBlock ∧ k_ ≠ gb185 ∧ k_ ≠ gb186) (.slice Ao10 t181.length co10) t181) := ⟨h4_⟩
     have n5_ : Aside0 (Kd.V (Kd.int .u8) 5 w49 w.heap.size (fun k_ => (P0_ k_ ∨ w.heap.size ≤ k_) ∧ some k_ ≠ (v196 : Value).ownBlock ∧ some k_ ≠ (v199 : Value).ownBlock ∧ some k_ ≠ (v202 : Value).ownBlock ∧ some k_ ≠ (u5 : Value).ownBlock ∧ some k_ ≠ (.slice Ao41 x7_1.length co41 : Value).ownBlock ∧ k_ ≠ gb185 ∧ k_ ≠ gb186) (.slice Ao10 t181.length co10) t181) := ⟨h5_⟩
     have n6_ : Aside0 (Kd.N k45 45 w49 w.heap.size (fun k_ => (P0_ k_ ∨ w.heap.size ≤ k_) ∧ some k_ ≠ (v196 : Value).ownBlock ∧ some k_ ≠ (v199 : Value).ownBlock ∧ some k_ ≠ (v202 : Value).ownBlock ∧ some k_ ≠ (.slice Ao41 x7_1.length co41 : Value).ownBlock ∧ k_ ≠ gb185 ∧ k_ ≠ gb186) u5 x5_1) := ⟨h6_⟩
     have n7_ : Aside0 (Kd.R Kd.string 9 w49 w.heap.size (fun k_ => (w.heap.size ≤ k_) ∧ some k_ ≠ (v196 : Value).ownBlock ∧ some k_ ≠ (v199 : Value).ownBlock ∧ some k_ ≠ (v202 : Value).ownBlock) (.slice Ao41 x7_1.length co41) x7_1) := ⟨h7_⟩
     have n8_ : Aside0 (w49.heap[gb185]? = some (.cells #[.string t173, .string t174, .string t175, .int .u8 t176, .int .i64 t177, .int .i64 t178, .int .i64 t179, .int .i64 t180, .slice Ao10 t181.length co10] 40 (0, 0))) := ⟨h8_⟩
     have n9_ : Aside0 (w49.heap[gb186]? = some (.cells #[.string t173, .string t174, .int .u8 t176, .int .i64 t177, .int .i64 t178, .int .i64 t179, .int .i64 t180, .slice Ao10 t181.length co10] 45 (0, 0))) := ⟨h9_⟩
     have n10_ : Aside0 (Below w.heap.size w w49) := ⟨h10_⟩
     clear HO_0
     clear HO_5
     clear HO_6
     clear HO_7
     clear HO_186008
     clear HO_187007
     clear BK185
     clear BK186
     clear HB
     clear h0_ h1_ h2_ h3_ h4_ h5_ h6_ h7_ h8_ h9_ h10_
     have HO197 := n0_
     have HO200 := n1_
     have HO203 := n2_
     have HO_0 := n3_
     have HO_186008 := n4_
     have HO_187007 := n5_
     have HO_5 := n6_
     have HO_7 := n7_
     have BK185 := n8_
     have BK186 := n9_
     have HB := n10_
     clear n0_ n1_ n2_ n3_ n4_ n5_ n6_ n7_ n8_ n9_ n10_
     have hHeld : w49.cell? ⟨gb185, 0, none⟩ = some (.string t173) ∧ w49.cell? ⟨gb185, 1, none⟩ = some (.string t174) ∧ w49.cell? ⟨gb185, 2, none⟩ = some (.string t175) ∧ w49.cell? ⟨gb185, 3, none⟩ = some (.int .u8 t176) ∧ w49.cell? ⟨gb185, 4, none⟩ = some (.int .i64 t177) ∧ w49.cell? ⟨gb185, 5, none⟩ = some (.int .i64 t178) ∧ w49.cell? ⟨gb185, 6, none⟩ = some (.int .i64 t179) ∧ w49.cell? ⟨gb185, 7, none⟩ = some (.int .i64 t180) ∧ w49.cell? ⟨gb185, 8, none⟩ = some (.slice Ao10 t181.length co10) := hS_
     obtain ⟨Ao51, co51, eo51⟩ := Kd.R_slice HO203.out
     (first | subst eo51 | (injection eo51 with f1_ f2_ f3_; have f4_ := f1_.symm; have f5_ := f3_.symm; clear f1_ f2_ f3_; subst f4_; subst f5_))
     refine norm_ (a' := ?_) ?_ ?_
     rotate_left
     ·simp only [putAll, Act.put, List.setIfInBounds_toArray, List.set_cons_zero, List.set_cons_succ]
      rfl
     refine one_ (i := 9) (N := some 77) q20_38 rfl rfl (one_of HT_.out (by kernel_rfl)) (by decide) (fun K hK => ?_)
     refine Kd.R_append_rows_step Kd.string (w0 := w) w.heap.size (by rfl) (.tmp 73) (.tmp 76) 26 9 (.string ⟨#[]⟩) 16 rfl Tryd.underlying26 info9 rfl (by decide) (by omega) (.slice Ao41 x7_1.length co41) x7_1 y201 _ _ _ (fun k_ => (w.heap.size ≤ k_) ∧ some k_ ≠ (v196 : Value).ownBlock ∧ some k_ ≠ (v199 : Value).ownBlock ∧ some k_ ≠ (.slice Ao51 y201.length co51 : Value).ownBlock) (fun _ => False) rfl rfl ?aO ?aR (fun _ _ h => h) (fun _ h => h.elim) ?aF ?aB ?aS ?aL ?_
     (case aR => exact wc_ (Kd.R_reads' HO203.out).2.2)
     (case aB => exact (wb2_ HB.out GE185.out GE186.out))
     (case aF => exact (fun k_ hk => ⟨(Nat.le_trans (below_size (wb2_ HB.out GE185.out GE186.out)) hk), Kd.fresh' (Kd.R_lt (wR_ HO197.out)) k_ hk, Kd.fresh' (Kd.R_lt (wR_ HO200.out)) k_ hk, Kd.fresh' (Kd.R_lt (wR_ HO203.out)) k_ hk⟩))
     (case aO => exact (wR_ HO_7.out))
     (case aS => exact (below_size (wb2_ HB.out GE185.out GE186.out)))
     (case aL => have := LMc37.out; omega)
     intro v205 w50 ho hb hg hat
     rw [← Ny204.out] at ho
     have n0_ := A0_ (Kd.V_afterv (ok := (fun k_ => (P0_ k_ ∨ w.heap.size ≤ k_) ∧ some k_ ≠ (u5 : Value).ownBlock ∧ some k_ ≠ (v196 : Value).ownBlock ∧ some k_ ≠ (v199 : Value).ownBlock ∧ some k_ ≠ (.slice Ao51 y201.length co51 : Value).ownBlock ∧ k_ ≠ gb185 ∧ k_ ≠ gb186)) (by (with_reducible repeat (first | apply Va_ | apply VN_ | apply V1_)); exact Kd.V_mono HO_0.out (fun _ hk => ⟨⟨hk.1, ⟨hk.2.2.2.2.1, ⟨hk.2.1, ⟨hk.2.2.1, ⟨hk.2.2.2.1, ⟨hk.2.2.2.2.2.2.1, hk.2.2.2.2.2.2.2⟩⟩⟩⟩⟩⟩, hk.2.2.2.2.2.1⟩)) hg hat)
     have n1_ := A0_ (Kd.N_afterv (ok := (fun k_ => (P0_ k_ ∨ w.heap.size ≤ k_) ∧ some k_ ≠ (v196 : Value).ownBlock ∧ some k_ ≠ (v199 : Value).ownBlock ∧ some k_ ≠ (.slice Ao51 y201.length co51 : Value).ownBlock ∧ k_ ≠ gb185 ∧ k_ ≠ gb186)) (by (with_reducible repeat (first | apply Kd.N_alloc | apply Kd.N_drewN | apply Kd.N_drew)); exact Kd.N_mono HO_5.out (fun _ hk => ⟨⟨hk.1, ⟨hk.2.1, ⟨hk.2.2.1, ⟨hk.2.2.2.1, ⟨hk.2.2.2.2.2.1, hk.2.2.2.2.2.2⟩⟩⟩⟩⟩, hk.2.2.2.2.1⟩)) hg hat)
     have n2_ := A0_ (Kd.V_afterv (ok := (fun k_ => (P0_ k_ ∨ w.heap.size ≤ k_) ∧ some k_ ≠ (u5 : Value).ownBlock ∧ some k_ ≠ (v196 : Value).ownBlock ∧ some k_ ≠ (v199 : Value).ownBlock ∧ some k_ ≠ (.slice Ao51 y201.length co51 : Value).ownBlock ∧ k_ ≠ gb185 ∧ k_ ≠ gb186)) (by (with_reducible repeat (first | apply Va_ | apply VN_ | apply V1_)); exact Kd.V_mono HO_186008.out (fun _ hk => ⟨⟨hk.1, ⟨hk.2.2.2.2.1, ⟨hk.2.1, ⟨hk.2.2.1, ⟨hk.2.2.2.1, ⟨hk.2.2.2.2.2.2.1, hk.2.2.2.2.2.2.2⟩⟩⟩⟩⟩⟩, hk.2.2.2.2.2.1⟩)) hg hat)
     have n3_ := A0_ (Kd.V_afterv (ok := (fun k_ => (P0_ k_ ∨ w.heap.size ≤ k_) ∧ some k_ ≠ (u5 : Value).ownBlock ∧ some k_ ≠ (v196 : Value).ownBlock ∧ some k_ ≠ (v199 : Value).ownBlock ∧ some k_ ≠ (.slice Ao51 y201.length co51 : Value).ownBlock ∧ k_ ≠ gb185 ∧ k_ ≠ gb186)) (by (with_reducible repeat (first | apply Va_ | apply VN_ | apply V1_)); exact Kd.V_mono HO_187007.out (fun _ hk => ⟨⟨hk.1, ⟨hk.2.2.2.2.1, ⟨hk.2.1, ⟨hk.2.2.1, ⟨hk.2.2.2.1, ⟨hk.2.2.2.2.2.2.1, hk.2.2.2.2.2.2.2⟩⟩⟩⟩⟩⟩, hk.2.2.2.2.2.1⟩)) hg hat)
     have n4_ := A0_ (blk_grown (g := gb185) (o := .cells #[.string t173, .string t174, .string t175, .int .u8 t176, .int .i64 t177, .int .i64 t178, .int .i64 t179, .int .i64 t180, .slice Ao10 t181.length co10] 40 (0, 0)) (wB_ BK185.out) hg (Kd.R_ne HO_7.out BK185.out (by decide)))
     have n5_ := A0_ (blk_grown (g := gb186) (o := .cells #[.string t173, .string t174, .int .u8 t176, .int .i64 t177, .int .i64 t178, .int .i64 t179, .int .i64 t180, .slice Ao10 t181.length co10] 45 (0, 0)) (wB_ BK186.out) hg (Kd.R_ne HO_7.out BK186.out (by decide)))
     have n6_ := A0_ (Kd.R_after (ok := (fun k_ => (w.heap.size ≤ k_) ∧ some k_ ≠ (v199 : Value).ownBlock ∧ some k_ ≠ (.slice Ao51 y201.length co51 : Value).ownBlock)) (by (with_reducible repeat (first | apply Ra_ | apply RN_ | apply R1_)); exact Kd.R_mono HO197.out (fun _ hk => ⟨⟨hk.1, ⟨hk.2.1, hk.2.2.1⟩⟩, hk.2.2.2⟩)) hg hat)
     have n7_ := A0_ (Kd.R_after (ok := (fun k_ => (w.heap.size ≤ k_) ∧ some k_ ≠ (v196 : Value).ownBlock ∧ some k_ ≠ (.slice Ao51 y201.length co51 : Value).ownBlock)) (by (with_reducible repeat (first | apply Ra_ | apply RN_ | apply R1_)); exact Kd.R_mono HO200.out (fun _ hk => ⟨⟨hk.1, ⟨hk.2.1, hk.2.2.1⟩⟩, hk.2.2.2⟩)) hg hat)
     have n8_ := A0_ (Kd.R_after (ok := (fun k_ => (w.heap.size ≤ k_) ∧ some k_ ≠ (v196 : Value).ownBlock ∧ some k_ ≠ (v199 : Value).ownBlock)) (by (with_reducible repeat (first | apply Ra_ | apply RN_ | apply R1_)); exact Kd.R_mono HO203.out (fun _ hk => ⟨⟨hk.1, ⟨hk.2.1, hk.2.2.1⟩⟩, hk.2.2.2⟩)) hg hat)
     have n9_ := A0_ (hb)
     have n10_ := A0_ (ho)
     clear HO_0
     clear HO_5
     clear HO_186008
     clear HO_187007
     clear BK185
     clear BK186
     clear HO197
     clear HO200
     clear HO203
     clear HB
     clear HO_7
     have HO_0 := n0_
     have HO_5 := n1_
     have HO_186008 := n2_
     have HO_187007 := n3_
     have BK185 := n4_
     have BK186 := n5_
     have HO197 := n6_
     have HO200 := n7_
     have HO203 := n8_
     have HB := n9_
     have HO206 := n10_
     clear n0_ n1_ n2_ n3_ n4_ n5_ n6_ n7_ n8_ n9_ n10_
     clear ho hb hg hat
     refine hK.out _ _ ⟨(bc_ BK185.out 0).trans rfl, (bc_ BK185.out 1).trans rfl, (bc_ BK185.out 2).trans rfl, (bc_ BK185.out 3).trans rfl, (bc_ BK185.out 4).trans rfl, (bc_ BK185.out 5).trans rfl, (bc_ BK185.out 6).trans rfl, (bc_ BK185.out 7).trans rfl, (bc_ BK185.out 8).trans rfl⟩ (fun hHeld => ?_)
     clear hK K
     refine norm_ (a' := ?_) ?_ ?_
     rotate_left
     ·show Act.put _ (some 77) _ = _
      simp only [Act.put, List.setIfInBounds_toArray, List.set_cons_zero, List.set_cons_succ, i64_w, i32_w]
      rfl
     refine pur_ (i := 10) (N := some 6) q20_39 (any_of HT_.out (by kernel_rfl)) ?_
     refine pur_ (i := 11) (N := some 7) q20_40 (any_of HT_.out (by kernel_rfl)) ?_
     refine done_ (done_of HT_.out (by kernel_rfl)) ?_
     have hnb52 := NB186_185.out
     have hnc52 := NB185_186.out
     have hcz53_0 : w50.cell? ⟨gb186, 0, none⟩ = some (.string t173) := (bc_ BK186.out 0).trans rfl
     have hcz53_1 : w50.cell? ⟨gb186, 1, none⟩ = some (.string t174) := (bc_ BK186.out 1).trans rfl
     have hcz53_2 : w50.cell? ⟨gb186, 2, none⟩ = some (.int .u8 t176) := (bc_ BK186.out 2).trans rfl
     have hcz53_3 : w50.cell? ⟨gb186, 3, none⟩ = some (.int .i64 t177) := (bc_ BK186.out 3).trans rfl
     have hcz53_4 : w50.cell? ⟨gb186, 4, none⟩ = some (.int .i64 t178) := (bc_ BK186.out 4).trans rfl
     have hcz53_5 : w50.cell? ⟨gb186, 5, none⟩ = some (.int .i64 t179) := (bc_ BK186.out 5).trans rfl
     have hcz53_6 : w50.cell? ⟨gb186, 6, none⟩ = some (.int .i64 t180) := (bc_ BK186.out 6).trans rfl
     have hcz53_7 : w50.cell? ⟨gb186, 7, none⟩ = some (.slice Ao10 t181.length co10) := (bc_ BK186.out 7).trans rfl
     have hfz53_0 := bf_ BK186.out 0
     have hfz53_1 := bf_ BK186.out 1
     have hfz53_2 := bf_ BK186.out 2
     have hfz53_3 := bf_ BK186.out 3
     have hfz53_4 := bf_ BK186.out 4
     have hfz53_5 := bf_ BK186.out 5
     have hfz53_6 := bf_ BK186.out 6
     have hfz53_7 := bf_ BK186.out 7
     try go_wp2_with (first | ((with_reducible refine gate_dst (N := 80) rfl ?_); refine Kd.N_lit k45 _ 45 ?hg (N' := 80) ?hd (xs := ([(⟨t173, t174, t176, (⟨t177, t178, t179, t180⟩ : S38), t181⟩ : S45)] : List (S45))) (inner := [.string t173, .string t174, .int .u8 t176, .int .i64 t177, .int .i64 t178, .int .i64 t179, .int .i64 t180, .slice Ao10 t181.length co10]) (ok := (fun k_ => (P0_ k_ ∨ w.heap.size ≤ k_) ∧ some k_ ≠ (u5 : Value).ownBlock ∧ some k_ ≠ (v196 : Value).ownBlock ∧ some k_ ≠ (v199 : Value).ownBlock ∧ some k_ ≠ (.slice Ao51 y201.length co51 : Value).ownBlock ∧ some k_ ≠ (v205 : Value).ownBlock ∧ k_ ≠ gb185 ∧ k_ ≠ gb186)) (okp := (fun k_ => (P0_ k_ ∨ w.heap.size ≤ k_) ∧ some k_ ≠ (u5 : Value).ownBlock ∧ some k_ ≠ (v196 : Value).ownBlock ∧ some k_ ≠ (v199 : Value).ownBlock ∧ some k_ ≠ (.slice Ao51 y201.length co51 : Value).ownBlock ∧ some k_ ≠ (v205 : Value).ownBlock ∧ k_ ≠ gb185 ∧ k_ ≠ gb186)) ?hr ?hp (fun _ hk => hk) ((show ∀ k_, w50.heap.size ≤ k_ → (fun k_ => (P0_ k_ ∨ w.heap.size ≤ k_) ∧ some k_ ≠ (u5 : Value).ownBlock ∧ some k_ ≠ (v196 : Value).ownBlock ∧ some k_ ≠ (v199 : Value).ownBlock ∧ some k_ ≠ (.slice Ao51 y201.length co51 : Value).ownBlock ∧ some k_ ≠ (v205 : Value).ownBlock ∧ k_ ≠ gb185 ∧ k_ ≠ gb186) k_ from fun k_ hk => ⟨(.inr (Nat.le_trans (below_size (wb2_ HB.out GE185.out GE186.out)) hk)), Kd.fresh' (Kd.N_lt (wN_ HO_5.out)) k_ hk, Kd.fresh' (Kd.R_lt (wR_ HO197.out)) k_ hk, Kd.fresh' (Kd.R_lt (wR_ HO200.out)) k_ hk, Kd.fresh' (Kd.R_lt (wR_ HO203.out)) k_ hk, Kd.fresh' (Kd.R_lt (wR_ HO206.out)) k_ hk, Kd.freshB (g := gb185) (o := .cells #[.string t173, .string t174, .string t175, .int .u8 t176, .int .i64 t177, .int .i64 t178, .int .i64 t179, .int .i64 t180, .slice Ao10 t181.length co10] 40 (0, 0)) (wB_ BK185.out) k_ hk, Kd.freshB (g := gb186) (o := .cells #[.string t173, .string t174, .int .u8 t176, .int .i64 t177, .int .i64 t178, .int .i64 t179, .int .i64 t180, .slice Ao10 t181.length co10] 45 (0, 0)) (wB_ BK186.out) k_ hk⟩) _ (Nat.le_refl _)) (Below.refl _ _) (Nat.le_refl _) (by simp) ?_; (case hd => rfl); (case hg => rfl); (case hr => first | (go_simp; done) | (go_simp; rfl)); (case hp => exact (Reps.c8 (show Kd.FK k45 _ _ (⟨t173, t174, t176, (⟨t177, t178, t179, t180⟩ : S38), t181⟩ : S45) [.string t173, .string t174, .int .u8 t176, .int .i64 t177, .int .i64 t178, .int .i64 t179, .int .i64 t180, .slice Ao10 t181.length co10] from (k45_mkF _ _ (⟨t173, t174, t176, (⟨t177, t178, t179, t180⟩ : S38), t181⟩ : S45) (Kd.V_reads' (Kd.V_mono (ok' := (fun k_ => (P0_ k_ ∨ w.heap.size ≤ k_) ∧ some k_ ≠ (u5 : Value).ownBlock ∧ some k_ ≠ (v196 : Value).ownBlock ∧ some k_ ≠ (v199 : Value).ownBlock ∧ some k_ ≠ (.slice Ao51 y201.length co51 : Value).ownBlock ∧ some k_ ≠ (v205 : Value).ownBlock ∧ k_ ≠ gb185 ∧ k_ ≠ gb186)) (HO_187007.out) (fun k_ hk => ⟨hk.1.1, ⟨hk.1.2.1, ⟨hk.1.2.2.1, ⟨hk.1.2.2.2.1, ⟨hk.1.2.2.2.2.1, ⟨hk.2, ⟨hk.1.2.2.2.2.2.1, hk.1.2.2.2.2.2.2⟩⟩⟩⟩⟩⟩⟩))).2.1 (Kd.V_F (Kd.V_mono (ok' := (fun k_ => (P0_ k_ ∨ w.heap.size ≤ k_) ∧ some k_ ≠ (u5 : Value).ownBlock ∧ some k_ ≠ (v196 : Value).ownBlock ∧ some k_ ≠ (v199 : Value).ownBlock ∧ some k_ ≠ (.slice Ao51 y201.length co51 : Value).ownBlock ∧ some k_ ≠ (v205 : Value).ownBlock ∧ k_ ≠ gb185 ∧ k_ ≠ gb186)) (HO_187007.out) (fun k_ hk => ⟨hk.1.1, ⟨hk.1.2.1, ⟨hk.1.2.2.1, ⟨hk.1.2.2.2.1, ⟨hk.1.2.2.2.2.1, ⟨hk.2, ⟨hk.1.2.2.2.2.2.1, hk.1.2.2.2.2.2.2⟩⟩⟩⟩⟩⟩⟩))))) (Reps.none _ _))); intro v208 w54 ho55 hb hg_ hnew_; clear hg_ hnew_; (first | rw [← Ny207.out] at ho55 | (simp only [Int.reduceToNat] at ho55; rw [← Ny207.out] at ho55)); have n0_ := A0_ (Kd.V_elder' (wV_ HO_0.out) (Kd.N_base ho55) hb); have n1_ := A0_ (Kd.N_elder' (wN_ HO_5.out) (Kd.N_base ho55) hb); have n2_ := A0_ (Kd.V_elder' (wV_ HO_186008.out) (Kd.N_base ho55) hb); have n3_ := A0_ (Kd.V_elder' (wV_ HO_187007.out) (Kd.N_base ho55) hb); have n4_ := A0_ (Rb_ (wR_ HO197.out) hb); have n5_ := A0_ (Rb_ (wR_ HO200.out) hb); have n6_ := A0_ (Rb_ (wR_ HO203.out) hb); have n7_ := A0_ (Rb_ (wR_ HO206.out) hb); have n8_ := A0_ (Kd.N_lower ho55 (below_size (wb2_ HB.out GE185.out GE186.out))); have n9_ := A0_ (blk_below (g := gb185) (o := .cells #[.string t173, .string t174, .string t175, .int .u8 t176, .int .i64 t177, .int .i64 t178, .int .i64 t179, .int .i64 t180, .slice Ao10 t181.length co10] 40 (0, 0)) (wB_ BK185.out) hb); have n10_ := A0_ (blk_below (g := gb186) (o := .cells #[.string t173, .string t174, .int .u8 t176, .int .i64 t177, .int .i64 t178, .int .i64 t179, .int .i64 t180, .slice Ao10 t181.length co10] 45 (0, 0)) (wB_ BK186.out) hb); have n11_ := A0_ (below_step (wb2_ HB.out GE185.out GE186.out) hb); clear HO_0; clear HO_5; clear HO_186008; clear HO_187007; clear HO197; clear HO200; clear HO203; clear HO206; clear BK185; clear BK186; clear HB; have HO_0 := n0_; have HO_5 := n1_; have HO_186008 := n2_; have HO_187007 := n3_; have HO197 := n4_; have HO200 := n5_; have HO203 := n6_; have HO206 := n7_; have HO209 := n8_; have BK185 := n9_; have BK186 := n10_; have HB := n11_; clear n0_ n1_ n2_ n3_ n4_ n5_ n6_ n7_ n8_ n9_ n10_ n11_; clear hb ho55; obtain ⟨Ao57, co57, eo57⟩ := Kd.N_slice HO209.out; subst eo57) | ((with_reducible refine gate_builtin (b := .append) (xs := #[.tmp 78, .tmp 80]) rfl ?_); at_builtin; refine Kd.N_append_rows k45 (w0 := w) w.heap.size rfl (.tmp 78) (.tmp 80) 28 45 (.agg #[(.string ⟨#[]⟩), (.string ⟨#[]⟩), (.int .u8 0), (.int .i64 0), (.int .i64 0), (.int .i64 0), (.int .i64 0), (.slice none 0 0)]) 96 rfl Tryd.underlying28 info45 rfl (by decide) (by omega) u5 x5_1 y207 _ _ _ (fun k_ => (P0_ k_ ∨ w.heap.size ≤ k_) ∧ some k_ ≠ (v196 : Value).ownBlock ∧ some k_ ≠ (v199 : Value).ownBlock ∧ some k_ ≠ (.slice Ao51 y201.length co51 : Value).ownBlock ∧ some k_ ≠ (v205 : Value).ownBlock ∧ k_ ≠ gb185 ∧ k_ ≠ gb186) (fun k_ => ((fun k_ => (P0_ k_ ∨ w.heap.size ≤ k_) ∧ some k_ ≠ (v196 : Value).ownBlock ∧ some k_ ≠ (v199 : Value).ownBlock ∧ some k_ ≠ (.slice Ao51 y201.length co51 : Value).ownBlock ∧ some k_ ≠ (v205 : Value).ownBlock ∧ k_ ≠ gb185 ∧ k_ ≠ gb186)) k_ ∧ some k_ ≠ (u5 : Value).ownBlock) rfl rfl ?aO ?aR (fun _ hk => hk) ?aF ?aB ?aS ?aL ?_; (case aR => exact (by skip; exact Kd.N_F (Kd.N_mono (ok' := (fun k_ => ((fun k_ => (P0_ k_ ∨ w.heap.size ≤ k_) ∧ some k_ ≠ (v196 : Value).ownBlock ∧ some k_ ≠ (v199 : Value).ownBlock ∧ some k_ ≠ (.slice Ao51 y201.length co51 : Value).ownBlock ∧ some k_ ≠ (v205 : Value).ownBlock ∧ k_ ≠ gb185 ∧ k_ ≠ gb186)) k_ ∧ some k_ ≠ (u5 : Value).ownBlock)) (HO209.out) (fun k_ hk => ⟨⟨hk.1, ⟨hk.2.2.1, ⟨hk.2.2.2.1, ⟨hk.2.2.2.2.1, ⟨hk.2.2.2.2.2.1, ⟨hk.2.2.2.2.2.2.1, hk.2.2.2.2.2.2.2⟩⟩⟩⟩⟩⟩, hk.2.1⟩)))); (case aB => exact (wb2_ HB.out GE185.out GE186.out)); (case aF => exact (fun k_ hk => ⟨(.inr (Nat.le_trans (below_size (wb2_ HB.out GE185.out GE186.out)) hk)), Kd.fresh' (Kd.R_lt (wR_ HO197.out)) k_ hk, Kd.fresh' (Kd.R_lt (wR_ HO200.out)) k_ hk, Kd.fresh' (Kd.R_lt (wR_ HO203.out)) k_ hk, Kd.fresh' (Kd.R_lt (wR_ HO206.out)) k_ hk, Kd.freshB (g := gb185) (o := .cells #[.string t173, .string t174, .string t175, .int .u8 t176, .int .i64 t177, .int .i64 t178, .int .i64 t179, .int .i64 t180, .slice Ao10 t181.length co10] 40 (0, 0)) (wB_ BK185.out) k_ hk, Kd.freshB (g := gb186) (o := .cells #[.string t173, .string t174, .int .u8 t176, .int .i64 t177, .int .i64 t178, .int .i64 t179, .int .i64 t180, .slice Ao10 t181.length co10] 45 (0, 0)) (wB_ BK186.out) k_ hk⟩)); (case aO => exact (by (with_reducible repeat (first | apply Kd.N_alloc | apply Kd.N_drewN | apply Kd.N_drew)); exact Kd.N_mono HO_5.out (fun _ hk => ⟨hk.1.1.1, ⟨hk.1.1.2.1, ⟨hk.1.1.2.2.1, ⟨hk.1.1.2.2.2.1, ⟨hk.1.2, ⟨hk.1.1.2.2.2.2.1, hk.1.1.2.2.2.2.2⟩⟩⟩⟩⟩⟩))); (case aS => exact (below_size (wb2_ HB.out GE185.out GE186.out))); (case aL => have := LMc38.out; omega); intro v211 w56 ho hb hg hat; rw [← Ny210.out] at ho; have n0_ := A0_ (Kd.V_afterv (ok := (fun k_ => (P0_ k_ ∨ w.heap.size ≤ k_) ∧ some k_ ≠ (v196 : Value).ownBlock ∧ some k_ ≠ (v199 : Value).ownBlock ∧ some k_ ≠ (.slice Ao51 y201.length co51 : Value).ownBlock ∧ some k_ ≠ (v205 : Value).ownBlock ∧ some k_ ≠ (.slice Ao57 y207.length co57 : Value).ownBlock ∧ k_ ≠ gb185 ∧ k_ ≠ gb186)) (by (with_reducible repeat (first | apply Va_ | apply VN_ | apply V1_)); exact Kd.V_mono HO_0.out (fun _ hk => ⟨⟨hk.1.1.1, ⟨hk.1.1.2.2.1, ⟨hk.1.1.2.2.2.1, ⟨hk.1.1.2.2.2.2.1, ⟨hk.1.2, ⟨hk.2, ⟨hk.1.1.2.2.2.2.2.1, hk.1.1.2.2.2.2.2.2⟩⟩⟩⟩⟩⟩⟩, hk.1.1.2.1⟩)) hg hat); have n1_ := A0_ (Kd.V_afterv (ok := (fun k_ => (P0_ k_ ∨ w.heap.size ≤ k_) ∧ some k_ ≠ (v196 : Value).ownBlock ∧ some k_ ≠ (v199 : Value).ownBlock ∧ some k_ ≠ (.slice Ao51 y201.length co51 : Value).ownBlock ∧ some k_ ≠ (v205 : Value).ownBlock ∧ some k_ ≠ (.slice Ao57 y207.length co57 : Value).ownBlock ∧ k_ ≠ gb185 ∧ k_ ≠ gb186)) (by (with_reducible repeat (first | apply Va_ | apply VN_ | apply V1_)); exact Kd.V_mono HO_186008.out (fun _ hk => ⟨⟨hk.1.1.1, ⟨hk.1.1.2.2.1, ⟨hk.1.1.2.2.2.1, ⟨hk.1.1.2.2.2.2.1, ⟨hk.1.2, ⟨hk.2, ⟨hk.1.1.2.2.2.2.2.1, hk.1.1.2.2.2.2.2.2⟩⟩⟩⟩⟩⟩⟩, hk.1.1.2.1⟩)) hg hat); have n2_ := A0_ (Kd.V_afterv (ok := (fun k_ => (P0_ k_ ∨ w.heap.size ≤ k_) ∧ some k_ ≠ (v196 : Value).ownBlock ∧ some k_ ≠ (v199 : Value).ownBlock ∧ some k_ ≠ (.slice Ao51 y201.length co51 : Value).ownBlock ∧ some k_ ≠ (v205 : Value).ownBlock ∧ some k_ ≠ (.slice Ao57 y207.length co57 : Value).ownBlock ∧ k_ ≠ gb185 ∧ k_ ≠ gb186)) (by (with_reducible repeat (first | apply Va_ | apply VN_ | apply V1_)); exact Kd.V_mono HO_187007.out (fun _ hk => ⟨⟨hk.1.1.1, ⟨hk.1.1.2.2.1, ⟨hk.1.1.2.2.2.1, ⟨hk.1.1.2.2.2.2.1, ⟨hk.1.2, ⟨hk.2, ⟨hk.1.1.2.2.2.2.2.1, hk.1.1.2.2.2.2.2.2⟩⟩⟩⟩⟩⟩⟩, hk.1.1.2.1⟩)) hg hat); have n3_ := A0_ (blk_grown (g := gb185) (o := .cells #[.string t173, .string t174, .string t175, .int .u8 t176, .int .i64 t177, .int .i64 t178, .int .i64 t179, .int .i64 t180, .slice Ao10 t181.length co10] 40 (0, 0)) (wB_ BK185.out) hg (Kd.N_ne HO_5.out BK185.out (by decide))); have n4_ := A0_ (blk_grown (g := gb186) (o := .cells #[.string t173, .string t174, .int .u8 t176, .int .i64 t177, .int .i64 t178, .int .i64 t179, .int .i64 t180, .slice Ao10 t181.length co10] 45 (0, 0)) (wB_ BK186.out) hg (Kd.N_away HO_5.out (fun _ hk => hk.1.1.2.2.2.2.2))); have n5_ := A0_ (Kd.R_over' (wR_ HO197.out) (Kd.N_typed (wN_ HO_5.out)) (by decide) hg); have n6_ := A0_ (Kd.R_over' (wR_ HO200.out) (Kd.N_typed (wN_ HO_5.out)) (by decide) hg); have n7_ := A0_ (Kd.R_over' (wR_ HO203.out) (Kd.N_typed (wN_ HO_5.out)) (by decide) hg); have n8_ := A0_ (Kd.R_over' (wR_ HO206.out) (Kd.N_typed (wN_ HO_5.out)) (by decide) hg); have n9_ := A0_ (Kd.N_afterv (ok := (fun k_ => (P0_ k_ ∨ w.heap.size ≤ k_) ∧ some k_ ≠ (v196 : Value).ownBlock ∧ some k_ ≠ (v199 : Value).ownBlock ∧ some k_ ≠ (.slice Ao51 y201.length co51 : Value).ownBlock ∧ some k_ ≠ (v205 : Value).ownBlock ∧ k_ ≠ gb185 ∧ k_ ≠ gb186)) (by (with_reducible repeat (first | apply Kd.N_alloc | apply Kd.N_drewN | apply Kd.N_drew)); exact Kd.N_mono HO209.out (fun _ hk => ⟨⟨hk.1, ⟨hk.2.2.1, ⟨hk.2.2.2.1, ⟨hk.2.2.2.2.1, ⟨hk.2.2.2.2.2.1, ⟨hk.2.2.2.2.2.2.1, hk.2.2.2.2.2.2.2⟩⟩⟩⟩⟩⟩, hk.2.1⟩)) hg hat); have n10_ := A0_ (hb); have n11_ := A0_ (ho); clear HO_0; clear HO_186008; clear HO_187007; clear BK185; clear BK186; clear HO197; clear HO200; clear HO203; clear HO206; clear HO209; clear HB; clear HO_5; have HO_0 := n0_; have HO_186008 := n1_; have HO_187007 := n2_; have BK185 := n3_; have BK186 := n4_; have HO197 := n5_; have HO200 := n6_; have HO203 := n7_; have HO206 := n8_; have HO209 := n9_; have HB := n10_; have HO212 := n11_; clear n0_ n1_ n2_ n3_ n4_ n5_ n6_ n7_ n8_ n9_ n10_ n11_; clear ho hb hg hat))
     go_roundg k2
     case measure => have := HK1.out; have := HK2.out; omega
     case rel => exact ⟨(y210), (y198), (y204), (wrap64 (x8_1 + 1)), wr_, H', ⟨by have := HK1.out; have := HK2.out; omega⟩, ⟨by (with_reducible repeat (first | apply Va_ | apply VN_ | apply V1_)); exact Kd.V_mono HO_0.out (fun _ hk => ⟨hk.1.1, ⟨hk.2, ⟨hk.1.2.2.1, hk.1.2.2.2.2.1⟩⟩⟩)⟩, ⟨by (with_reducible repeat (first | apply Kd.N_alloc | apply Kd.N_drewN | apply Kd.N_drew)); exact Kd.N_mono HO212.out (fun _ hk => ⟨hk.1, ⟨hk.2.2.1, hk.2.2.2.2.1⟩⟩)⟩, ⟨by (with_reducible repeat (first | apply Ra_ | apply RN_ | apply R1_)); exact Kd.R_mono HO200.out (fun _ hk => ⟨hk.1.1, hk.2⟩)⟩, ⟨by (with_reducible repeat (first | apply Ra_ | apply RN_ | apply R1_)); exact Kd.R_mono HO206.out (fun _ hk => ⟨hk.1, hk.2.2.1⟩)⟩, ⟨wb2_ HB.out GE185.out GE186.out⟩⟩
end Go.Proofs.YtfljbidecljlcaaDoor.Print

namespace Go.Proofs.YtfljbidecljlcaaDoor.Print
open Go.RowKit Go.Proofs.YtfljbidecljlcaaDoorW.PrintWords Go.Proofs.YtfljbidecljlcaaDoorW.PrintLast Go.Proofs.YtfljbidecljlcaaDoorW.PrintMore
attribute [local go_sem] max2_int min2_int max_two min_two max_three min_three max_four min_four   -- for this text's walks alone
set_option linter.unusedVariables false
set_option linter.unusedSimpArgs false
theorem eqA38 (d : Nat) (w : World) (x0 y0 : Int) (x1 y1 : Int) (x2 y2 : Int) (x3 y3 : Int) :
  (Op.equalIn (d + 2) 38 (.agg #[.int .i64 x0, .int .i64 x1, .int .i64 x2, .int .i64 x3]) (.agg #[.int .i64 y0, .int .i64 y1, .int .i64 y2, .int .i64 y3])).run Tryd.prog w = .ok (x0 == y0 && (x1 == y1 && (x2 == y2 && (x3 == y3)))) w := by
 refine eqA_of Tryd.underlying38 (by kernel_rfl) ?_
 refine eqf_cons (by rfl) (by go_simp; rfl) (by go_simp; rfl) (by go_simp) ?_
 refine eqf_cons (by rfl) (by go_simp; rfl) (by go_simp; rfl) (by go_simp) ?_
 refine eqf_cons (by rfl) (by go_simp; rfl) (by go_simp; rfl) (by go_simp) ?_
 exact eqf_last (by rfl) (by go_simp; rfl) (by go_simp; rfl) (by go_simp)
end Go.Proofs.YtfljbidecljlcaaDoor.Print

namespace Go.Proofs.YtfljbidecljlcaaDoor.Print
open Go.RowKit Go.Proofs.YtfljbidecljlcaaDoorW.PrintWords Go.Proofs.YtfljbidecljlcaaDoorW.PrintLast Go.Proofs.YtfljbidecljlcaaDoorW.PrintMore
attribute [local go_sem] max2_int min2_int max_two min_two max_three min_three max_four min_four   -- for this text's walks alone
set_option linter.unusedVariables false
set_option linter.unusedSimpArgs false
attribute [local go_sem high] eqA38
def bindleref08_Same.f (a0_0 : ByteArray) (a0_1 : ByteArray) (a0_2 : Int) (a0_3 : Int) (a0_4 : Int) (a0_5 : Int) (a0_6 : Int) (l0_7 : List Int) (a1_0 : ByteArray) (a1_1 : ByteArray) (a1_2 : Int) (a1_3 : Int) (a1_4 : Int) (a1_5 : Int) (a1_6 : Int) (l1_7 : List Int) : Option (Bool) := if a0_0.toList = a1_0.toList then (if a0_1.toList = a1_1.toList then (if a0_2 = a1_2 then (if (a0_3 == a1_3 && (a0_4 == a1_4 && (a0_5 == a1_5 && (a0_6 == a1_6)))) = true then (some ((strOfNums l0_7).toList == (strOfNums l1_7).toList)) else (some false)) else (some false)) else (some false)) else (some false)
set_option maxHeartbeats 8000000 in
set_option maxRecDepth 100000 in
theorem bindleref08_Same.calls (a0_0 : ByteArray) (a0_1 : ByteArray) (a0_2 : Int) (a0_3 : Int) (a0_4 : Int) (a0_5 : Int) (a0_6 : Int) (A0_7 : Option Addr) (c0_7 : Nat) (l0_7 : List Int) (a1_0 : ByteArray) (a1_1 : ByteArray) (a1_2 : Int) (a1_3 : Int) (a1_4 : Int) (a1_5 : Int) (a1_6 : Int) (A1_7 : Option Addr) (c1_7 : Nat) (l1_7 : List Int) (r : Bool) (w : World) (hr0_7 : Kd.C (Kd.int .u8) w A0_7 l0_7.length l0_7) (hc0_7 : l0_7.length ≤ c0_7) (hr1_7 : Kd.C (Kd.int .u8) w A1_7 l1_7.length l1_7) (hc1_7 : l1_7.length ≤ c1_7) (h : bindleref08_Same.f a0_0 a0_1 a0_2 a0_3 a0_4 a0_5 a0_6 l0_7 a1_0 a1_1 a1_2 a1_3 a1_4 a1_5 a1_6 l1_7 = some r) :
  Calls Tryd.prog 42 #[.agg #[.string a0_0, .string a0_1, .int .u8 a0_2, .int .i64 a0_3, .int .i64 a0_4, .int .i64 a0_5, .int .i64 a0_6, .slice A0_7 l0_7.length c0_7], .agg #[.string a1_0, .string a1_1, .int .u8 a1_2, .int .i64 a1_3, .int .i64 a1_4, .int .i64 a1_5, .int .i64 a1_6, .slice A1_7 l1_7.length c1_7]] w fun e w' => e = .returned (.bool r) ∧ Below w.heap.size w w' := by
 have hu45 := Tryd.underlying45
 have hu38 := Tryd.underlying38
 have HR0_7 := A0_ hr0_7
 have HC0_7 := A0_ hc0_7
 clear hr0_7 hc0_7
 have HR1_7 := A0_ hr1_7
 have HC1_7 := A0_ hc1_7
 clear hr1_7 hc1_7
 have HB := A0_ (Below.refl w.heap.size w)
 have H : (if a0_0.toList = a1_0.toList then (if a0_1.toList = a1_1.toList then (if a0_2 = a1_2 then (if (a0_3 == a1_3 && (a0_4 == a1_4 && (a0_5 == a1_5 && (a0_6 == a1_6)))) = true then (some ((strOfNums l0_7).toList == (strOfNums l1_7).toList)) else (some false)) else (some false)) else (some false)) else (some false)) = some r := h
 clear h
 by_cases c3 : a0_0.toList = a1_0.toList
 rotate_left
 ·rw [if_neg c3] at H
  have c3b0 : (a0_0.toList == a1_0.toList) = false := beq_eq_false_iff_ne.mpr c3
  have c3b1 : (a0_0.toList != a1_0.toList) = true := bne_iff_ne.mpr c3
  obtain rfl := Option.some.inj H
  go_enter Tryd.func42, Tryd.ntmps42
  go_wp2_with (first | ((with_reducible refine gate_dst (N := 2) rfl ?_); refine box_event ?hg (N := 2) ?hd (cs := #[.string a0_0, .string a0_1, .int .u8 a0_2, .int .i64 a0_3, .int .i64 a0_4, .int .i64 a0_5, .int .i64 a0_6, .slice A0_7 l0_7.length c0_7]) (t := 45) ?hr ?_; (case hd => rfl); (case hg => rfl); (case hr => first | (go_simp; done) | (go_simp; rfl)); intro gb164 hg w29 hbox hb; have n0_ := A0_ (below_step (wb_ HB.out) hb); have n1_ := A0_ (hbox); have n2_ := A0_ ((by rw [hg]; exact (below_size (wb_ HB.out)) : w.heap.size ≤ gb164)); have n3_ := A0_ ((by rw [hg]; exact (below_size (wb_ HB.out)) : w.heap.size ≤ gb164)); clear HB; have HB := n0_; have BK164 := n1_; have GW164 := n2_; have GE164 := n3_; clear n0_ n1_ n2_ n3_; clear hb hbox hg) | ((with_reducible refine gate_dst (N := 3) rfl ?_); refine box_event ?hg (N := 3) ?hd (cs := #[.string a1_0, .string a1_1, .int .u8 a1_2, .int .i64 a1_3, .int .i64 a1_4, .int .i64 a1_5, .int .i64 a1_6, .slice A1_7 l1_7.length c1_7]) (t := 45) ?hr ?_; (case hd => rfl); (case hg => rfl); (case hr => first | (go_simp; done) | (go_simp; rfl)); intro gb165 hg w30 hbox hb; have n0_ := A0_ (blk_below (g := gb164) (o := .cells #[.string a0_0, .string a0_1, .int .u8 a0_2, .int .i64 a0_3, .int .i64 a0_4, .int .i64 a0_5, .int .i64 a0_6, .slice A0_7 l0_7.length c0_7] 45 (0, 0)) (wB_ BK164.out) hb); have n1_ := A0_ (below_step (wb1_ HB.out GE164.out) hb); have n2_ := A0_ (hbox); have n3_ := A0_ ((by rw [hg]; exact (below_size (wb1_ HB.out GE164.out)) : w.heap.size ≤ gb165)); have n4_ := A0_ ((by rw [hg]; exact (below_size (wb1_ HB.out GE164.out)) : w.heap.size ≤ gb165)); have n5_ := A0_ ((by rw [hg]; exact Nat.ne_of_lt (blk_lt (g := gb164) (o := .cells #[.string a0_0, .string a0_1, .int .u8 a0_2, .int .i64 a0_3, .int .i64 a0_4, .int .i64 a0_5, .int .i64 a0_6, .slice A0_7 l0_7.length c0_7] 45 (0, 0)) (wB_ BK164.out)) : gb164 ≠ gb165)); have n6_ := A0_ ((by rw [hg]; exact Nat.ne_of_gt (blk_lt (g := gb164) (o := .cells #[.string a0_0, .string a0_1, .int .u8 a0_2, .int .i64 a0_3, .int .i64 a0_4, .int .i64 a0_5, .int .i64 a0_6, .slice A0_7 l0_7.length c0_7] 45 (0, 0)) (wB_ BK164.out)) : gb165 ≠ gb164)); clear BK164; clear HB; have BK164 := n0_; have HB := n1_; have BK165 := n2_; have GW165 := n3_; have GE165 := n4_; have NB164_165 := n5_; have NB165_164 := n6_; clear n0_ n1_ n2_ n3_ n4_ n5_ n6_; clear hb hbox hg; have hnb31 := NB164_165.out; have hnc31 := NB165_164.out; have hcz32_0 : w30.cell? ⟨gb164, 0, none⟩ = some (.string a0_0) := (bc_ BK164.out 0).trans rfl; have hcz32_1 : w30.cell? ⟨gb164, 1, none⟩ = some (.string a0_1) := (bc_ BK164.out 1).trans rfl; have hcz32_2 : w30.cell? ⟨gb164, 2, none⟩ = some (.int .u8 a0_2) := (bc_ BK164.out 2).trans rfl; have hcz32_3 : w30.cell? ⟨gb164, 3, none⟩ = some (.int .i64 a0_3) := (bc_ BK164.out 3).trans rfl; have hcz32_4 : w30.cell? ⟨gb164, 4, none⟩ = some (.int .i64 a0_4) := (bc_ BK164.out 4).trans rfl; have hcz32_5 : w30.cell? ⟨gb164, 5, none⟩ = some (.int .i64 a0_5) := (bc_ BK164.out 5).trans rfl; have hcz32_6 : w30.cell? ⟨gb164, 6, none⟩ = some (.int .i64 a0_6) := (bc_ BK164.out 6).trans rfl; have hcz32_7 : w30.cell? ⟨gb164, 7, none⟩ = some (.slice A0_7 l0_7.length c0_7) := (bc_ BK164.out 7).trans rfl; have hfz32_0 := bf_ BK164.out 0; have hfz32_1 := bf_ BK164.out 1; have hfz32_2 := bf_ BK164.out 2; have hfz32_3 := bf_ BK164.out 3; have hfz32_4 := bf_ BK164.out 4; have hfz32_5 := bf_ BK164.out 5; have hfz32_6 := bf_ BK164.out 6; have hfz32_7 := bf_ BK164.out 7; have hcz33_0 : w30.cell? ⟨gb165, 0, none⟩ = some (.string a1_0) := (bc_ BK165.out 0).trans rfl; have hcz33_1 : w30.cell? ⟨gb165, 1, none⟩ = some (.string a1_1) := (bc_ BK165.out 1).trans rfl; have hcz33_2 : w30.cell? ⟨gb165, 2, none⟩ = some (.int .u8 a1_2) := (bc_ BK165.out 2).trans rfl; have hcz33_3 : w30.cell? ⟨gb165, 3, none⟩ = some (.int .i64 a1_3) := (bc_ BK165.out 3).trans rfl; have hcz33_4 : w30.cell? ⟨gb165, 4, none⟩ = some (.int .i64 a1_4) := (bc_ BK165.out 4).trans rfl; have hcz33_5 : w30.cell? ⟨gb165, 5, none⟩ = some (.int .i64 a1_5) := (bc_ BK165.out 5).trans rfl; have hcz33_6 : w30.cell? ⟨gb165, 6, none⟩ = some (.int .i64 a1_6) := (bc_ BK165.out 6).trans rfl; have hcz33_7 : w30.cell? ⟨gb165, 7, none⟩ = some (.slice A1_7 l1_7.length c1_7) := (bc_ BK165.out 7).trans rfl; have hfz33_0 := bf_ BK165.out 0; have hfz33_1 := bf_ BK165.out 1; have hfz33_2 := bf_ BK165.out 2; have hfz33_3 := bf_ BK165.out 3; have hfz33_4 := bf_ BK165.out 4; have hfz33_5 := bf_ BK165.out 5; have hfz33_6 := bf_ BK165.out 6; have hfz33_7 := bf_ BK165.out 7))
  go_ret
  exact ⟨we_, wb2_ HB.out GE164.out GE165.out⟩
 rw [if_pos c3] at H
 have c3b0 : (a0_0.toList == a1_0.toList) = true := beq_iff_eq.mpr c3
 have c3b1 : (a0_0.toList != a1_0.toList) = false := bne_eq_false_iff_eq.mpr c3
 clear c3
 by_cases c4 : a0_1.toList = a1_1.toList
 rotate_left
 ·rw [if_neg c4] at H
  have c4b0 : (a0_1.toList == a1_1.toList) = false := beq_eq_false_iff_ne.mpr c4
  have c4b1 : (a0_1.toList != a1_1.toList) = true := bne_iff_ne.mpr c4
  obtain rfl := Option.some.inj H
  go_enter Tryd.func42, Tryd.ntmps42
  go_wp2_with (first | ((with_reducible refine gate_dst (N := 2) rfl ?_); refine box_event ?hg (N := 2) ?hd (cs := #[.string a0_0, .string a0_1, .int .u8 a0_2, .int .i64 a0_3, .int .i64 a0_4, .int .i64 a0_5, .int .i64 a0_6, .slice A0_7 l0_7.length c0_7]) (t := 45) ?hr ?_; (case hd => rfl); (case hg => rfl); (case hr => first | (go_simp; done) | (go_simp; rfl)); intro gb164 hg w24 hbox hb; have n0_ := A0_ (below_step (wb_ HB.out) hb); have n1_ := A0_ (hbox); have n2_ := A0_ ((by rw [hg]; exact (below_size (wb_ HB.out)) : w.heap.size ≤ gb164)); have n3_ := A0_ ((by rw [hg]; exact (below_size (wb_ HB.out)) : w.heap.size ≤ gb164)); clear HB; have HB := n0_; have BK164 := n1_; have GW164 := n2_; have GE164 := n3_; clear n0_ n1_ n2_ n3_; clear hb hbox hg) | ((with_reducible refine gate_dst (N := 3) rfl ?_); refine box_event ?hg (N := 3) ?hd (cs := #[.string a1_0, .string a1_1, .int .u8 a1_2, .int .i64 a1_3, .int .i64 a1_4, .int .i64 a1_5, .int .i64 a1_6, .slice A1_7 l1_7.length c1_7]) (t := 45) ?hr ?_; (case hd => rfl); (case hg => rfl); (case hr => first | (go_simp; done) | (go_simp; rfl)); intro gb165 hg w25 hbox hb; have n0_ := A0_ (blk_below (g := gb164) (o := .cells #[.string a0_0, .string a0_1, .int .u8 a0_2, .int .i64 a0_3, .int .i64 a0_4, .int .i64 a0_5, .int .i64 a0_6, .slice A0_7 l0_7.length c0_7] 45 (0, 0)) (wB_ BK164.out) hb); have n1_ := A0_ (below_step (wb1_ HB.out GE164.out) hb); have n2_ := A0_ (hbox); have n3_ := A0_ ((by rw [hg]; exact (below_size (wb1_ HB.out GE164.out)) : w.heap.size ≤ gb165)); have n4_ := A0_ ((by rw [hg]; exact (below_size (wb1_ HB.out GE164.out)) : w.heap.size ≤ gb165)); have n5_ := A0_ ((by rw [hg]; exact Nat.ne_of_lt (blk_lt (g := gb164) (o := .cells #[.string a0_0, .string a0_1, .int .u8 a0_2, .int .i64 a0_3, .int .i64 a0_4, .int .i64 a0_5, .int .i64 a0_6, .slice A0_7 l0_7.length c0_7] 45 (0, 0)) (wB_ BK164.out)) : gb164 ≠ gb165)); have n6_ := A0_ ((by rw [hg]; exact Nat.ne_of_gt (blk_lt (g := gb164) (o := .cells #[.string a0_0, .string a0_1, .int .u8 a0_2, .int .i64 a0_3, .int .i64 a0_4, .int .i64 a0_5, .int .i64 a0_6, .slice A0_7 l0_7.length c0_7] 45 (0, 0)) (wB_ BK164.out)) : gb165 ≠ gb164)); clear BK164; clear HB; have BK164 := n0_; have HB := n1_; have BK165 := n2_; have GW165 := n3_; have GE165 := n4_; have NB164_165 := n5_; have NB165_164 := n6_; clear n0_ n1_ n2_ n3_ n4_ n5_ n6_; clear hb hbox hg; have hnb26 := NB164_165.out; have hnc26 := NB165_164.out; have hcz27_0 : w25.cell? ⟨gb164, 0, none⟩ = some (.string a0_0) := (bc_ BK164.out 0).trans rfl; have hcz27_1 : w25.cell? ⟨gb164, 1, none⟩ = some (.string a0_1) := (bc_ BK164.out 1).trans rfl; have hcz27_2 : w25.cell? ⟨gb164, 2, none⟩ = some (.int .u8 a0_2) := (bc_ BK164.out 2).trans rfl; have hcz27_3 : w25.cell? ⟨gb164, 3, none⟩ = some (.int .i64 a0_3) := (bc_ BK164.out 3).trans rfl; have hcz27_4 : w25.cell? ⟨gb164, 4, none⟩ = some (.int .i64 a0_4) := (bc_ BK164.out 4).trans rfl; have hcz27_5 : w25.cell? ⟨gb164, 5, none⟩ = some (.int .i64 a0_5) := (bc_ BK164.out 5).trans rfl; have hcz27_6 : w25.cell? ⟨gb164, 6, none⟩ = some (.int .i64 a0_6) := (bc_ BK164.out 6).trans rfl; have hcz27_7 : w25.cell? ⟨gb164, 7, none⟩ = some (.slice A0_7 l0_7.length c0_7) := (bc_ BK164.out 7).trans rfl; have hfz27_0 := bf_ BK164.out 0; have hfz27_1 := bf_ BK164.out 1; have hfz27_2 := bf_ BK164.out 2; have hfz27_3 := bf_ BK164.out 3; have hfz27_4 := bf_ BK164.out 4; have hfz27_5 := bf_ BK164.out 5; have hfz27_6 := bf_ BK164.out 6; have hfz27_7 := bf_ BK164.out 7; have hcz28_0 : w25.cell? ⟨gb165, 0, none⟩ = some (.string a1_0) := (bc_ BK165.out 0).trans rfl; have hcz28_1 : w25.cell? ⟨gb165, 1, none⟩ = some (.string a1_1) := (bc_ BK165.out 1).trans rfl; have hcz28_2 : w25.cell? ⟨gb165, 2, none⟩ = some (.int .u8 a1_2) := (bc_ BK165.out 2).trans rfl; have hcz28_3 : w25.cell? ⟨gb165, 3, none⟩ = some (.int .i64 a1_3) := (bc_ BK165.out 3).trans rfl; have hcz28_4 : w25.cell? ⟨gb165, 4, none⟩ = some (.int .i64 a1_4) := (bc_ BK165.out 4).trans rfl; have hcz28_5 : w25.cell? ⟨gb165, 5, none⟩ = some (.int .i64 a1_5) := (bc_ BK165.out 5).trans rfl; have hcz28_6 : w25.cell? ⟨gb165, 6, none⟩ = some (.int .i64 a1_6) := (bc_ BK165.out 6).trans rfl; have hcz28_7 : w25.cell? ⟨gb165, 7, none⟩ = some (.slice A1_7 l1_7.length c1_7) := (bc_ BK165.out 7).trans rfl; have hfz28_0 := bf_ BK165.out 0; have hfz28_1 := bf_ BK165.out 1; have hfz28_2 := bf_ BK165.out 2; have hfz28_3 := bf_ BK165.out 3; have hfz28_4 := bf_ BK165.out 4; have hfz28_5 := bf_ BK165.out 5; have hfz28_6 := bf_ BK165.out 6; have hfz28_7 := bf_ BK165.out 7))
  go_ret
  exact ⟨we_, wb2_ HB.out GE164.out GE165.out⟩
 rw [if_pos c4] at H
 have c4b0 : (a0_1.toList == a1_1.toList) = true := beq_iff_eq.mpr c4
 have c4b1 : (a0_1.toList != a1_1.toList) = false := bne_eq_false_iff_eq.mpr c4
 clear c4
 by_cases c5 : a0_2 = a1_2
 rotate_left
 ·rw [if_neg c5] at H
  have c5b0 : (a0_2 == a1_2) = false := beq_eq_false_iff_ne.mpr c5
  have c5b1 : (a0_2 != a1_2) = true := bne_iff_ne.mpr c5
  obtain rfl := Option.some.inj H
  go_enter Tryd.func42, Tryd.ntmps42
  go_wp2_with (first | ((with_reducible refine gate_dst (N := 2) rfl ?_); refine box_event ?hg (N := 2) ?hd (cs := #[.string a0_0, .string a0_1, .int .u8 a0_2, .int .i64 a0_3, .int .i64 a0_4, .int .i64 a0_5, .int .i64 a0_6, .slice A0_7 l0_7.length c0_7]) (t := 45) ?hr ?_; (case hd => rfl); (case hg => rfl); (case hr => first | (go_simp; done) | (go_simp; rfl)); intro gb164 hg w19 hbox hb; have n0_ := A0_ (below_step (wb_ HB.out) hb); have n1_ := A0_ (hbox); have n2_ := A0_ ((by rw [hg]; exact (below_size (wb_ HB.out)) : w.heap.size ≤ gb164)); have n3_ := A0_ ((by rw [hg]; exact (below_size (wb_ HB.out)) : w.heap.size ≤ gb164)); clear HB; have HB := n0_; have BK164 := n1_; have GW164 := n2_; have GE164 := n3_; clear n0_ n1_ n2_ n3_; clear hb hbox hg) | ((with_reducible refine gate_dst (N := 3) rfl ?_); refine box_event ?hg (N := 3) ?hd (cs := #[.string a1_0, .string a1_1, .int .u8 a1_2, .int .i64 a1_3, .int .i64 a1_4, .int .i64 a1_5, .int .i64 a1_6, .slice A1_7 l1_7.length c1_7]) (t := 45) ?hr ?_; (case hd => rfl); (case hg => rfl); (case hr => first | (go_simp; done) | (go_simp; rfl)); intro gb165 hg w20 hbox hb; have n0_ := A0_ (blk_below (g := gb164) (o := .cells #[.string a0_0, .string a0_1, .int .u8 a0_2, .int .i64 a0_3, .int .i64 a0_4, .int .i64 a0_5, .int .i64 a0_6, .slice A0_7 l0_7.length c0_7] 45 (0, 0)) (wB_ BK164.out) hb); have n1_ := A0_ (below_step (wb1_ HB.out GE164.out) hb); have n2_ := A0_ (hbox); have n3_ := A0_ ((by rw [hg]; exact (below_size (wb1_ HB.out GE164.out)) : w.heap.size ≤ gb165)); have n4_ := A0_ ((by rw [hg]; exact (below_size (wb1_ HB.out GE164.out)) : w.heap.size ≤ gb165)); have n5_ := A0_ ((by rw [hg]; exact Nat.ne_of_lt (blk_lt (g := gb164) (o := .cells #[.string a0_0, .string a0_1, .int .u8 a0_2, .int .i64 a0_3, .int .i64 a0_4, .int .i64 a0_5, .int .i64 a0_6, .slice A0_7 l0_7.length c0_7] 45 (0, 0)) (wB_ BK164.out)) : gb164 ≠ gb165)); have n6_ := A0_ ((by rw [hg]; exact Nat.ne_of_gt (blk_lt (g := gb164) (o := .cells #[.string a0_0, .string a0_1, .int .u8 a0_2, .int .i64 a0_3, .int .i64 a0_4, .int .i64 a0_5, .int .i64 a0_6, .slice A0_7 l0_7.length c0_7] 45 (0, 0)) (wB_ BK164.out)) : gb165 ≠ gb164)); clear BK164; clear HB; have BK164 := n0_; have HB := n1_; have BK165 := n2_; have GW165 := n3_; have GE165 := n4_; have NB164_165 := n5_; have NB165_164 := n6_; clear n0_ n1_ n2_ n3_ n4_ n5_ n6_; clear hb hbox hg; have hnb21 := NB164_165.out; have hnc21 := NB165_164.out; have hcz22_0 : w20.cell? ⟨gb164, 0, none⟩ = some (.string a0_0) := (bc_ BK164.out 0).trans rfl; have hcz22_1 : w20.cell? ⟨gb164, 1, none⟩ = some (.string a0_1) := (bc_ BK164.out 1).trans rfl; have hcz22_2 : w20.cell? ⟨gb164, 2, none⟩ = some (.int .u8 a0_2) := (bc_ BK164.out 2).trans rfl; have hcz22_3 : w20.cell? ⟨gb164, 3, none⟩ = some (.int .i64 a0_3) := (bc_ BK164.out 3).trans rfl; have hcz22_4 : w20.cell? ⟨gb164, 4, none⟩ = some (.int .i64 a0_4) := (bc_ BK164.out 4).trans rfl; have hcz22_5 : w20.cell? ⟨gb164, 5, none⟩ = some (.int .i64 a0_5) := (bc_ BK164.out 5).trans rfl; have hcz22_6 : w20.cell? ⟨gb164, 6, none⟩ = some (.int .i64 a0_6) := (bc_ BK164.out 6).trans rfl; have hcz22_7 : w20.cell? ⟨gb164, 7, none⟩ = some (.slice A0_7 l0_7.length c0_7) := (bc_ BK164.out 7).trans rfl; have hfz22_0 := bf_ BK164.out 0; have hfz22_1 := bf_ BK164.out 1; have hfz22_2 := bf_ BK164.out 2; have hfz22_3 := bf_ BK164.out 3; have hfz22_4 := bf_ BK164.out 4; have hfz22_5 := bf_ BK164.out 5; have hfz22_6 := bf_ BK164.out 6; have hfz22_7 := bf_ BK164.out 7; have hcz23_0 : w20.cell? ⟨gb165, 0, none⟩ = some (.string a1_0) := (bc_ BK165.out 0).trans rfl; have hcz23_1 : w20.cell? ⟨gb165, 1, none⟩ = some (.string a1_1) := (bc_ BK165.out 1).trans rfl; have hcz23_2 : w20.cell? ⟨gb165, 2, none⟩ = some (.int .u8 a1_2) := (bc_ BK165.out 2).trans rfl; have hcz23_3 : w20.cell? ⟨gb165, 3, none⟩ = some (.int .i64 a1_3) := (bc_ BK165.out 3).trans rfl; have hcz23_4 : w20.cell? ⟨gb165, 4, none⟩ = some (.int .i64 a1_4) := (bc_ BK165.out 4).trans rfl; have hcz23_5 : w20.cell? ⟨gb165, 5, none⟩ = some (.int .i64 a1_5) := (bc_ BK165.out 5).trans rfl; have hcz23_6 : w20.cell? ⟨gb165, 6, none⟩ = some (.int .i64 a1_6) := (bc_ BK165.out 6).trans rfl; have hcz23_7 : w20.cell? ⟨gb165, 7, none⟩ = some (.slice A1_7 l1_7.length c1_7) := (bc_ BK165.out 7).trans rfl; have hfz23_0 := bf_ BK165.out 0; have hfz23_1 := bf_ BK165.out 1; have hfz23_2 := bf_ BK165.out 2; have hfz23_3 := bf_ BK165.out 3; have hfz23_4 := bf_ BK165.out 4; have hfz23_5 := bf_ BK165.out 5; have hfz23_6 := bf_ BK165.out 6; have hfz23_7 := bf_ BK165.out 7))
  go_ret
  exact ⟨we_, wb2_ HB.out GE164.out GE165.out⟩
 rw [if_pos c5] at H
 have c5b0 : (a0_2 == a1_2) = true := beq_iff_eq.mpr c5
 have c5b1 : (a0_2 != a1_2) = false := bne_eq_false_iff_eq.mpr c5
 clear c5
 by_cases c6 : (a0_3 == a1_3 && (a0_4 == a1_4 && (a0_5 == a1_5 && (a0_6 == a1_6)))) = true
 rotate_left
 ·rw [if_neg c6] at H
  have c6b0 : (a0_3 == a1_3 && (a0_4 == a1_4 && (a0_5 == a1_5 && (a0_6 == a1_6)))) = false := by simpa using c6
  (try (have c6b1 : decide (a0_3 = a1_3 && (a0_4 == a1_4 && (a0_5 == a1_5 && (a0_6 == a1_6)))) = false := by simpa using c6))
  (try (have c6b2 : (a0_3 == a1_3 && (a0_4 == a1_4 && (a0_5 == a1_5 && (a0_6 == a1_6)))) = false := by simpa using c6))
  (try (have c6b3 : ¬ (a0_3 = a1_3 && (a0_4 == a1_4 && (a0_5 == a1_5 && (a0_6 == a1_6)))) := by simpa using c6))
  clear c6
  obtain rfl := Option.some.inj H
  go_enter Tryd.func42, Tryd.ntmps42
  go_wp2_with (first | ((with_reducible refine gate_dst (N := 2) rfl ?_); refine box_event ?hg (N := 2) ?hd (cs := #[.string a0_0, .string a0_1, .int .u8 a0_2, .int .i64 a0_3, .int .i64 a0_4, .int .i64 a0_5, .int .i64 a0_6, .slice A0_7 l0_7.length c0_7]) (t := 45) ?hr ?_; (case hd => rfl); (case hg => rfl); (case hr => first | (go_simp; done) | (go_simp; rfl)); intro gb164 hg w14 hbox hb; have n0_ := A0_ (below_step (wb_ HB.out) hb); have n1_ := A0_ (hbox); have n2_ := A0_ ((by rw [hg]; exact (below_size (wb_ HB.out)) : w.heap.size ≤ gb164)); have n3_ := A0_ ((by rw [hg]; exact (below_size (wb_ HB.out)) : w.heap.size ≤ gb164)); clear HB; have HB := n0_; have BK164 := n1_; have GW164 := n2_; have GE164 := n3_; clear n0_ n1_ n2_ n3_; clear hb hbox hg) | ((with_reducible refine gate_dst (N := 3) rfl ?_); refine box_event ?hg (N := 3) ?hd (cs := #[.string a1_0, .string a1_1, .int .u8 a1_2, .int .i64 a1_3, .int .i64 a1_4, .int .i64 a1_5, .int .i64 a1_6, .slice A1_7 l1_7.length c1_7]) (t := 45) ?hr ?_; (case hd => rfl); (case hg => rfl); (case hr => first | (go_simp; done) | (go_simp; rfl)); intro gb165 hg w15 hbox hb; have n0_ := A0_ (blk_below (g := gb164) (o := .cells #[.string a0_0, .string a0_1, .int .u8 a0_2, .int .i64 a0_3, .int .i64 a0_4, .int .i64 a0_5, .int .i64 a0_6, .slice A0_7 l0_7.length c0_7] 45 (0, 0)) (wB_ BK164.out) hb); have n1_ := A0_ (below_step (wb1_ HB.out GE164.out) hb); have n2_ := A0_ (hbox); have n3_ := A0_ ((by rw [hg]; exact (below_size (wb1_ HB.out GE164.out)) : w.heap.size ≤ gb165)); have n4_ := A0_ ((by rw [hg]; exact (below_size (wb1_ HB.out GE164.out)) : w.heap.size ≤ gb165)); have n5_ := A0_ ((by rw [hg]; exact Nat.ne_of_lt (blk_lt (g := gb164) (o := .cells #[.string a0_0, .string a0_1, .int .u8 a0_2, .int .i64 a0_3, .int .i64 a0_4, .int .i64 a0_5, .int .i64 a0_6, .slice A0_7 l0_7.length c0_7] 45 (0, 0)) (wB_ BK164.out)) : gb164 ≠ gb165)); have n6_ := A0_ ((by rw [hg]; exact Nat.ne_of_gt (blk_lt (g := gb164) (o := .cells #[.string a0_0, .string a0_1, .int .u8 a0_2, .int .i64 a0_3, .int .i64 a0_4, .int .i64 a0_5, .int .i64 a0_6, .slice A0_7 l0_7.length c0_7] 45 (0, 0)) (wB_ BK164.out)) : gb165 ≠ gb164)); clear BK164; clear HB; have BK164 := n0_; have HB := n1_; have BK165 := n2_; have GW165 := n3_; have GE165 := n4_; have NB164_165 := n5_; have NB165_164 := n6_; clear n0_ n1_ n2_ n3_ n4_ n5_ n6_; clear hb hbox hg; have hnb16 := NB164_165.out; have hnc16 := NB165_164.out; have hcz17_0 : w15.cell? ⟨gb164, 0, none⟩ = some (.string a0_0) := (bc_ BK164.out 0).trans rfl; have hcz17_1 : w15.cell? ⟨gb164, 1, none⟩ = some (.string a0_1) := (bc_ BK164.out 1).trans rfl; have hcz17_2 : w15.cell? ⟨gb164, 2, none⟩ = some (.int .u8 a0_2) := (bc_ BK164.out 2).trans rfl; have hcz17_3 : w15.cell? ⟨gb164, 3, none⟩ = some (.int .i64 a0_3) := (bc_ BK164.out 3).trans rfl; have hcz17_4 : w15.cell? ⟨gb164, 4, none⟩ = some (.int .i64 a0_4) := (bc_ BK164.out 4).trans rfl; have hcz17_5 : w15.cell? ⟨gb164, 5, none⟩ = some (.int .i64 a0_5) := (bc_ BK164.out 5).trans rfl; have hcz17_6 : w15.cell? ⟨gb164, 6, none⟩ = some (.int .i64 a0_6) := (bc_ BK164.out 6).trans rfl; have hcz17_7 : w15.cell? ⟨gb164, 7, none⟩ = some (.slice A0_7 l0_7.length c0_7) := (bc_ BK164.out 7).trans rfl; have hfz17_0 := bf_ BK164.out 0; have hfz17_1 := bf_ BK164.out 1; have hfz17_2 := bf_ BK164.out 2; have hfz17_3 := bf_ BK164.out 3; have hfz17_4 := bf_ BK164.out 4; have hfz17_5 := bf_ BK164.out 5; have hfz17_6 := bf_ BK164.out 6; have hfz17_7 := bf_ BK164.out 7; have hcz18_0 : w15.cell? ⟨gb165, 0, none⟩ = some (.string a1_0) := (bc_ BK165.out 0).trans rfl; have hcz18_1 : w15.cell? ⟨gb165, 1, none⟩ = some (.string a1_1) := (bc_ BK165.out 1).trans rfl; have hcz18_2 : w15.cell? ⟨gb165, 2, none⟩ = some (.int .u8 a1_2) := (bc_ BK165.out 2).trans rfl; have hcz18_3 : w15.cell? ⟨gb165, 3, none⟩ = some (.int .i64 a1_3) := (bc_ BK165.out 3).trans rfl; have hcz18_4 : w15.cell? ⟨gb165, 4, none⟩ = some (.int .i64 a1_4) := (bc_ BK165.out 4).trans rfl; have hcz18_5 : w15.cell? ⟨gb165, 5, none⟩ = some (.int .i64 a1_5) := (bc_ BK165.out 5).trans rfl; have hcz18_6 : w15.cell? ⟨gb165, 6, none⟩ = some (.int .i64 a1_6) := (bc_ BK165.out 6).trans rfl; have hcz18_7 : w15.cell? ⟨gb165, 7, none⟩ = some (.slice A1_7 l1_7.length c1_7) := (bc_ BK165.out 7).trans rfl; have hfz18_0 := bf_ BK165.out 0; have hfz18_1 := bf_ BK165.out 1; have hfz18_2 := bf_ BK165.out 2; have hfz18_3 := bf_ BK165.out 3; have hfz18_4 := bf_ BK165.out 4; have hfz18_5 := bf_ BK165.out 5; have hfz18_6 := bf_ BK165.out 6; have hfz18_7 := bf_ BK165.out 7))
  go_ret
  exact ⟨we_, wb2_ HB.out GE164.out GE165.out⟩
 rw [if_pos c6] at H
 have c6b0 : (a0_3 == a1_3 && (a0_4 == a1_4 && (a0_5 == a1_5 && (a0_6 == a1_6)))) = true := c6
 (try (have c6b1 : decide (a0_3 = a1_3 && (a0_4 == a1_4 && (a0_5 == a1_5 && (a0_6 == a1_6)))) = true := by simpa using c6))
 (try (have c6b2 : (a0_3 == a1_3 && (a0_4 == a1_4 && (a0_5 == a1_5 && (a0_6 == a1_6)))) = true := by simpa using c6))
 clear c6
 obtain rfl := Option.some.inj H
 go_enter Tryd.func42, Tryd.ntmps42
 go_wp2_with (first | ((with_reducible refine gate_dst (N := 2) rfl ?_); refine box_event ?hg (N := 2) ?hd (cs := #[.string a0_0, .string a0_1, .int .u8 a0_2, .int .i64 a0_3, .int .i64 a0_4, .int .i64 a0_5, .int .i64 a0_6, .slice A0_7 l0_7.length c0_7]) (t := 45) ?hr ?_; (case hd => rfl); (case hg => rfl); (case hr => first | (go_simp; done) | (go_simp; rfl)); intro gb164 hg w7 hbox hb; have n0_ := A0_ (below_step (wb_ HB.out) hb); have n1_ := A0_ (hbox); have n2_ := A0_ ((by rw [hg]; exact (below_size (wb_ HB.out)) : w.heap.size ≤ gb164)); have n3_ := A0_ ((by rw [hg]; exact (below_size (wb_ HB.out)) : w.heap.size ≤ gb164)); clear HB; have HB := n0_; have BK164 := n1_; have GW164 := n2_; have GE164 := n3_; clear n0_ n1_ n2_ n3_; clear hb hbox hg) | ((with_reducible refine gate_dst (N := 3) rfl ?_); refine box_event ?hg (N := 3) ?hd (cs := #[.string a1_0, .string a1_1, .int .u8 a1_2, .int .i64 a1_3, .int .i64 a1_4, .int .i64 a1_5, .int .i64 a1_6, .slice A1_7 l1_7.length c1_7]) (t := 45) ?hr ?_; (case hd => rfl); (case hg => rfl); (case hr => first | (go_simp; done) | (go_simp; rfl)); intro gb165 hg w8 hbox hb; have n0_ := A0_ (blk_below (g := gb164) (o := .cells #[.string a0_0, .string a0_1, .int .u8 a0_2, .int .i64 a0_3, .int .i64 a0_4, .int .i64 a0_5, .int .i64 a0_6, .slice A0_7 l0_7.length c0_7] 45 (0, 0)) (wB_ BK164.out) hb); have n1_ := A0_ (below_step (wb1_ HB.out GE164.out) hb); have n2_ := A0_ (hbox); have n3_ := A0_ ((by rw [hg]; exact (below_size (wb1_ HB.out GE164.out)) : w.heap.size ≤ gb165)); have n4_ := A0_ ((by rw [hg]; exact (below_size (wb1_ HB.out GE164.out)) : w.heap.size ≤ gb165)); have n5_ := A0_ ((by rw [hg]; exact Nat.ne_of_lt (blk_lt (g := gb164) (o := .cells #[.string a0_0, .string a0_1, .int .u8 a0_2, .int .i64 a0_3, .int .i64 a0_4, .int .i64 a0_5, .int .i64 a0_6, .slice A0_7 l0_7.length c0_7] 45 (0, 0)) (wB_ BK164.out)) : gb164 ≠ gb165)); have n6_ := A0_ ((by rw [hg]; exact Nat.ne_of_gt (blk_lt (g := gb164) (o := .cells #[.string a0_0, .string a0_1, .int .u8 a0_2, .int .i64 a0_3, .int .i64 a0_4, .int .i64 a0_5, .int .i64 a0_6, .slice A0_7 l0_7.length c0_7] 45 (0, 0)) (wB_ BK164.out)) : gb165 ≠ gb164)); clear BK164; clear HB; have BK164 := n0_; have HB := n1_; have BK165 := n2_; have GW165 := n3_; have GE165 := n4_; have NB164_165 := n5_; have NB165_164 := n6_; clear n0_ n1_ n2_ n3_ n4_ n5_ n6_; clear hb hbox hg; have hnb9 := NB164_165.out; have hnc9 := NB165_164.out; have hcz10_0 : w8.cell? ⟨gb164, 0, none⟩ = some (.string a0_0) := (bc_ BK164.out 0).trans rfl; have hcz10_1 : w8.cell? ⟨gb164, 1, none⟩ = some (.string a0_1) := (bc_ BK164.out 1).trans rfl; have hcz10_2 : w8.cell? ⟨gb164, 2, none⟩ = some (.int .u8 a0_2) := (bc_ BK164.out 2).trans rfl; have hcz10_3 : w8.cell? ⟨gb164, 3, none⟩ = some (.int .i64 a0_3) := (bc_ BK164.out 3).trans rfl; have hcz10_4 : w8.cell? ⟨gb164, 4, none⟩ = some (.int .i64 a0_4) := (bc_ BK164.out 4).trans rfl; have hcz10_5 : w8.cell? ⟨gb164, 5, none⟩ = some (.int .i64 a0_5) := (bc_ BK164.out 5).trans rfl; have hcz10_6 : w8.cell? ⟨gb164, 6, none⟩ = some (.int .i64 a0_6) := (bc_ BK164.out 6).trans rfl; have hcz10_7 : w8.cell? ⟨gb164, 7, none⟩ = some (.slice A0_7 l0_7.length c0_7) := (bc_ BK164.out 7).trans rfl; have hfz10_0 := bf_ BK164.out 0; have hfz10_1 := bf_ BK164.out 1; have hfz10_2 := bf_ BK164.out 2; have hfz10_3 := bf_ BK164.out 3; have hfz10_4 := bf_ BK164.out 4; have hfz10_5 := bf_ BK164.out 5; have hfz10_6 := bf_ BK164.out 6; have hfz10_7 := bf_ BK164.out 7; have hcz11_0 : w8.cell? ⟨gb165, 0, none⟩ = some (.string a1_0) := (bc_ BK165.out 0).trans rfl; have hcz11_1 : w8.cell? ⟨gb165, 1, none⟩ = some (.string a1_1) := (bc_ BK165.out 1).trans rfl; have hcz11_2 : w8.cell? ⟨gb165, 2, none⟩ = some (.int .u8 a1_2) := (bc_ BK165.out 2).trans rfl; have hcz11_3 : w8.cell? ⟨gb165, 3, none⟩ = some (.int .i64 a1_3) := (bc_ BK165.out 3).trans rfl; have hcz11_4 : w8.cell? ⟨gb165, 4, none⟩ = some (.int .i64 a1_4) := (bc_ BK165.out 4).trans rfl; have hcz11_5 : w8.cell? ⟨gb165, 5, none⟩ = some (.int .i64 a1_5) := (bc_ BK165.out 5).trans rfl; have hcz11_6 : w8.cell? ⟨gb165, 6, none⟩ = some (.int .i64 a1_6) := (bc_ BK165.out 6).trans rfl; have hcz11_7 : w8.cell? ⟨gb165, 7, none⟩ = some (.slice A1_7 l1_7.length c1_7) := (bc_ BK165.out 7).trans rfl; have hfz11_0 := bf_ BK165.out 0; have hfz11_1 := bf_ BK165.out 1; have hfz11_2 := bf_ BK165.out 2; have hfz11_3 := bf_ BK165.out 3; have hfz11_4 := bf_ BK165.out 4; have hfz11_5 := bf_ BK165.out 5; have hfz11_6 := bf_ BK165.out 6; have hfz11_7 := bf_ BK165.out 7; have hcv12 := Kd.C_string (P := Tryd.prog) (A := A0_7) (c := c0_7) Tryd.underlying23 Tryd.underlying5 Tryd.underlying9 (Kd.C_below HR0_7.out HB.out); have hcv13 := Kd.C_string (P := Tryd.prog) (A := A1_7) (c := c1_7) Tryd.underlying23 Tryd.underlying5 Tryd.underlying9 (Kd.C_below HR1_7.out HB.out)))
 go_ret
 exact ⟨we_, wb2_ HB.out GE164.out GE165.out⟩
end Go.Proofs.YtfljbidecljlcaaDoor.Print

namespace Go.Proofs.YtfljbidecljlcaaDoor.Print
open Go.RowKit Go.Proofs.YtfljbidecljlcaaDoorW.PrintWords Go.Proofs.YtfljbidecljlcaaDoorW.PrintLast Go.Proofs.YtfljbidecljlcaaDoorW.PrintMore
attribute [local go_sem] max2_int min2_int max_two min_two max_three min_three max_four min_four   -- for this text's walks alone
set_option linter.unusedVariables false
set_option linter.unusedSimpArgs false
abbrev q19_0 : Array Bool := #[false, false, false, false, false, false, false, false, false, false]
abbrev q19_1 : Array Bool := #[true, false, false, false, false, false, false, false, false, false]
abbrev q19_2 : Array Bool := #[true, true, false, false, false, false, false, false, false, false]
abbrev q19_3 : Array Bool := #[true, true, true, false, false, false, false, false, false, false]
abbrev q19_4 : Array Bool := #[true, true, true, false, true, false, false, false, false, false]
abbrev q19_5 : Array Bool := #[true, true, true, false, true, true, false, false, false, false]
abbrev q19_6 : Array Bool := #[true, true, true, false, true, true, true, false, false, false]
abbrev q19_7 : Array Bool := #[true, true, true, true, true, true, true, false, false, false]
abbrev q19_8 : Array Bool := #[true, true, true, true, true, true, true, true, false, false]
abbrev q19_9 : Array Bool := #[true, true, true, true, true, true, true, true, true, false]
abbrev q19_10 : Array Bool := #[true, true, true, true, true, true, true, true, true, true]
def bindleref08_SameAll.l0 : Nat → List (S45) → List (S45) → Int → Option (Bool)
 | 0, _, _, _ => none
 | k + 1, x0, x1, x5 => if x5 < (x0.length : Int) then (if 0 ≤ x5 then (if x5 < (x1.length : Int) then ((bindleref08_Same.f ((rd_T45 x0 x5).f0) ((rd_T45 x0 x5).f1) ((rd_T45 x0 x5).f2) ((rd_T45 x0 x5).f3.f0) ((rd_T45 x0 x5).f3.f1) ((rd_T45 x0 x5).f3.f2) ((rd_T45 x0 x5).f3.f3) ((rd_T45 x0 x5).f4) ((rd_T45 x1 x5).f0) ((rd_T45 x1 x5).f1) ((rd_T45 x1 x5).f2) ((rd_T45 x1 x5).f3.f0) ((rd_T45 x1 x5).f3.f1) ((rd_T45 x1 x5).f3.f2) ((rd_T45 x1 x5).f3.f3) ((rd_T45 x1 x5).f4)).bind fun t168 => (if t168 = true then (bindleref08_SameAll.l0 k x0 x1 (wrap64 (x5 + 1))) else (some false))) else (none)) else (none)) else (some true)
def bindleref08_SameAll.f (k : Nat) (l0 : List (S45)) (l1 : List (S45)) : Option (Bool) := if (l0.length : Int) = (l1.length : Int) then (bindleref08_SameAll.l0 k l0 l1 0) else (some false)
def bindleref08_SameAll.T6 : Bool × List (List Nat × List Nat) := (true, [([], []), ([], []), ([0, 1], [0, 1]), ([2], [2]), ([], []), ([], []), ([4, 5], [4, 5]), ([6], [6]), ([3, 7], [3, 7]), ([8], [8])])
def bindleref08_SameAll.B6 : List Nat := [0, 0, 3, 7, 0, 0, 48, 112, 255, 511]
theorem bindleref08_SameAll.tab6 : rtab .any (opsOf Tryd.f19 6) = bindleref08_SameAll.T6 := by kernel_rfl
theorem bindleref08_SameAll.bits6 : waitsOk bindleref08_SameAll.T6.2 bindleref08_SameAll.B6 = true := by kernel_rfl
set_option maxHeartbeats 8000000 in
set_option maxRecDepth 100000 in
theorem bindleref08_SameAll.calls (k : Nat) (A0 : Option Addr) (c0 : Nat) (l0 : List (S45)) (A1 : Option Addr) (c1 : Nat) (l1 : List (S45)) (r : Bool) (w : World) (hr0 : Kd.C k45 w A0 l0.length l0) (hc0 : l0.length ≤ c0) (hr1 : Kd.C k45 w A1 l1.length l1) (hc1 : l1.length ≤ c1) (h : bindleref08_SameAll.f k l0 l1 = some r) :
  Calls Tryd.prog 19 #[.slice A0 l0.length c0, .slice A1 l1.length c1] w fun e w' => e = .returned (.bool r) ∧ Below w.heap.size w w' := by
 have hu45 := Tryd.underlying45
 have HR0 := A0_ hr0
 have HC0 := A0_ hc0
 clear hr0 hc0
 have HR1 := A0_ hr1
 have HC1 := A0_ hc1
 clear hr1 hc1
 have HB := A0_ (Below.refl w.heap.size w)
 have H : (if (l0.length : Int) = (l1.length : Int) then (bindleref08_SameAll.l0 k l0 l1 0) else (some false)) = some r := h
 clear h
 by_cases c3 : (l0.length : Int) = (l1.length : Int)
 rotate_left
 ·rw [if_neg c3] at H
  have c3b0 : ((l0.length : Int) == (l1.length : Int)) = false := beq_eq_false_iff_ne.mpr c3
  have c3b1 : ((l0.length : Int) != (l1.length : Int)) = true := bne_iff_ne.mpr c3
  have c3b2 : (l0.length == l1.length) = false := by first | simpa using c3 | (simp at c3 ⊢; omega)
  obtain rfl := Option.some.inj H
  go_enter Tryd.func19, Tryd.ntmps19
  go_wp2
  go_ret
  exact ⟨we_, wb_ HB.out⟩
 rw [if_pos c3] at H
 have c3b0 : ((l0.length : Int) == (l1.length : Int)) = true := beq_iff_eq.mpr c3
 have c3b1 : ((l0.length : Int) != (l1.length : Int)) = false := bne_eq_false_iff_eq.mpr c3
 have c3b2 : (l0.length == l1.length) = true := by first | simpa using c3 | (simp at c3 ⊢; omega)
 clear c3
 have H' := A0_ H
 clear H
 go_enter Tryd.func19, Tryd.ntmps19
 go_wp2
 go_loopg [5] k (fun kq v5 w' => ∃ (x5_1 : Int), v5 = .int .i64 x5_1 ∧ Aside0 (bindleref08_SameAll.l0 kq l0 l1 x5_1 = some r) ∧ Aside0 (kq ≤ k) ∧ Aside0 (Below w.heap.size w w'))
 case atStart => exact ⟨(0), wr_, H', ⟨Nat.le_refl _⟩, ⟨wb_ HB.out⟩⟩
 case round =>
  clear H'
  try clear c1
  try clear p2
  try clear c3
  try clear c3b0
  try clear c3b1
  try clear c3b2
  obtain ⟨x5_1, rfl, HA, HK1, HB⟩ := hrel
  cases gk with
  | zero => exact absurd HA.out (by simp [bindleref08_SameAll.l0])
  | succ k1 =>
   have H := HA.out
   clear HA
   simp only [bindleref08_SameAll.l0] at H
   by_cases c4 : x5_1 < (l0.length : Int)
   rotate_left
   ·rw [if_neg c4] at H
    have c4b0 : decide (x5_1 < (l0.length : Int)) = false := decide_eq_false c4
    clear c4
    obtain rfl := Option.some.inj H
    go_wp2
    go_ret
    exact ⟨we_, wb_ HB.out⟩
   rw [if_pos c4] at H
   have c4b0 : decide (x5_1 < (l0.length : Int)) = true := decide_eq_true c4
   clear c4
   by_cases c5 : 0 ≤ x5_1
   rotate_left
   ·rw [if_neg c5] at H
    exact absurd H (by simp)
   rw [if_pos c5] at H
   have c5b0 : decide (0 ≤ x5_1) = true := decide_eq_true c5
   clear c5
   by_cases c6 : x5_1 < (l1.length : Int)
   rotate_left
   ·rw [if_neg c6] at H
    exact absurd H (by simp)
   rw [if_pos c6] at H
   have c6b0 : decide (x5_1 < (l1.length : Int)) = true := decide_eq_true c6
   clear c6
   replace H := Option.bind_eq_some_iff.mp H
   obtain ⟨t168, A70, H⟩ := H
   replace H : (if t168 = true then (bindleref08_SameAll.l0 k1 l0 l1 (wrap64 (x5_1 + 1))) else (some false)) = some r := H
   have A7 := A0_ A70
   clear A70
   by_cases c8 : t168 = true
   rotate_left
   ·replace c8 := Bool.eq_false_iff.mpr c8
    subst c8
    have H1 : (some false) = some r := by rw [if_neg (show ¬ (false = true) by decide)] at H; exact H
    clear H
    have H := H1
    clear H1
    obtain rfl := Option.some.inj H
    try go_wp2
    have n0_ := A0_ (b1_ HB.out)
    clear HB
    have HB := n0_
    clear n0_
    have p166 : 0 ≤ (x5_1 : Int) := wd_
    have q166 : x5_1 < (l0.length : Int) := wd_
    obtain ⟨ad166, A166_7, c166_7, e166, hx166_0, hx166_1, hx166_2, hx166_3, hx166_4, hx166_5, hx166_6, hx166_7, hl166_7, hi166_7⟩ := at_T45 HR0.out x5_1 p166 q166
    have hw166_7 := hx166_7
    have hw166_6 := hx166_6
    have hw166_5 := hx166_5
    have hw166_4 := hx166_4
    have hw166_3 := hx166_3
    have hw166_2 := hx166_2
    have hw166_1 := hx166_1
    have hw166_0 := hx166_0
    cases e166
    replace hx166_0 := (HB.out.cell (World.block_lt_of_cell? w _ hx166_0)).trans hx166_0
    replace hx166_1 := (HB.out.cell (World.block_lt_of_cell? w _ hx166_1)).trans hx166_1
    replace hx166_2 := (HB.out.cell (World.block_lt_of_cell? w _ hx166_2)).trans hx166_2
    replace hx166_3 := (HB.out.cell (World.block_lt_of_cell? w _ hx166_3)).trans hx166_3
    replace hx166_4 := (HB.out.cell (World.block_lt_of_cell? w _ hx166_4)).trans hx166_4
    replace hx166_5 := (HB.out.cell (World.block_lt_of_cell? w _ hx166_5)).trans hx166_5
    replace hx166_6 := (HB.out.cell (World.block_lt_of_cell? w _ hx166_6)).trans hx166_6
    replace hx166_7 := (HB.out.cell (World.block_lt_of_cell? w _ hx166_7)).trans hx166_7
    have HR166_7 := A0_ hi166_7
    have HC166_7 := A0_ hl166_7
    clear hi166_7 hl166_7
    replace p166 := eq_true p166
    replace q166 := eq_true q166
    have p167 : 0 ≤ (x5_1 : Int) := wd_
    have q167 : x5_1 < (l1.length : Int) := wd_
    obtain ⟨ad167, A167_7, c167_7, e167, hx167_0, hx167_1, hx167_2, hx167_3, hx167_4, hx167_5, hx167_6, hx167_7, hl167_7, hi167_7⟩ := at_T45 HR1.out x5_1 p167 q167
    have hw167_7 := hx167_7
    have hw167_6 := hx167_6
    have hw167_5 := hx167_5
    have hw167_4 := hx167_4
    have hw167_3 := hx167_3
    have hw167_2 := hx167_2
    have hw167_1 := hx167_1
    have hw167_0 := hx167_0
    cases e167
    replace hx167_0 := (HB.out.cell (World.block_lt_of_cell? w _ hx167_0)).trans hx167_0
    replace hx167_1 := (HB.out.cell (World.block_lt_of_cell? w _ hx167_1)).trans hx167_1
    replace hx167_2 := (HB.out.cell (World.block_lt_of_cell? w _ hx167_2)).trans hx167_2
    replace hx167_3 := (HB.out.cell (World.block_lt_of_cell? w _ hx167_3)).trans hx167_3
    replace hx167_4 := (HB.out.cell (World.block_lt_of_cell? w _ hx167_4)).trans hx167_4
    replace hx167_5 := (HB.out.cell (World.block_lt_of_cell? w _ hx167_5)).trans hx167_5
    replace hx167_6 := (HB.out.cell (World.block_lt_of_cell? w _ hx167_6)).trans hx167_6
    replace hx167_7 := (HB.out.cell (World.block_lt_of_cell? w _ hx167_7)).trans hx167_7
    have HR167_7 := A0_ hi167_7
    have HC167_7 := A0_ hl167_7
    clear hi167_7 hl167_7
    replace p167 := eq_true p167
    replace q167 := eq_true q167
    refine start_ (n := 10) (S := fun w' => w'.cell? (ad166.add ((x5_1).toNat * 8)) = some (.string ((rd_T45 l0 x5_1).f0)) ∧ w'.cell? ⟨(ad166.add ((x5_1).toNat * 8)).block, (ad166.add ((x5_1).toNat * 8)).off + 1, none⟩ = some (.string ((rd_T45 l0 x5_1).f1)) ∧ w'.cell? ⟨(ad166.add ((x5_1).toNat * 8)).block, (ad166.add ((x5_1).toNat * 8)).off + 2, none⟩ = some (.int .u8 ((rd_T45 l0 x5_1).f2)) ∧ w'.cell? ⟨(ad166.add ((x5_1).toNat * 8)).block, (ad166.add ((x5_1).toNat * 8)).off + 3, none⟩ = some (.int .i64 ((rd_T45 l0 x5_1).f3.f0)) ∧ w'.cell? ⟨(ad166.add ((x5_1).toNat * 8)).block, (ad166.add ((x5_1).toNat * 8)).off + 4, none⟩ = some (.int .i64 ((rd_T45 l0 x5_1).f3.f1)) ∧ w'.cell? ⟨(ad166.add ((x5_1).toNat * 8)).block, (ad166.add ((x5_1).toNat * 8)).off + 5, none⟩ = some (.int .i64 ((rd_T45 l0 x5_1).f3.f2)) ∧ w'.cell? ⟨(ad166.add ((x5_1).toNat * 8)).block, (ad166.add ((x5_1).toNat * 8)).off + 6, none⟩ = some (.int .i64 ((rd_T45 l0 x5_1).f3.f3)) ∧ w'.cell? ⟨(ad166.add ((x5_1).toNat * 8)).block, (ad166.add ((x5_1).toNat * 8)).off + 7, none⟩ = some (.slice A166_7 ((rd_T45 l0 x5_1).f4).length c166_7) ∧ w'.cell? (ad167.add ((x5_1).toNat * 8)) = some (.string ((rd_T45 l1 x5_1).f0)) ∧ w'.cell? ⟨(ad167.add ((x5_1).toNat * 8)).block, (ad167.add ((x5_1).toNat * 8)).off + 1, none⟩ = some (.string ((rd_T45 l1 x5_1).f1)) ∧ w'.cell? ⟨(ad167.add ((x5_1).toNat * 8)).block, (ad167.add ((x5_1).toNat * 8)).off + 2, none⟩ = some (.int .u8 ((rd_T45 l1 x5_1).f2)) ∧ w'.cell? ⟨(ad167.add ((x5_1).toNat * 8)).block, (ad167.add ((x5_1).toNat * 8)).off + 3, none⟩ = some (.int .i64 ((rd_T45 l1 x5_1).f3.f0)) ∧ w'.cell? ⟨(ad167.add ((x5_1).toNat * 8)).block, (ad167.add ((x5_1).toNat * 8)).off + 4, none⟩ = some (.int .i64 ((rd_T45 l1 x5_1).f3.f1)) ∧ w'.cell? ⟨(ad167.add ((x5_1).toNat * 8)).block, (ad167.add ((x5_1).toNat * 8)).off + 5, none⟩ = some (.int .i64 ((rd_T45 l1 x5_1).f3.f2)) ∧ w'.cell? ⟨(ad167.add ((x5_1).toNat * 8)).block, (ad167.add ((x5_1).toNat * 8)).off + 6, none⟩ = some (.int .i64 ((rd_T45 l1 x5_1).f3.f3)) ∧ w'.cell? ⟨(ad167.add ((x5_1).toNat * 8)).block, (ad167.add ((x5_1).toNat * 8)).off + 7, none⟩ = some (.slice A167_7 ((rd_T45 l1 x5_1).f4).length c167_7)) (ds := []) q19_0 (by kernel_rfl) rfl rfl ⟨((HB.out.cell (World.block_lt_of_cell? w _ hw166_0)).trans hw166_0), ((HB.out.cell (World.block_lt_of_cell? w _ hw166_1)).trans hw166_1), ((HB.out.cell (World.block_lt_of_cell? w _ hw166_2)).trans hw166_2), ((HB.out.cell (World.block_lt_of_cell? w _ hw166_3)).trans hw166_3), ((HB.out.cell (World.block_lt_of_cell? w _ hw166_4)).trans hw166_4), ((HB.out.cell (World.block_lt_of_cell? w _ hw166_5)).trans hw166_5), ((HB.out.cell (World.block_lt_of_cell? w _ hw166_6)).trans hw166_6), ((HB.out.cell (World.block_lt_of_cell? w _ hw166_7)).trans hw166_7), ((HB.out.cell (World.block_lt_of_cell? w _ hw167_0)).trans hw167_0), ((HB.out.cell (World.block_lt_of_cell? w _ hw167_1)).trans hw167_1), ((HB.out.cell (World.block_lt_of_cell? w _ hw167_2)).trans hw167_2), ((HB.out.cell (World.block_lt_of_cell? w _ hw167_3)).trans hw167_3), ((HB.out.cell (World.block_lt_of_cell? w _ hw167_4)).trans hw167_4), ((HB.out.cell (World.block_lt_of_cell? w _ hw167_5)).trans hw167_5), ((HB.out.cell (World.block_lt_of_cell? w _ hw167_6)).trans hw167_6), ((HB.out.cell (World.block_lt_of_cell? w _ hw167_7)).trans hw167_7)⟩ (fun hHeld => ?_); refine with_tabW bindleref08_SameAll.tab6 bindleref08_SameAll.bits6 (fun HT_ HW_ => ?_)
    generalize wr.drew = w11 at HB HR166_7 HR167_7 hx166_0 hx166_1 hx166_2 hx166_3 hx166_4 hx166_5 hx166_6 hx166_7 hx167_0 hx167_1 hx167_2 hx167_3 hx167_4 hx167_5 hx167_6 hx167_7 hHeld ⊢
    refine pur_ (i := 0) (N := some 17) q19_1 (any_of HT_.out (by kernel_rfl)) ?_
    refine pur_ (i := 1) (N := some 18) q19_2 (any_of HT_.out (by kernel_rfl)) ?_
    refine pur_ (i := 2) (N := some 19) q19_3 (any_of HT_.out (by kernel_rfl)) ?_
    refine pur_ (i := 4) (N := some 21) q19_4 (any_of HT_.out (by kernel_rfl)) ?_
    refine pur_ (i := 5) (N := some 22) q19_5 (any_of HT_.out (by kernel_rfl)) ?_
    refine pur_ (i := 6) (N := some 23) q19_6 (any_of HT_.out (by kernel_rfl)) ?_
    refine take_ (i := 3) (N := some 20) (v := ?_) (a' := ?_) q19_7 rfl rfl (take_ofW HT_.out HW_.out (by kernel_rfl)) (fun _ _ _ h => h) (Or.inl ⟨by rfl, ?_⟩) hHeld ?_ ?_
    rotate_left
    ·rintro w' ⟨s0, s1, s2, s3, s4, s5, s6, s7, s8, s9, s10, s11, s12, s13, s14, s15⟩
     go_simp
     with_reducible rfl
    rotate_left
    ·simp only [Act.put, List.setIfInBounds_toArray, List.set_cons_zero, List.set_cons_succ, i64_w, i32_w]
     rfl
    refine take_ (i := 7) (N := some 24) (v := ?_) (a' := ?_) q19_8 rfl rfl (take_ofW HT_.out HW_.out (by kernel_rfl)) (fun _ _ _ h => h) (Or.inl ⟨by rfl, ?_⟩) hHeld ?_ ?_
    rotate_left
    ·rintro w' ⟨s0, s1, s2, s3, s4, s5, s6, s7, s8, s9, s10, s11, s12, s13, s14, s15⟩
     go_simp
     with_reducible rfl
    rotate_left
    ·simp only [Act.put, List.setIfInBounds_toArray, List.set_cons_zero, List.set_cons_succ, i64_w, i32_w]
     rfl
    refine one_ (i := 8) (N := some 25) q19_9 rfl rfl (one_of HT_.out (by kernel_rfl)) (by decide) (fun K hK => ?_)
    refine goes_ Tryd.func42 (by kernel_rfl) rfl #[.agg #[.string ((rd_T45 l0 x5_1).f0), .string ((rd_T45 l0 x5_1).f1), .int .u8 ((rd_T45 l0 x5_1).f2), .int .i64 ((rd_T45 l0 x5_1).f3.f0), .int .i64 ((rd_T45 l0 x5_1).f3.f1), .int .i64 ((rd_T45 l0 x5_1).f3.f2), .int .i64 ((rd_T45 l0 x5_1).f3.f3), .slice A166_7 ((rd_T45 l0 x5_1).f4).length c166_7], .agg #[.string ((rd_T45 l1 x5_1).f0), .string ((rd_T45 l1 x5_1).f1), .int .u8 ((rd_T45 l1 x5_1).f2), .int .i64 ((rd_T45 l1 x5_1).f3.f0), .int .i64 ((rd_T45 l1 x5_1).f3.f1), .int .i64 ((rd_T45 l1 x5_1).f3.f2), .int .i64 ((rd_T45 l1 x5_1).f3.f3), .slice A167_7 ((rd_T45 l1 x5_1).f4).length c167_7]] (by rfl) rfl rfl wm_ ?_
    with_reducible refine (bindleref08_Same.calls ((rd_T45 l0 x5_1).f0) ((rd_T45 l0 x5_1).f1) ((rd_T45 l0 x5_1).f2) ((rd_T45 l0 x5_1).f3.f0) ((rd_T45 l0 x5_1).f3.f1) ((rd_T45 l0 x5_1).f3.f2) ((rd_T45 l0 x5_1).f3.f3) _ _ ((rd_T45 l0 x5_1).f4) ((rd_T45 l1 x5_1).f0) ((rd_T45 l1 x5_1).f1) ((rd_T45 l1 x5_1).f2) ((rd_T45 l1 x5_1).f3.f0) ((rd_T45 l1 x5_1).f3.f1) ((rd_T45 l1 x5_1).f3.f2) ((rd_T45 l1 x5_1).f3.f3) _ _ ((rd_T45 l1 x5_1).f4) false _ ?side1 ?side2 ?side3 ?side4 A7.out).mono ?_
    (case side1 => exact wc_ (Kd.C_below HR166_7.out HB.out))
    (case side2 => exact HC166_7.out)
    (case side3 => exact wc_ (Kd.C_below HR167_7.out HB.out))
    (case side4 => exact HC167_7.out)
    rintro e w12 ⟨rfl, hb⟩
    refine ⟨_, rfl, ?_⟩
    have n0_ := A0_ (below_step (wb_ HB.out) hb)
    clear HB
    have HB := n0_
    clear n0_
    (try clear hb)
    (try clear hb2)
    (try clear hk)
    (try clear hi)
    refine hK.out _ _ ⟨((HB.out.cell (World.block_lt_of_cell? w _ hw166_0)).trans hw166_0), ((HB.out.cell (World.block_lt_of_cell? w _ hw166_1)).trans hw166_1), ((HB.out.cell (World.block_lt_of_cell? w _ hw166_2)).trans hw166_2), ((HB.out.cell (World.block_lt_of_cell? w _ hw166_3)).trans hw166_3), ((HB.out.cell (World.block_lt_of_cell? w _ hw166_4)).trans hw166_4), ((HB.out.cell (World.block_lt_of_cell? w _ hw166_5)).trans hw166_5), ((HB.out.cell (World.block_lt_of_cell? w _ hw166_6)).trans hw166_6), ((HB.out.cell (World.block_lt_of_cell? w _ hw166_7)).trans hw166_7), ((HB.out.cell (World.block_lt_of_cell? w _ hw167_0)).trans hw167_0), ((HB.out.cell (World.block_lt_of_cell? w _ hw167_1)).trans hw167_1), ((HB.out.cell (World.block_lt_of_cell? w _ hw167_2)).trans hw167_2), ((HB.out.cell (World.block_lt_of_cell? w _ hw167_3)).trans hw167_3), ((HB.out.cell (World.block_lt_of_cell? w _ hw167_4)).trans hw167_4), ((HB.out.cell (World.block_lt_of_cell? w _ hw167_5)).trans hw167_5), ((HB.out.cell (World.block_lt_of_cell? w _ hw167_6)).trans hw167_6), ((HB.out.cell (World.block_lt_of_cell? w _ hw167_7)).trans hw167_7)⟩ (fun hHeld => ?_)
    clear hK K
    refine norm_ (a' := ?_) ?_ ?_
    rotate_left
    ·show Act.put _ (some 25) _ = _
     simp only [Act.put, List.setIfInBounds_toArray, List.set_cons_zero, List.set_cons_succ, i64_w, i32_w]
     rfl
    refine pur_ (i := 9) (N := some 26) q19_10 (any_of HT_.out (by kernel_rfl)) ?_
    refine done_ (done_of HT_.out (by kernel_rfl)) ?_
    try go_wp2
    go_ret
    exact ⟨we_, wb_ HB.out⟩
   subst c8
   have H1 : (bindleref08_SameAll.l0 k1 l0 l1 (wrap64 (x5_1 + 1))) = some r := by rw [if_pos rfl] at H; exact H
   clear H
   have H := H1
   clear H1
   have H' := A0_ H
   clear H
   try go_wp2
   have n0_ := A0_ (b1_ HB.out)
   clear HB
   have HB := n0_
   clear n0_
   have p166 : 0 ≤ (x5_1 : Int) := wd_
   have q166 : x5_1 < (l0.length : Int) := wd_
   obtain ⟨ad166, A166_7, c166_7, e166, hx166_0, hx166_1, hx166_2, hx166_3, hx166_4, hx166_5, hx166_6, hx166_7, hl166_7, hi166_7⟩ := at_T45 HR0.out x5_1 p166 q166
   have hw166_7 := hx166_7
   have hw166_6 := hx166_6
   have hw166_5 := hx166_5
   have hw166_4 := hx166_4
   have hw166_3 := hx166_3
   have hw166_2 := hx166_2
   have hw166_1 := hx166_1
   have hw166_0 := hx166_0
   cases e166
   replace hx166_0 := (HB.out.cell (World.block_lt_of_cell? w _ hx166_0)).trans hx166_0
   replace hx166_1 := (HB.out.cell (World.block_lt_of_cell? w _ hx166_1)).trans hx166_1
   replace hx166_2 := (HB.out.cell (World.block_lt_of_cell? w _ hx166_2)).trans hx166_2
   replace hx166_3 := (HB.out.cell (World.block_lt_of_cell? w _ hx166_3)).trans hx166_3
   replace hx166_4 := (HB.out.cell (World.block_lt_of_cell? w _ hx166_4)).trans hx166_4
   replace hx166_5 := (HB.out.cell (World.block_lt_of_cell? w _ hx166_5)).trans hx166_5
   replace hx166_6 := (HB.out.cell (World.block_lt_of_cell? w _ hx166_6)).trans hx166_6
   replace hx166_7 := (HB.out.cell (World.block_lt_of_cell? w _ hx166_7)).trans hx166_7
   have HR166_7 := A0_ hi166_7
   have HC166_7 := A0_ hl166_7
   clear hi166_7 hl166_7
   replace p166 := eq_true p166
   replace q166 := eq_true q166
   have p167 : 0 ≤ (x5_1 : Int) := wd_
   have q167 : x5_1 < (l1.length : Int) := wd_
   obtain ⟨ad167, A167_7, c167_7, e167, hx167_0, hx167_1, hx167_2, hx167_3, hx167_4, hx167_5, hx167_6, hx167_7, hl167_7, hi167_7⟩ := at_T45 HR1.out x5_1 p167 q167
   have hw167_7 := hx167_7
   have hw167_6 := hx167_6
   have hw167_5 := hx167_5
   have hw167_4 := hx167_4
   have hw167_3 := hx167_3
   have hw167_2 := hx167_2
   have hw167_1 := hx167_1
   have hw167_0 := hx167_0
   cases e167
   replace hx167_0 := (HB.out.cell (World.block_lt_of_cell? w _ hx167_0)).trans hx167_0
   replace hx167_1 := (HB.out.cell (World.block_lt_of_cell? w _ hx167_1)).trans hx167_1
   replace hx167_2 := (HB.out.cell (World.block_lt_of_cell? w _ hx167_2)).trans hx167_2
   replace hx167_3 := (HB.out.cell (World.block_lt_of_cell? w _ hx167_3)).trans hx167_3
   replace hx167_4 := (HB.out.cell (World.block_lt_of_cell? w _ hx167_4)).trans hx167_4
   replace hx167_5 := (HB.out.cell (World.block_lt_of_cell? w _ hx167_5)).trans hx167_5
   replace hx167_6 := (HB.out.cell (World.block_lt_of_cell? w _ hx167_6)).trans hx167_6
   replace hx167_7 := (HB.out.cell (World.block_lt_of_cell? w _ hx167_7)).trans hx167_7
   have HR167_7 := A0_ hi167_7
   have HC167_7 := A0_ hl167_7
   clear hi167_7 hl167_7
   replace p167 := eq_true p167
   replace q167 := eq_true q167
   refine start_ (n := 10) (S := fun w' => w'.cell? (ad166.add ((x5_1).toNat * 8)) = some (.string ((rd_T45 l0 x5_1).f0)) ∧ w'.cell? ⟨(ad166.add ((x5_1).toNat * 8)).block, (ad166.add ((x5_1).toNat * 8)).off + 1, none⟩ = some (.string ((rd_T45 l0 x5_1).f1)) ∧ w'.cell? ⟨(ad166.add ((x5_1).toNat * 8)).block, (ad166.add ((x5_1).toNat * 8)).off + 2, none⟩ = some (.int .u8 ((rd_T45 l0 x5_1).f2)) ∧ w'.cell? ⟨(ad166.add ((x5_1).toNat * 8)).block, (ad166.add ((x5_1).toNat * 8)).off + 3, none⟩ = some (.int .i64 ((rd_T45 l0 x5_1).f3.f0)) ∧ w'.cell? ⟨(ad166.add ((x5_1).toNat * 8)).block, (ad166.add ((x5_1).toNat * 8)).off + 4, none⟩ = some (.int .i64 ((rd_T45 l0 x5_1).f3.f1)) ∧ w'.cell? ⟨(ad166.add ((x5_1).toNat * 8)).block, (ad166.add ((x5_1).toNat * 8)).off + 5, none⟩ = some (.int .i64 ((rd_T45 l0 x5_1).f3.f2)) ∧ w'.cell? ⟨(ad166.add ((x5_1).toNat * 8)).block, (ad166.add ((x5_1).toNat * 8)).off + 6, none⟩ = some (.int .i64 ((rd_T45 l0 x5_1).f3.f3)) ∧ w'.cell? ⟨(ad166.add ((x5_1).toNat * 8)).block, (ad166.add ((x5_1).toNat * 8)).off + 7, none⟩ = some (.slice A166_7 ((rd_T45 l0 x5_1).f4).length c166_7) ∧ w'.cell? (ad167.add ((x5_1).toNat * 8)) = some (.string ((rd_T45 l1 x5_1).f0)) ∧ w'.cell? ⟨(ad167.add ((x5_1).toNat * 8)).block, (ad167.add ((x5_1).toNat * 8)).off + 1, none⟩ = some (.string ((rd_T45 l1 x5_1).f1)) ∧ w'.cell? ⟨(ad167.add ((x5_1).toNat * 8)).block, (ad167.add ((x5_1).toNat * 8)).off + 2, none⟩ = some (.int .u8 ((rd_T45 l1 x5_1).f2)) ∧ w'.cell? ⟨(ad167.add ((x5_1).toNat * 8)).block, (ad167.add ((x5_1).toNat * 8)).off + 3, none⟩ = some (.int .i64 ((rd_T45 l1 x5_1).f3.f0)) ∧ w'.cell? ⟨(ad167.add ((x5_1).toNat * 8)).block, (ad167.add ((x5_1).toNat * 8)).off + 4, none⟩ = some (.int .i64 ((rd_T45 l1 x5_1).f3.f1)) ∧ w'.cell? ⟨(ad167.add ((x5_1).toNat * 8)).block, (ad167.add ((x5_1).toNat * 8)).off + 5, none⟩ = some (.int .i64 ((rd_T45 l1 x5_1).f3.f2)) ∧ w'.cell? ⟨(ad167.add ((x5_1).toNat * 8)).block, (ad167.add ((x5_1).toNat * 8)).off + 6, none⟩ = some (.int .i64 ((rd_T45 l1 x5_1).f3.f3)) ∧ w'.cell? ⟨(ad167.add ((x5_1).toNat * 8)).block, (ad167.add ((x5_1).toNat * 8)).off + 7, none⟩ = some (.slice A167_7 ((rd_T45 l1 x5_1).f4).length c167_7)) (ds := []) q19_0 (by kernel_rfl) rfl rfl ⟨((HB.out.cell (World.block_lt_of_cell? w _ hw166_0)).trans hw166_0), ((HB.out.cell (World.block_lt_of_cell? w _ hw166_1)).trans hw166_1), ((HB.out.cell (World.block_lt_of_cell? w _ hw166_2)).trans hw166_2), ((HB.out.cell (World.block_lt_of_cell? w _ hw166_3)).trans hw166_3), ((HB.out.cell (World.block_lt_of_cell? w _ hw166_4)).trans hw166_4), ((HB.out.cell (World.block_lt_of_cell? w _ hw166_5)).trans hw166_5), ((HB.out.cell (World.block_lt_of_cell? w _ hw166_6)).trans hw166_6), ((HB.out.cell (World.block_lt_of_cell? w _ hw166_7)).trans hw166_7), ((HB.out.cell (World.block_lt_of_cell? w _ hw167_0)).trans hw167_0), ((HB.out.cell (World.block_lt_of_cell? w _ hw167_1)).trans hw167_1), ((HB.out.cell (World.block_lt_of_cell? w _ hw167_2)).trans hw167_2), ((HB.out.cell (World.block_lt_of_cell? w _ hw167_3)).trans hw167_3), ((HB.out.cell (World.block_lt_of_cell? w _ hw167_4)).trans hw167_4), ((HB.out.cell (World.block_lt_of_cell? w _ hw167_5)).trans hw167_5), ((HB.out.cell (World.block_lt_of_cell? w _ hw167_6)).trans hw167_6), ((HB.out.cell (World.block_lt_of_cell? w _ hw167_7)).trans hw167_7)⟩ (fun hHeld => ?_); refine with_tabW bindleref08_SameAll.tab6 bindleref08_SameAll.bits6 (fun HT_ HW_ => ?_)
   generalize wr.drew = w9 at HB HR166_7 HR167_7 hx166_0 hx166_1 hx166_2 hx166_3 hx166_4 hx166_5 hx166_6 hx166_7 hx167_0 hx167_1 hx167_2 hx167_3 hx167_4 hx167_5 hx167_6 hx167_7 hHeld ⊢
   refine pur_ (i := 0) (N := some 17) q19_1 (any_of HT_.out (by kernel_rfl)) ?_
   refine pur_ (i := 1) (N := some 18) q19_2 (any_of HT_.out (by kernel_rfl)) ?_
   refine pur_ (i := 2) (N := some 19) q19_3 (any_of HT_.out (by kernel_rfl)) ?_
   refine pur_ (i := 4) (N := some 21) q19_4 (any_of HT_.out (by kernel_rfl)) ?_
   refine pur_ (i := 5) (N := some 22) q19_5 (any_of HT_.out (by kernel_rfl)) ?_
   refine pur_ (i := 6) (N := some 23) q19_6 (any_of HT_.out (by kernel_rfl)) ?_
   refine take_ (i := 3) (N := some 20) (v := ?_) (a' := ?_) q19_7 rfl rfl (take_ofW HT_.out HW_.out (by kernel_rfl)) (fun _ _ _ h => h) (Or.inl ⟨by rfl, ?_⟩) hHeld ?_ ?_
   rotate_left
   ·rintro w' ⟨s0, s1, s2, s3, s4, s5, s6, s7, s8, s9, s10, s11, s12, s13, s14, s15⟩
    go_simp
    with_reducible rfl
   rotate_left
   ·simp only [Act.put, List.setIfInBounds_toArray, List.set_cons_zero, List.set_cons_succ, i64_w, i32_w]
    rfl
   refine take_ (i := 7) (N := some 24) (v := ?_) (a' := ?_) q19_8 rfl rfl (take_ofW HT_.out HW_.out (by kernel_rfl)) (fun _ _ _ h => h) (Or.inl ⟨by rfl, ?_⟩) hHeld ?_ ?_
   rotate_left
   ·rintro w' ⟨s0, s1, s2, s3, s4, s5, s6, s7, s8, s9, s10, s11, s12, s13, s14, s15⟩
    go_simp
    with_reducible rfl
   rotate_left
   ·simp only [Act.put, List.setIfInBounds_toArray, List.set_cons_zero, List.set_cons_succ, i64_w, i32_w]
    rfl
   refine one_ (i := 8) (N := some 25) q19_9 rfl rfl (one_of HT_.out (by kernel_rfl)) (by decide) (fun K hK => ?_)
   refine goes_ Tryd.func42 (by kernel_rfl) rfl #[.agg #[.string ((rd_T45 l0 x5_1).f0), .string ((rd_T45 l0 x5_1).f1), .int .u8 ((rd_T45 l0 x5_1).f2), .int .i64 ((rd_T45 l0 x5_1).f3.f0), .int .i64 ((rd_T45 l0 x5_1).f3.f1), .int .i64 ((rd_T45 l0 x5_1).f3.f2), .int .i64 ((rd_T45 l0 x5_1).f3.f3), .slice A166_7 ((rd_T45 l0 x5_1).f4).length c166_7], .agg #[.string ((rd_T45 l1 x5_1).f0), .string ((rd_T45 l1 x5_1).f1), .int .u8 ((rd_T45 l1 x5_1).f2), .int .i64 ((rd_T45 l1 x5_1).f3.f0), .int .i64 ((rd_T45 l1 x5_1).f3.f1), .int .i64 ((rd_T45 l1 x5_1).f3.f2), .int .i64 ((rd_T45 l1 x5_1).f3.f3), .slice A167_7 ((rd_T45 l1 x5_1).f4).length c167_7]] (by rfl) rfl rfl wm_ ?_
   with_reducible refine (bindleref08_Same.calls ((rd_T45 l0 x5_1).f0) ((rd_T45 l0 x5_1).f1) ((rd_T45 l0 x5_1).f2) ((rd_T45 l0 x5_1).f3.f0) ((rd_T45 l0 x5_1).f3.f1) ((rd_T45 l0 x5_1).f3.f2) ((rd_T45 l0 x5_1).f3.f3) _ _ ((rd_T45 l0 x5_1).f4) ((rd_T45 l1 x5_1).f0) ((rd_T45 l1 x5_1).f1) ((rd_T45 l1 x5_1).f2) ((rd_T45 l1 x5_1).f3.f0) ((rd_T45 l1 x5_1).f3.f1) ((rd_T45 l1 x5_1).f3.f2) ((rd_T45 l1 x5_1).f3.f3) _ _ ((rd_T45 l1 x5_1).f4) true _ ?side1 ?side2 ?side3 ?side4 A7.out).mono ?_
   (case side1 => exact wc_ (Kd.C_below HR166_7.out HB.out))
   (case side2 => exact HC166_7.out)
   (case side3 => exact wc_ (Kd.C_below HR167_7.out HB.out))
   (case side4 => exact HC167_7.out)
   rintro e w10 ⟨rfl, hb⟩
   refine ⟨_, rfl, ?_⟩
   have n0_ := A0_ (below_step (wb_ HB.out) hb)
   clear HB
   have HB := n0_
   clear n0_
   (try clear hb)
   (try clear hb2)
   (try clear hk)
   (try clear hi)
   refine hK.out _ _ ⟨((HB.out.cell (World.block_lt_of_cell? w _ hw166_0)).trans hw166_0), ((HB.out.cell (World.block_lt_of_cell? w _ hw166_1)).trans hw166_1), ((HB.out.cell (World.block_lt_of_cell? w _ hw166_2)).trans hw166_2), ((HB.out.cell (World.block_lt_of_cell? w _ hw166_3)).trans hw166_3), ((HB.out.cell (World.block_lt_of_cell? w _ hw166_4)).trans hw166_4), ((HB.out.cell (World.block_lt_of_cell? w _ hw166_5)).trans hw166_5), ((HB.out.cell (World.block_lt_of_cell? w _ hw166_6)).trans hw166_6), ((HB.out.cell (World.block_lt_of_cell? w _ hw166_7)).trans hw166_7), ((HB.out.cell (World.block_lt_of_cell? w _ hw167_0)).trans hw167_0), ((HB.out.cell (World.block_lt_of_cell? w _ hw167_1)).trans hw167_1), ((HB.out.cell (World.block_lt_of_cell? w _ hw167_2)).trans hw167_2), ((HB.out.cell (World.block_lt_of_cell? w _ hw167_3)).trans hw167_3), ((HB.out.cell (World.block_lt_of_cell? w _ hw167_4)).trans hw167_4), ((HB.out.cell (World.block_lt_of_cell? w _ hw167_5)).trans hw167_5), ((HB.out.cell (World.block_lt_of_cell? w _ hw167_6)).trans hw167_6), ((HB.out.cell (World.block_lt_of_cell? w _ hw167_7)).trans hw167_7)⟩ (fun hHeld => ?_)
   clear hK K
   refine norm_ (a' := ?_) ?_ ?_
   rotate_left
   ·show Act.put _ (some 25) _ = _
    simp only [Act.put, List.setIfInBounds_toArray, List.set_cons_zero, List.set_cons_succ, i64_w, i32_w]
    rfl
   refine pur_ (i := 9) (N := some 26) q19_10 (any_of HT_.out (by kernel_rfl)) ?_
   refine done_ (done_of HT_.out (by kernel_rfl)) ?_
   try go_wp2
   go_roundg k1
   case measure => have := HK1.out; omega
   case rel => exact ⟨(wrap64 (x5_1 + 1)), wr_, H', ⟨by have := HK1.out; omega⟩, ⟨wb_ HB.out⟩⟩
end Go.Proofs.YtfljbidecljlcaaDoor.Print
